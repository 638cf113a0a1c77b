/- Texts of the claim, joined: what it uses of Ph, Pi, Pj, Pk, Pl, Pm, Po, Rb, Rc, Rd, Re, Rf, Rj, Rh, Rk, Rp, Rm, Rn, Ro, Rq, Sa, Sb, Sc, Sd, Se, Sf. -/
import Derived.Test.YtnefioccdkmegaaGreatDoorZk
import Derived.Sort.Walk0
import Derived.Lib.SlicesCompact
namespace Go.Proofs.YtnefioccdkmegaaGreatDoor.P
open Go Go.RowKit Go.Proofs.YtnefioccdkmegaaGreatDoor.E Go.Proofs.YtnefioccdkmegaaGreatDoor.M
set_option linter.unusedVariables false
set_option linter.unusedSectionVars false
theorem aXq (x y:S47):∃ k,iZ x y=some k∧(decide (k<0))=bef x y:=by
 unfold iZ
 simp only [aEq,Option.bind_some]
 cases bef x y with
 | true=>exact⟨-1,rfl,rfl⟩
 | false=>cases bef y x <;> exact⟨_,rfl,rfl⟩
theorem aG1 {α:Type} (A B:List α) (x y:α):((A++y::x::B).set (A.length+1) y).set A.length x=A++x::y::B:=by
 induction A with
 | nil=>rfl
 | cons a A ih=>simp
theorem aTo (P R s:List S47) (x:S47) (hs:Srt bef s) (hlen:(P++s++x::R).length<2 ^ 40) :
  loop (fun q:List S47×Int=>aQ (P.length:Int) q.1 q.2) (P++s++x::R,((P.length+s.length:Nat):Int))=some (P++ins bef x s++R):=by
 obtain⟨t,ht,rfl⟩:=gN (b:=fun q:List S47×Int=>aQ (P.length:Int) q.1 q.2) (s:=(P++s++x::R,((P.length+s.length:Nat):Int)))
  (fun q=>∃ m:Nat,q=(P++s.take m++x::(s.drop m++R),((P.length+m:Nat):Int))∧m≤s.length∧∀ j y,m≤j→s[j]?=some y→bef x y=true) (fun q=>q.2.toNat)
  (fun t=>t=P++ins bef x s++R) ⟨s.length,by simp,Nat.le_refl _,fun j y hj hy=>by have:=(List.getElem?_eq_some_iff.1 hy).1; omega⟩ (by
   rintro q ⟨m,rfl,hm,hhi⟩
   show (∃ s',aQ (P.length:Int) (P++s.take m++x::(s.drop m++R)) ((P.length+m:Nat):Int)=some (.inl s')∧_)∨∃ t,aQ (P.length:Int) (P++s.take m++x::(s.drop m++R)) ((P.length+m:Nat):Int)=some (.inr t)∧_
   simp only [List.length_append,List.length_cons] at hlen
   have hfin:(∀ y,0<m→s[m - 1]?=some y→bef x y=false)→P++s.take m++x::(s.drop m++R)=P++ins bef x s++R:=by
    intro hlo
    rw [← aPc bef_swo hs hm hlo hhi]
    simp
   unfold aQ cF
   by_cases h0:0<m
   ·have hy:s[m - 1]?=some (s[m - 1]'(by omega)):=List.getElem?_eq_getElem (by omega)
    obtain⟨y,hyd⟩:∃ y,y=s[m - 1]'(by omega):=⟨_,rfl⟩
    rw [← hyd] at hy
    have htk:s.take m=s.take (m - 1)++[y]:=by
     have:=List.take_add_one (l:=s) (i:=m - 1)
     rw [show m - 1+1=m by omega,hy] at this
     simpa using this
    have hL:P++s.take m++x::(s.drop m++R)=(P++s.take (m - 1))++y::x::(s.drop m++R):=by rw [htk]; simp
    have hAl:(P++s.take (m - 1)).length=P.length+(m - 1):=by simp; omega
    obtain⟨A,hA⟩:∃ A,A=P++s.take (m - 1):=⟨_,rfl⟩
    rw [hL, ← hA]
    rw [← hA] at hAl
    have g1:(A++y::x::(s.drop m++R))[P.length+m]?=some x:=by rw [List.getElem?_append_right (by omega),show P.length+m - A.length=1 by omega]; rfl
    have g2:(A++y::x::(s.drop m++R))[P.length+m - 1]?=some y:=by rw [List.getElem?_append_right (by omega),show P.length+m - 1 - A.length=0 by omega]; rfl
    have e1:IntKind.i64.wrap (((P.length+m:Nat):Int) - 1)=((P.length+m - 1:Nat):Int):=by rw [w64 (by omega) (by omega)]; omega
    obtain⟨k,hk,hkb⟩:=aXq x y
    rw [if_pos (by simp only [decide_eq_true_eq]; omega),aH rfl g1,e1,aH rfl g2]
    simp only [Option.bind_some,hk,hkb]
    cases hb:bef x y with
    | true =>
     have g3:((A++y::x::(s.drop m++R)).set (P.length+m) y)[P.length+m - 1]?=some y:=by rw [List.getElem?_set_ne (by omega),g2]
     simp only [Int.toNat_natCast,if_true,aH rfl g3,Option.bind_some]
     refine .inl ⟨_,rfl,⟨m - 1,?_,by omega,fun j z hj hz=>?_⟩,by simp only; omega⟩
     ·have:=aG1 A (s.drop m++R) x y
      rw [hAl,show P.length+(m - 1)+1=P.length+m by omega,show P.length+(m - 1)=P.length+m - 1 by omega] at this
      have hd:s.drop (m - 1)=y::s.drop m:=by rw [List.drop_eq_getElem_cons (show m - 1<s.length by omega), ← hyd,show m - 1+1=m by omega]
      rw [this,hA,show P.length+(m - 1)=P.length+m - 1 by omega,hd]
      rfl
     ·rcases Nat.lt_or_ge j m with h | h
      ·rw [show j=m - 1 by omega,hy] at hz; cases hz; exact hb
      ·exact hhi j z h hz
    | false =>
     simp only [Bool.false_eq_true,if_false]
     refine .inr ⟨_,rfl,?_⟩
     rw [hA, ← hL]
     exact hfin fun z _ hz=>by rw [hy] at hz; cases hz; exact hb
   ·rw [if_neg (by simp only [decide_eq_true_eq]; omega)]
    simp only [Bool.false_eq_true,if_false]
    exact .inr ⟨_,rfl,hfin fun z h=>absurd h h0⟩)
 exact ht
theorem aEw (l:List S47) (a b:Nat) (hab:a≤b) (hb:b≤l.length) (hl:l.length<2 ^ 40) :
  bZ l (a:Int) (b:Int)=some (l.take a++sortL bef ((l.take b).drop a)++l.drop b):=by
 unfold bZ
 rw [w64 (by omega) (by omega)]
 rcases Nat.lt_or_ge a b with hlt | hge
 ·have h1:(l.take (a+1)).drop a=[l[a]'(by omega)]:=by
   rw [List.drop_take,show a+1 - a=1 by omega,List.drop_eq_getElem_cons (by omega)]
   rfl
  have:=aIq (b:=fun s:List S47×Int=>aG (a:Int) (b:Int) s.1 s.2) (fun k=>(l.take a++sortL bef ((l.take k).drop a)++l.drop k,(k:Int))) (t:=l.take a++sortL bef ((l.take b).drop a)++l.drop b) (b - (a+1)) (a+1) (fun k hk1 hk2=>by
   show aG (a:Int) (b:Int) (l.take a++sortL bef ((l.take k).drop a)++l.drop k) (k:Int)=_
   have hkl:k<l.length:=by omega
   have hal:(l.take a).length=a:=by simp; omega
   have hsl:(sortL bef ((l.take k).drop a)).length=k - a:=by rw [aN]; simp; omega
   have hs:=aTo (l.take a) (l.drop (k+1)) (sortL bef ((l.take k).drop a)) (l[k]'hkl) (nD bef_swo _) (by
    simp only [List.length_append,List.length_cons,List.length_drop,hal,hsl]; omega)
   rw [hal,hsl, ← List.drop_eq_getElem_cons hkl,show a+(k - a)=k by omega] at hs
   unfold aG
   rw [if_pos (by simp only [decide_eq_true_eq]; omega),hs]
   simp only [Option.bind_some]
   unfold cP dE
   rw [w64 (by omega) (by omega), ← vG]
   have:(l.take (k+1)).drop a=(l.take k).drop a++[l[k]'hkl]:=by
    rw [List.take_add_one,List.getElem?_eq_getElem hkl,List.drop_append_of_le_length (by simp; omega)]
    rfl
   rw [this]
   rfl) (by
   show aG (a:Int) (b:Int) (l.take a++sortL bef ((l.take (a+1+(b - (a+1)))).drop a)++l.drop (a+1+(b - (a+1)))) ((a+1+(b - (a+1)):Nat):Int)=_
   rw [show a+1+(b - (a+1))=b by omega]
   unfold aG
   rw [if_neg (by simp)])
  have h2:(l,(a:Int)+1)=(l.take a++sortL bef ((l.take (a+1)).drop a)++l.drop (a+1),((a+1:Nat):Int)):=by
   rw [h1]
   have:l.take a++sortL bef [l[a]'(by omega)]++l.drop (a+1)=l:=by
    show l.take a++[l[a]'(by omega)]++l.drop (a+1)=l
    rw [List.append_assoc,List.singleton_append, ← List.drop_eq_getElem_cons (by omega),List.take_append_drop]
   rw [this]; rfl
  rw [h2,this]
  rfl
 ·obtain rfl:a=b:=by omega
  have h0:(l.take a).drop a=[]:=List.drop_eq_nil_of_le (by simp; omega)
  rw [bJ (t:=l) (by
   show aG (a:Int) (a:Int) l ((a:Int)+1)=_
   unfold aG
   rw [if_neg (by simp only [decide_eq_true_eq]; omega)])]
  rw [h0]
  show some l=some (l.take a++[]++l.drop a)
  simp
theorem aKv {α:Type} (A M B:List α) (x y:α):((A++x::(M++y::B)).set A.length y).set (A.length+1+M.length) x=A++y::(M++x::B):=by
 rw [List.set_append_right _ _ (Nat.le_refl _),Nat.sub_self,List.set_cons_zero,List.set_append_right _ _ (by omega),show A.length+1+M.length - A.length=M.length+1 by omega,List.set_cons_succ,List.set_append_right _ _ (Nat.le_refl _),Nat.sub_self,List.set_cons_zero]
theorem yL (A X B Y C:List S47) (h:X.length=Y.length) (hl:(A++X++B++Y++C).length<2 ^ 40) :
  bT (A++X++B++Y++C) (A.length:Int) ((A.length+X.length+B.length:Nat):Int) (X.length:Int)=some (A++Y++B++X++C):=by
 unfold bT
 have:=iO (b:=fun s:List S47×Int=>aZ (A.length:Int) ((A.length+X.length+B.length:Nat):Int) (X.length:Int) s.1 s.2)
  (fun k=>(A++(Y.take k++X.drop k)++B++(X.take k++Y.drop k)++C,(k:Int))) (t:=A++Y++B++X++C) X.length (fun k hk=>by
   show aZ _ _ _ (A++(Y.take k++X.drop k)++B++(X.take k++Y.drop k)++C) (k:Int)=_
   simp only [List.length_append] at hl
   obtain⟨x,hx⟩:∃ x,X[k]?=some x:=⟨_,List.getElem?_eq_getElem hk⟩
   obtain⟨y,hy⟩:∃ y,Y[k]?=some y:=⟨_,List.getElem?_eq_getElem (by omega)⟩
   have hxd:X.drop k=x::X.drop (k+1):=by rw [List.drop_eq_getElem_cons hk,(List.getElem?_eq_some_iff.1 hx).2]
   have hyd:Y.drop k=y::Y.drop (k+1):=by rw [List.drop_eq_getElem_cons (by omega),(List.getElem?_eq_some_iff.1 hy).2]
   have hxt:X.take (k+1)=X.take k++[x]:=by rw [List.take_add_one,hx]; rfl
   have hyt:Y.take (k+1)=Y.take k++[y]:=by rw [List.take_add_one,hy]; rfl
   obtain⟨A',hA⟩:∃ A',A'=A++Y.take k:=⟨_,rfl⟩
   obtain⟨M,hM⟩:∃ M,M=X.drop (k+1)++B++X.take k:=⟨_,rfl⟩
   obtain⟨C',hC⟩:∃ C',C'=Y.drop (k+1)++C:=⟨_,rfl⟩
   have hL:A++(Y.take k++X.drop k)++B++(X.take k++Y.drop k)++C=A'++x::(M++y::C'):=by rw [hxd,hyd,hA,hM,hC]; simp
   have hR:A++(Y.take (k+1)++X.drop (k+1))++B++(X.take (k+1)++Y.drop (k+1))++C=A'++y::(M++x::C'):=by rw [hxt,hyt,hA,hM,hC]; simp
   have hAl:A'.length=A.length+k:=by rw [hA]; simp; omega
   have hMl:A'.length+1+M.length=A.length+X.length+B.length+k:=by rw [hAl,hM]; simp; omega
   have e1:IntKind.i64.wrap (((A.length+X.length+B.length:Nat):Int)+(k:Int))=((A'.length+1+M.length:Nat):Int):=by rw [w64 (by omega) (by omega),hMl]; omega
   have e2:IntKind.i64.wrap ((A.length:Int)+(k:Int))=((A'.length:Nat):Int):=by rw [w64 (by omega) (by omega),hAl]; omega
   rw [hL,hR]
   have g1:(A'++x::(M++y::C'))[A'.length+1+M.length]?=some y:=by
    rw [List.getElem?_append_right (by omega),show A'.length+1+M.length - A'.length=M.length+1 by omega,List.getElem?_cons_succ,List.getElem?_append_right (Nat.le_refl _),Nat.sub_self]; rfl
   have g2:(A'++x::(M++y::C'))[A'.length]?=some x:=by
    rw [List.getElem?_append_right (Nat.le_refl _),Nat.sub_self]; rfl
   have g3:((A'++x::(M++y::C')).set A'.length y)[A'.length+1+M.length]?=some y:=by rw [List.getElem?_set_ne (by omega),g1]
   unfold aZ
   rw [if_pos (by simp only [decide_eq_true_eq]; omega),e1,e2,aH rfl g1,aH rfl g2]
   simp only [Option.bind_some,Int.toNat_natCast]
   rw [aH rfl g3,aKv,w64 (by omega) (by omega)]
   rfl) (by
   show aZ _ _ _ (A++(Y.take X.length++X.drop X.length)++B++(X.take X.length++Y.drop X.length)++C) (X.length:Int)=_
   unfold aZ
   rw [if_neg (by simp)]
   rw [List.take_length,List.drop_length,List.append_nil,h,List.take_length,List.drop_length,List.append_nil])
 simp only [List.take_zero,List.drop_zero,List.nil_append] at this
 rw [show (0:Int)=((0:Nat):Int) from rfl,this]
 rfl
theorem aOn (A U V C:List S47) (hu:0<U.length) (hv:0<V.length) (hl:(A++U++V++C).length<2 ^ 40) :
  eF (A++U++V++C) (A.length:Int) ((A.length+U.length:Nat):Int) ((A.length+U.length+V.length:Nat):Int)=some (A++V++U++C):=by
 simp only [List.length_append] at hl
 unfold eF
 rw [show IntKind.i64.wrap (((A.length+U.length:Nat):Int) - (A.length:Int))=(U.length:Int) by rw [w64 (by omega) (by omega)]; omega,show IntKind.i64.wrap (((A.length+U.length+V.length:Nat):Int) - ((A.length+U.length:Nat):Int))=(V.length:Int) by rw [w64 (by omega) (by omega)]; omega]
 obtain⟨m,hm⟩:∃ m,m=A.length+U.length:=⟨_,rfl⟩
 rw [← hm]
 obtain⟨t,ht,A',P,Q,C',rfl,hPQ,hA',hlen,hfin⟩:=gN (b:=fun s:List S47×Int×Int=>bV (m:Int) s.1 s.2.1 s.2.2) (s:=(A++U++V++C,(U.length:Int),(V.length:Int)))
  (fun s=>∃ A' P Q C':List S47,s=(A'++P++Q++C',(P.length:Int),(Q.length:Int))∧0<P.length∧0<Q.length∧A'.length+P.length=m∧A'.length+P.length+Q.length+C'.length<2 ^ 40∧A'++Q++P++C'=A++V++U++C)
  (fun s=>(s.2.1+s.2.2).toNat)
  (fun t=>∃ A' P Q C':List S47,t=(A'++P++Q++C',(P.length:Int))∧P.length=Q.length∧A'.length+P.length=m∧A'.length+P.length+Q.length+C'.length<2 ^ 40∧A'++Q++P++C'=A++V++U++C)
  ⟨A,U,V,C,rfl,hu,hv,hm.symm,by omega,rfl⟩ (by
   rintro s ⟨A',P,Q,C',rfl,hp,hq,hA',hlen,hfin⟩
   show (∃ s',bV (m:Int) (A'++P++Q++C') (P.length:Int) (Q.length:Int)=some (.inl s')∧_)∨∃ t,bV (m:Int) (A'++P++Q++C') (P.length:Int) (Q.length:Int)=some (.inr t)∧_
   unfold bV
   have e1:IntKind.i64.wrap ((m:Int) - (P.length:Int))=(A'.length:Int):=by rw [w64 (by omega) (by omega)]; omega
   by_cases heq:P.length=Q.length
   ·rw [if_neg (by simp [heq])]
    exact .inr ⟨_,rfl,A',P,Q,C',rfl,heq,hA',hlen,hfin⟩
   rw [if_pos (by simp; omega),e1]
   unfold dL
   by_cases hgt:Q.length<P.length
   ·rw [if_pos (by simp only [decide_eq_true_eq]; omega)]
    have hP:P=P.take Q.length++P.drop Q.length:=(List.take_append_drop _ _).symm
    obtain⟨P1,h1⟩:∃ P1,P1=P.take Q.length:=⟨_,rfl⟩
    obtain⟨P2,h2⟩:∃ P2,P2=P.drop Q.length:=⟨_,rfl⟩
    have l1:P1.length=Q.length:=by rw [h1]; simp; omega
    have l2:P2.length=P.length - Q.length:=by rw [h2]; simp
    rw [← h1, ← h2] at hP
    have hs:=yL A' P1 P2 Q C' l1 (by simp only [List.length_append]; omega)
    rw [show A'++P1++P2++Q++C'=A'++P++Q++C' by rw [hP]; simp,show A'.length+P1.length+P2.length=m by omega,l1] at hs
    rw [hs]
    simp only [Option.bind_some]
    rw [show IntKind.i64.wrap ((P.length:Int) - (Q.length:Int))=(P2.length:Int) by rw [w64 (by omega) (by omega)]; omega]
    refine .inl ⟨_,rfl,⟨A'++Q,P2,P1,C',by rw [l1],by omega,by omega,by simp; omega,by simp only [List.length_append]; omega,?_⟩,by simp only; omega⟩
    rw [← hfin,hP]; simp
   ·rw [if_neg (by simp only [decide_eq_true_eq]; omega)]
    have hQ:Q=Q.take (Q.length - P.length)++Q.drop (Q.length - P.length):=(List.take_append_drop _ _).symm
    obtain⟨Q1,h1⟩:∃ Q1,Q1=Q.take (Q.length - P.length):=⟨_,rfl⟩
    obtain⟨Q2,h2⟩:∃ Q2,Q2=Q.drop (Q.length - P.length):=⟨_,rfl⟩
    have l1:Q1.length=Q.length - P.length:=by rw [h1]; simp
    have l2:Q2.length=P.length:=by rw [h2]; simp; omega
    rw [← h1, ← h2] at hQ
    have hs:=yL A' P Q1 Q2 C' l2.symm (by simp only [List.length_append]; omega)
    rw [show A'++P++Q1++Q2++C'=A'++P++Q++C' by rw [hQ]; simp] at hs
    rw [show IntKind.i64.wrap (IntKind.i64.wrap ((m:Int)+(Q.length:Int)) - (P.length:Int))=((A'.length+P.length+Q1.length:Nat):Int) by rw [w64 (n:=(m:Int)+(Q.length:Int)) (by omega) (by omega),w64 (by omega) (by omega)]; omega,hs]
    simp only [Option.bind_some]
    rw [show IntKind.i64.wrap ((Q.length:Int) - (P.length:Int))=(Q1.length:Int) by rw [w64 (by omega) (by omega)]; omega]
    refine .inl ⟨_,rfl,⟨A',Q2,Q1,P++C',by rw [l2]; simp,by omega,by omega,by omega,by simp only [List.length_append]; omega,?_⟩,by simp only; omega⟩
    rw [← hfin,hQ]; simp)
 rw [ht]
 simp only [Option.bind_some]
 unfold eL eX
 have hs:=yL A' P [] Q C' hPQ (by simp only [List.length_append,List.length_nil]; omega)
 simp only [List.append_nil,List.length_nil,Nat.add_zero] at hs
 rw [show IntKind.i64.wrap ((m:Int) - (P.length:Int))=(A'.length:Int) by rw [w64 (by omega) (by omega)]; omega, ← hA',hs]
 simp only [Option.bind_some]
 rw [hfin]
section
variable {α:Type} {lt:α→α→Bool}
theorem aGc {x:α}:∀ (P:List α) {Q:List α},(∀ q∈Q,lt x q=true)→ins lt x (P++Q)=ins lt x P++Q
 | [],[],_=>rfl
 | [],q::Q,h=>by simp [ins,h q List.mem_cons_self]
 | p::P,Q,h=>by
  simp only [List.cons_append,ins]
  split
  ·rfl
  ·rw [aGc P h]; rfl
theorem aDe {x:α}:∀ {P:List α} (Q:List α),(∀ p∈P,lt x p=false)→ins lt x (P++Q)=P++ins lt x Q
 | [],Q,_=>rfl
 | p::P,Q,h=>by
  simp only [List.cons_append,ins,h p List.mem_cons_self]
  rw [aDe Q fun q hq=>h q (List.mem_cons_of_mem _ hq)]
  rfl
theorem aE9:∀ (X P:List α) {Q:List α},(∀ x∈X,∀ q∈Q,lt x q=true)→X.foldl (fun acc x=>ins lt x acc) (P++Q)=X.foldl (fun acc x=>ins lt x acc) P++Q
 | [],P,Q,_=>rfl
 | x::X,P,Q,h=>by
  rw [List.foldl_cons,aGc P (h x List.mem_cons_self),aE9 X _ fun y hy=>h y (List.mem_cons_of_mem _ hy)]
  rfl
theorem zQ:∀ (Y:List α) {P:List α} (Q:List α),(∀ y∈Y,∀ p∈P,lt y p=false)→Y.foldl (fun acc x=>ins lt x acc) (P++Q)=P++Y.foldl (fun acc x=>ins lt x acc) Q
 | [],P,Q,_=>rfl
 | y::Y,P,Q,h=>by
  rw [List.foldl_cons,aDe Q (h y List.mem_cons_self),zQ Y _ fun z hz=>h z (List.mem_cons_of_mem _ hz)]
  rfl
theorem aE0 {X1 Y1 X2 Y2:List α} (h1:∀ y∈Y1,∀ x∈X1,lt y x=false) (h2:∀ x∈X2,∀ y∈Y1,lt x y=true) (h3:∀ y∈Y2,∀ x∈X1++X2,lt y x=false) :
  sortL lt (X1++Y1++X2++Y2)=sortL lt (X1++X2)++sortL lt (Y1++Y2):=by
 unfold sortL
 rw [List.foldl_append,List.foldl_append,List.foldl_append,List.foldl_append (l:=X1) (l':=X2),List.foldl_append (l:=Y1) (l':=Y2)]
 have e1:=zQ (lt:=lt) Y1 (P:=X1.foldl (fun acc x=>ins lt x acc) []) [] (fun y hy p hp=>h1 y hy p (by simpa using (tN p X1 []).1 hp))
 rw [List.append_nil] at e1
 rw [e1,aE9 X2 _ (fun x hx q hq=>h2 x hx q (by simpa using (tN q Y1 []).1 hq)),zQ Y2 _ fun y hy p hp=>h3 y hy p ?_]
 rcases (tN p X2 _).1 hp with h | h
 ·exact List.mem_append.2 (.inl (by simpa using (tN p X1 []).1 h))
 ·exact List.mem_append.2 (.inr h)
end
theorem aCd (x y:Nat) (h:x+y<2 ^ 60):IntKind.i64.wrap (bS .u64 (IntKind.u64.wrap (IntKind.i64.wrap ((x:Int)+(y:Int)))) 1)=(((x+y) / 2:Nat):Int):=by
 have e:bS .u64 (((x+y:Nat):Int)) 1=(((x+y) / 2:Nat):Int):=by
  unfold bS
  rw [show (1:Int).toNat=1 from rfl,show IntKind.u64.bits=64 from rfl,show min 1 64=1 from rfl,Int.fdiv_eq_ediv_of_nonneg _ (by decide)]
  rfl
 rw [w64 (n:=(x:Int)+(y:Int)) (by omega) (by omega),show (x:Int)+(y:Int)=((x+y:Nat):Int) by omega,IntWalk.u64_in _ ⟨by omega,by omega⟩,e,w64 (by omega) (by omega)]
theorem aLo {b:Int×Int→Option ((Int×Int)⊕Int)} (f:Nat→Bool) (i0 j0:Nat) (hij:i0≤j0)
  (hend:∀ i:Nat,b ((i:Int),(i:Int))=some (.inr (i:Int)))
  (hstep:∀ i j:Nat,i0≤i→i<j→j≤j0→b ((i:Int),(j:Int))=some (.inl (if f ((i+j) / 2)=true then ((((i+j) / 2+1:Nat):Int),(j:Int)) else ((i:Int),(((i+j) / 2:Nat):Int))))) :
  ∃ t:Nat,loop b ((i0:Int),(j0:Int))=some (t:Int)∧i0≤t∧t≤j0∧(i0<t→f (t - 1)=true)∧(t<j0→f t=false):=by
 obtain⟨t,ht,n,rfl,h⟩:=gN (b:=b) (s:=((i0:Int),(j0:Int))) (fun q=>∃ i j:Nat,q=((i:Int),(j:Int))∧i0≤i∧i≤j∧j≤j0∧(i0<i→f (i - 1)=true)∧(j<j0→f j=false)) (fun q=>(q.2 - q.1).toNat)
  (fun t=>∃ n:Nat,t=n∧i0≤n∧n≤j0∧(i0<n→f (n - 1)=true)∧(n<j0→f n=false)) ⟨i0,j0,rfl,Nat.le_refl _,hij,Nat.le_refl _,fun h=>by omega,fun h=>by omega⟩ (by
   rintro q ⟨i,j,rfl,h1,h2,h3,h4,h5⟩
   rcases Nat.lt_or_ge i j with hlt | hge
   ·rw [hstep i j h1 hlt h3]
    cases hf:f ((i+j) / 2) with
    | true=>exact .inl ⟨_,by rw [if_pos rfl],⟨(i+j) / 2+1,j,rfl,by omega,by omega,h3,fun _=>by simpa using hf,h5⟩,by simp only; omega⟩
    | false=>exact .inl ⟨_,by rw [if_neg (by simp)],⟨i,(i+j) / 2,rfl,h1,by omega,by omega,h4,fun _=>hf⟩,by simp only; omega⟩
   ·obtain rfl:i=j:=by omega
    rw [hend]
    exact .inr ⟨_,rfl,i,rfl,h1,h3,h4,h5⟩)
 exact⟨n,ht,h⟩
theorem aUf (A V C:List S47) (x:S47) (hl:(A++x::V++C).length<2 ^ 40) :
  loop (fun s:List S47×Int=>aR ((A.length+1+V.length:Nat):Int) s.1 s.2) (A++x::V++C,(A.length:Int))=some (A++V++x::C):=by
 have hA0:A.length+0=A.length:=rfl
 have:=iO (b:=fun s:List S47×Int=>aR ((A.length+1+V.length:Nat):Int) s.1 s.2) (fun k=>(A++V.take k++x::(V.drop k++C),((A.length+k:Nat):Int))) (t:=A++V++x::C) V.length (fun k hk=>by
  show aR _ (A++V.take k++x::(V.drop k++C)) ((A.length+k:Nat):Int)=_
  simp only [List.length_append,List.length_cons] at hl
  obtain⟨y,hy⟩:∃ y,V[k]?=some y:=⟨_,List.getElem?_eq_getElem hk⟩
  have hyd:V.drop k=y::V.drop (k+1):=by rw [List.drop_eq_getElem_cons hk,(List.getElem?_eq_some_iff.1 hy).2]
  have hyt:V.take (k+1)=V.take k++[y]:=by rw [List.take_add_one,hy]; rfl
  obtain⟨A',hA⟩:∃ A',A'=A++V.take k:=⟨_,rfl⟩
  have hAl:A'.length=A.length+k:=by rw [hA]; simp; omega
  rw [hyd, ← hA,List.cons_append,hyt, ← List.append_assoc, ← hA]
  have g1:(A'++x::y::(V.drop (k+1)++C))[A'.length]?=some x:=by rw [List.getElem?_append_right (Nat.le_refl _),Nat.sub_self]; rfl
  have g2:(A'++x::y::(V.drop (k+1)++C))[A'.length+1]?=some y:=by rw [List.getElem?_append_right (by omega),show A'.length+1 - A'.length=1 by omega]; rfl
  have g3:((A'++x::y::(V.drop (k+1)++C)).set A'.length y)[A'.length+1]?=some y:=by rw [List.getElem?_set_ne (by omega),g2]
  unfold aR
  have e1:IntKind.i64.wrap (((A.length+1+V.length:Nat):Int) - 1)=((A.length+V.length:Nat):Int):=by rw [w64 (by omega) (by omega)]; omega
  have e2:IntKind.i64.wrap (((A.length+k:Nat):Int)+1)=((A'.length+1:Nat):Int):=by rw [w64 (by omega) (by omega)]; omega
  rw [e1,e2, ← hAl,if_pos (by simp only [decide_eq_true_eq]; omega),aH rfl g2,aH rfl g1]
  simp only [Option.bind_some,Int.toNat_natCast]
  rw [aH rfl g3]
  simp only [Option.bind_some]
  have:=aKv A' [] (V.drop (k+1)++C) x y
  simp only [List.nil_append,List.length_nil,Nat.add_zero] at this
  rw [this]
  simp [hAl]
  omega) (by
  show aR _ (A++V.take V.length++x::(V.drop V.length++C)) ((A.length+V.length:Nat):Int)=_
  simp only [List.length_append,List.length_cons] at hl
  unfold aR
  rw [if_neg (by rw [w64 (by omega) (by omega)]; simp only [decide_eq_true_eq]; omega)]
  simp)
 simpa using this
theorem aWe (A U C:List S47) (y:S47) (hl:(A++U++y::C).length<2 ^ 40) :
  loop (fun s:List S47×Int=>aT (A.length:Int) s.1 s.2) (A++U++y::C,((A.length+U.length:Nat):Int))=some (A++y::U++C):=by
 have:=iO (b:=fun s:List S47×Int=>aT (A.length:Int) s.1 s.2) (fun k=>(A++U.take (U.length - k)++y::(U.drop (U.length - k)++C),((A.length+(U.length - k):Nat):Int))) (t:=A++y::U++C) U.length (fun k hk=>by
  show aT _ (A++U.take (U.length - k)++y::(U.drop (U.length - k)++C)) ((A.length+(U.length - k):Nat):Int)=_
  simp only [List.length_append,List.length_cons] at hl
  obtain⟨m,hm⟩:∃ m,U.length - k=m+1:=⟨U.length - k - 1,by omega⟩
  rw [show U.length - (k+1)=m by omega,hm]
  have hml:m<U.length:=by omega
  obtain⟨x,hx⟩:∃ x,U[m]?=some x:=⟨_,List.getElem?_eq_getElem hml⟩
  have hxd:U.drop m=x::U.drop (m+1):=by rw [List.drop_eq_getElem_cons hml,(List.getElem?_eq_some_iff.1 hx).2]
  have hxt:U.take (m+1)=U.take m++[x]:=by rw [List.take_add_one,hx]; rfl
  obtain⟨A',hA⟩:∃ A',A'=A++U.take m:=⟨_,rfl⟩
  have hAl:A'.length=A.length+m:=by rw [hA]; simp; omega
  rw [hxd, ← hA,List.cons_append,hxt, ← List.append_assoc, ← hA,List.append_assoc,List.singleton_append]
  have g1:(A'++x::y::(U.drop (m+1)++C))[A'.length]?=some x:=by rw [List.getElem?_append_right (Nat.le_refl _),Nat.sub_self]; rfl
  have g2:(A'++x::y::(U.drop (m+1)++C))[A'.length+1]?=some y:=by rw [List.getElem?_append_right (by omega),show A'.length+1 - A'.length=1 by omega]; rfl
  have g3:((A'++x::y::(U.drop (m+1)++C)).set (A'.length+1) x)[A'.length]?=some x:=by rw [List.getElem?_set_ne (by omega),g1]
  unfold aT
  have e1:((A.length+(m+1):Nat):Int)=((A'.length+1:Nat):Int):=by omega
  have e2:IntKind.i64.wrap (((A'.length+1:Nat):Int) - 1)=((A'.length:Nat):Int):=by rw [w64 (by omega) (by omega)]; omega
  rw [e1,e2, ← hAl,if_pos (by simp only [decide_eq_true_eq]; omega),aH rfl g1,aH rfl g2]
  simp only [Option.bind_some,Int.toNat_natCast]
  rw [aH rfl g3]
  simp only [Option.bind_some]
  rw [aG1 A' (U.drop (m+1)++C) y x]) (by
  show aT _ (A++U.take (U.length - U.length)++y::(U.drop (U.length - U.length)++C)) ((A.length+(U.length - U.length):Nat):Int)=_
  rw [Nat.sub_self]
  unfold aT
  rw [if_neg (by simp)]
  simp)
 simpa using this
theorem aFx (x y:S47):iZ x y=some (if bef x y=true then -1 else if bef y x=true then 1 else 0):=by
 unfold iZ
 simp only [aEq,Option.bind_some]
 cases bef x y <;> cases bef y x <;> rfl
theorem aIe (x y:S47):(decide ((if bef x y=true then (-1:Int) else if bef y x=true then 1 else 0)<0))=bef x y:=by
 cases bef x y <;> cases bef y x <;> rfl
section
variable {α:Type} {lt:α→α→Bool}
theorem aH4 {P Q:List α} (h:Srt lt (P++Q)):∀ q∈Q,∀ p∈P,lt q p=false:=fun q hq p hp=>(List.pairwise_append.1 h).2.2 p hp q hq
theorem aCc {P Q:List α} (h:Srt lt (P++Q)):Srt lt P:=(List.pairwise_append.1 h).1
theorem aCu {P Q:List α} (h:Srt lt (P++Q)):Srt lt Q:=(List.pairwise_append.1 h).2.1
theorem SWO.ntrans (h:SWO lt) {a b c:α} (h1:lt b a=false) (h2:lt c b=false):lt c a=false:=by
 cases h3:lt c a with
 | false=>rfl
 | true=>rcases h.neg c b a h3 with q | q <;> simp_all
theorem SWO.lt_of_lt_of_le (h:SWO lt) {a b c:α} (h1:lt a b=true) (h2:lt c b=false):lt a c=true:=by
 rcases h.neg a c b h1 with q | q
 ·exact q
 ·simp_all
theorem SWO.lt_of_le_of_lt (h:SWO lt) {a b c:α} (h1:lt b a=false) (h2:lt b c=true):lt a c=true:=by
 rcases h.neg b a c h2 with q | q
 ·simp_all
 ·exact q
theorem aB5 (h:SWO lt) {V:List α} (hV:Srt lt V) {z:α} (hz:V[V.length - 1]?=some z):∀ v∈V,lt z v=false:=by
 intro v hv
 obtain⟨i,hi⟩:=List.getElem?_of_mem hv
 have hil:=(List.getElem?_eq_some_iff.1 hi).1
 rcases Nat.lt_or_ge i (V.length - 1) with hlt | hge
 ·exact aCh hV hlt hi hz
 ·rw [show i=V.length - 1 by omega,hz] at hi
  cases hi
  exact h.irr _
theorem aAe (h:SWO lt) {V:List α} (hV:Srt lt V) {z:α} (hz:V[0]?=some z):∀ v∈V,lt v z=false:=by
 intro v hv
 obtain⟨i,hi⟩:=List.getElem?_of_mem hv
 rcases Nat.eq_zero_or_pos i with rfl | hp
 ·rw [hz] at hi
  cases hi
  exact h.irr _
 ·exact aCh hV hp hz hi
theorem aFt {x:α} {V W:List α} (hV:Srt lt (V++W)) (h1:∀ v∈V,lt v x=true) (h2:∀ w∈W,lt w x=false):sortL lt (x::(V++W))=V++x::W:=by
 have:=aE0 (lt:=lt) (X1:=[]) (Y1:=[x]) (X2:=V) (Y2:=W) (by simp) (by simpa using h1) (fun y hy z hz=>aH4 hV y hy z (by simpa using hz))
 simp only [List.nil_append,List.singleton_append] at this
 rw [List.cons_append] at this
 rw [this,iF (aCc hV),iF]
 exact List.pairwise_cons.2 ⟨fun w hw=>h2 w hw,aCu hV⟩
theorem aD7 {y:α} {U V:List α} (hV:Srt lt (U++V)) (h1:∀ u∈U,lt y u=false) (h2:∀ v∈V,lt y v=true):sortL lt (U++V++[y])=U++y::V:=by
 rw [vG,iF hV,aDe V h1]
 have:=aGc (lt:=lt) (x:=y) [] h2
 simp only [List.nil_append] at this
 rw [this]
 rfl
end
theorem aCg {α:Type} (V:List α) (n:Nat) (h:n≤V.length):∃ P Q,V=P++Q∧P.length=n:=⟨V.take n,V.drop n,(List.take_append_drop n V).symm,by simp; omega⟩
theorem aI1 {α:Type} (A X B:List α) {i:Nat} (h1:A.length≤i) (h2:i<A.length+X.length):(A++X++B)[i]?=X[i - A.length]?:=by
 rw [List.append_assoc,List.getElem?_append_right h1,List.getElem?_append_left (by omega)]
theorem aSw (rec_:List S47→Int→Int→Int→Option (List S47)) (A Y B:List S47) (x:S47) (hY:Srt bef Y) (hl:(A++x::(Y++B)).length<2 ^ 40) :
  aU rec_ (A++x::(Y++B)) (A.length:Int) ((A.length+1:Nat):Int) ((A.length+1+Y.length:Nat):Int)=some (A++sortL bef (x::Y)++B):=by
 simp only [List.length_append,List.length_cons] at hl
 unfold aU
 rw [if_pos (by rw [w64 (by omega) (by omega)]; simp; omega)]
 obtain⟨t,ht,h1,h2,h3,h4⟩:=aLo (b:=fun s:Int×Int=>bC (A++x::(Y++B)) (A.length:Int) s.1 s.2) (fun h=>match Y[h - (A.length+1)]? with | some y=>bef y x | none=>false) (A.length+1) (A.length+1+Y.length) (by omega) (fun i=>by
  show bC _ _ _ _=_
  unfold bC
  rw [if_neg (by simp)]) (fun i j hi hij hj=>by
  show bC _ _ _ _=_
  unfold bC cW
  have hc:(i+j) / 2<j:=by omega
  have hc':i≤(i+j) / 2:=by omega
  obtain⟨y,hy⟩:∃ y,Y[(i+j) / 2 - (A.length+1)]?=some y:=⟨_,List.getElem?_eq_getElem (by omega)⟩
  have hg:(A++x::(Y++B))[(i+j) / 2]?=some y:=by
   have:=aI1 (A++[x]) Y B (i:=(i+j) / 2) (by simp; omega) (by simp; omega)
   simp only [List.append_assoc,List.nil_append,List.cons_append,List.length_append,List.length_singleton] at this
   rw [this,hy]
  have hx:(A++x::(Y++B))[A.length]?=some x:=by rw [List.getElem?_append_right (Nat.le_refl _),Nat.sub_self]; rfl
  rw [if_pos (by simp only [decide_eq_true_eq]; omega),aCd _ _ (by omega),aH rfl hg,aH rfl hx]
  simp only [Option.bind_some,aFx,aIe,hy]
  have e:=w64 (n:=((i:Int)+(j:Int)) / 2+1) (by omega) (by omega)
  cases bef y x <;> simp [e])
 rw [ht]
 simp only [Option.bind_some]
 unfold dX eN
 obtain⟨V,W,hVW,hVl⟩:=aCg Y (t - (A.length+1)) (by omega)
 have hd:=aUf A V (W++B) x (by rw [hVW] at hl; simp only [List.length_append,List.length_cons] at hl ⊢; omega)
 have e1:A++x::(Y++B)=A++x::V++(W++B):=by rw [hVW]; simp
 rw [e1,show (t:Int)=((A.length+1+V.length:Nat):Int) by omega,hd]
 simp only [Option.bind_some]
 unfold dU eO
 rw [hVW] at hY ⊢
 have hV:∀ v∈V,bef v x=true:=by
  rcases Nat.eq_zero_or_pos V.length with h0 | hp
  ·intro v hv; rw [List.eq_nil_of_length_eq_zero h0] at hv; cases hv
  ·have:=h3 (by omega)
   obtain⟨z,hz⟩:∃ z,V[V.length - 1]?=some z:=⟨_,List.getElem?_eq_getElem (by omega)⟩
   rw [hVW,List.getElem?_append_left (by omega),show t - 1 - (A.length+1)=V.length - 1 by omega,hz] at this
   intro v hv
   exact bef_swo.lt_of_le_of_lt (aB5 bef_swo (aCc hY) hz v hv) this
 have hW:∀ w∈W,bef w x=false:=by
  intro w hw
  have hWp:0<W.length:=List.length_pos_of_mem hw
  have:=h4 (by rw [hVW]; simp only [List.length_append]; omega)
  obtain⟨z,hz⟩:∃ z,W[0]?=some z:=⟨_,List.getElem?_eq_getElem hWp⟩
  rw [hVW,List.getElem?_append_right (by omega),show t - (A.length+1) - V.length=0 by omega,hz] at this
  exact bef_swo.ntrans this (aAe bef_swo (aCu hY) hz w hw)
 rw [aFt hY hV hW]
 simp
theorem aQw (rec_:List S47→Int→Int→Int→Option (List S47)) (A X B:List S47) (y:S47) (hX:Srt bef X) (h2:2≤X.length) (hl:(A++X++y::B).length<2 ^ 40) :
  aU rec_ (A++X++y::B) (A.length:Int) ((A.length+X.length:Nat):Int) ((A.length+X.length+1:Nat):Int)=some (A++sortL bef (X++[y])++B):=by
 simp only [List.length_append,List.length_cons] at hl
 unfold aU
 rw [if_neg (by rw [w64 (by omega) (by omega)]; simp; omega),if_pos (by rw [w64 (by omega) (by omega)]; simp; omega)]
 obtain⟨t,ht,h1,h2,h3,h4⟩:=aLo (b:=fun s:Int×Int=>bE (A++X++y::B) ((A.length+X.length:Nat):Int) s.1 s.2) (fun h=>match X[h - A.length]? with | some x => !bef y x | none=>false) A.length (A.length+X.length) (by omega) (fun i=>by
  show bE _ _ _ _=_
  unfold bE
  rw [if_neg (by simp)]) (fun i j hi hij hj=>by
  show bE _ _ _ _=_
  unfold bE cV
  have hc:(i+j) / 2<j:=by omega
  have hc':i≤(i+j) / 2:=by omega
  obtain⟨x,hx⟩:∃ x,X[(i+j) / 2 - A.length]?=some x:=⟨_,List.getElem?_eq_getElem (by omega)⟩
  have hg:(A++X++y::B)[(i+j) / 2]?=some x:=by rw [aI1 A X (y::B) (by omega) (by omega),hx]
  have hy:(A++X++y::B)[A.length+X.length]?=some y:=by rw [List.getElem?_append_right (by simp),show A.length+X.length - (A++X).length=0 by simp]; rfl
  rw [if_pos (by simp only [decide_eq_true_eq]; omega),aCd _ _ (by omega),aH rfl hg,aH rfl hy]
  simp only [Option.bind_some,aFx,aIe,hx]
  have e:=w64 (n:=((i:Int)+(j:Int)) / 2+1) (by omega) (by omega)
  cases bef y x <;> simp [e])
 rw [ht]
 simp only [Option.bind_some]
 unfold dY eP
 obtain⟨U,V,hUV,hUl⟩:=aCg X (t - A.length) (by omega)
 have hu:=aWe (A++U) V B y (by rw [hUV] at hl; simp only [List.length_append,List.length_cons] at hl ⊢; omega)
 have hXl:X.length=U.length+V.length:=by rw [hUV]; simp
 rw [show A++X++y::B=A++U++V++y::B by rw [hUV]; simp,show (t:Int)=((A++U).length:Int) by simp only [List.length_append]; omega,show ((A.length+X.length:Nat):Int)=(((A++U).length+V.length:Nat):Int) by simp only [List.length_append]; omega,hu]
 simp only [Option.bind_some]
 unfold dW eJ
 rw [hUV] at hX ⊢
 have hU:∀ u∈U,bef y u=false:=by
  rcases Nat.eq_zero_or_pos U.length with h0 | hp
  ·intro v hv; rw [List.eq_nil_of_length_eq_zero h0] at hv; cases hv
  ·have:=h3 (by omega)
   obtain⟨z,hz⟩:∃ z,U[U.length - 1]?=some z:=⟨_,List.getElem?_eq_getElem (by omega)⟩
   rw [hUV,List.getElem?_append_left (by omega),show t - 1 - A.length=U.length - 1 by omega,hz] at this
   intro v hv
   exact bef_swo.ntrans (aB5 bef_swo (aCc hX) hz v hv) (by simpa using this)
 have hV:∀ v∈V,bef y v=true:=by
  intro v hv
  have hVp:0<V.length:=List.length_pos_of_mem hv
  have:=h4 (by omega)
  obtain⟨z,hz⟩:∃ z,V[0]?=some z:=⟨_,List.getElem?_eq_getElem hVp⟩
  rw [hUV,List.getElem?_append_right (by omega),show t - A.length - U.length=0 by omega,hz] at this
  exact bef_swo.lt_of_lt_of_le (by simpa using this) (aAe bef_swo (aCu hX) hz v hv)
 rw [aD7 hX hU hV]
 simp
theorem aPd (k:Nat)
  (ih:∀ A X Y B:List S47,Srt bef X→Srt bef Y→0<X.length→0<Y.length→X.length+Y.length≤2 ^ k→(A++X++Y++B).length<2 ^ 40 →
   aE k (A++X++Y++B) (A.length:Int) ((A.length+X.length:Nat):Int) ((A.length+X.length+Y.length:Nat):Int)=some (A++sortL bef (X++Y)++B))
  (A X1 Y1 X2 Y2 B:List S47) (hX:Srt bef (X1++Y1)) (hY:Srt bef (X2++Y2)) (hx:0<(X1++Y1).length) (hy:0<(X2++Y2).length) (hk:(X1++Y1).length+(X2++Y2).length≤2 ^ (k+1))
  (hl:(A++(X1++Y1)++(X2++Y2)++B).length<2 ^ 40) (hmid:X1.length+X2.length=((X1++Y1).length+(X2++Y2).length+A.length+A.length) / 2 - A.length)
  (h1:∀ x∈X2,∀ y∈Y1,bef x y=true) (h2:∀ y∈Y2,∀ x∈X1,bef y x=false) :
  cR (aE k) (A++(X1++Y1)++(X2++Y2)++B) (A.length:Int) ((A.length+(X1++Y1).length:Nat):Int) ((A.length+(X1++Y1).length+(X2++Y2).length:Nat):Int) ((A.length+X1.length:Nat):Int)
   = some (A++sortL bef (X1++Y1++(X2++Y2))++B):=by
 simp only [List.length_append] at hl hmid hk hx hy
 have hfin:sortL bef (X1++Y1++(X2++Y2))=sortL bef (X1++X2)++sortL bef (Y1++Y2):=by
  rw [← List.append_assoc]
  exact aE0 (aH4 hX) h1 fun y hy x hx=>(List.mem_append.1 hx).elim (h2 y hy x) (aH4 hY y hy x)
 unfold cR
 have eh:IntKind.i64.wrap (bS .u64 (IntKind.u64.wrap (IntKind.i64.wrap ((A.length:Int)+((A.length+(X1++Y1).length+(X2++Y2).length:Nat):Int)))) 1)=((A.length+X1.length+X2.length:Nat):Int):=by
  rw [aCd _ _ (by simp only [List.length_append]; omega)]
  simp only [List.length_append]
  omega
 have ee:IntKind.i64.wrap (IntKind.i64.wrap (((A.length+X1.length+X2.length:Nat):Int)+((A.length+(X1++Y1).length:Nat):Int)) - ((A.length+X1.length:Nat):Int))=((A.length+(X1++Y1).length+X2.length:Nat):Int):=by
  simp only [List.length_append]
  rw [w64 (n:=((A.length+X1.length+X2.length:Nat):Int)+_) (by omega) (by omega),w64 (by omega) (by omega)]
  omega
 
 have j4:∀ M:List S47,M.length=A.length+X1.length+X2.length→bQ (aE k) (A.length:Int) ((A.length+(X1++Y1).length:Nat):Int) ((A.length+(X1++Y1).length+(X2++Y2).length:Nat):Int) ((A.length+X1.length:Nat):Int) (M++(Y1++Y2)++B)
   = some (M++sortL bef (Y1++Y2)++B):=by
  intro M hM
  unfold bQ
  rw [eh,ee]
  by_cases c1:0<Y1.length
  ·rw [if_pos (by simp only [decide_eq_true_eq,List.length_append]; omega)]
   unfold cB
   rw [eh,ee]
   by_cases c2:0<Y2.length
   ·rw [if_pos (by simp only [decide_eq_true_eq,List.length_append]; omega)]
    have:=ih M Y1 Y2 B (aCu hX) (aCu hY) c1 c2 (by omega) (by simp only [List.length_append]; omega)
    rw [show ((A.length+X1.length+X2.length:Nat):Int)=(M.length:Int) by omega,show ((A.length+(X1++Y1).length+X2.length:Nat):Int)=((M.length+Y1.length:Nat):Int) by simp only [List.length_append]; omega,
     show ((A.length+(X1++Y1).length+(X2++Y2).length:Nat):Int)=((M.length+Y1.length+Y2.length:Nat):Int) by simp only [List.length_append]; omega, ← List.append_assoc M,this]
    rfl
   ·rw [if_neg (by simp only [decide_eq_true_eq,List.length_append]; omega)]
    have h0:=List.eq_nil_of_length_eq_zero (show Y2.length=0 by omega)
    rw [h0,List.append_nil,iF (aCu hX)]
  ·rw [if_neg (by simp only [decide_eq_true_eq,List.length_append]; omega)]
   unfold cB
   rw [if_neg (by simp)]
   have h0:=List.eq_nil_of_length_eq_zero (show Y1.length=0 by omega)
   rw [h0,List.nil_append,iF (aCu hY)]
 
 have j2:bP (aE k) (A.length:Int) ((A.length+(X1++Y1).length:Nat):Int) ((A.length+(X1++Y1).length+(X2++Y2).length:Nat):Int) ((A.length+X1.length:Nat):Int) (A++(X1++X2)++(Y1++Y2)++B)
   = some (A++sortL bef (X1++X2)++sortL bef (Y1++Y2)++B):=by
  unfold bP
  rw [eh]
  have go:∀ S:List S47,S=sortL bef (X1++X2)→bQ (aE k) (A.length:Int) ((A.length+(X1++Y1).length:Nat):Int) ((A.length+(X1++Y1).length+(X2++Y2).length:Nat):Int) ((A.length+X1.length:Nat):Int) (A++S++(Y1++Y2)++B)
    = some (A++sortL bef (X1++X2)++sortL bef (Y1++Y2)++B):=by
   intro S hS
   rw [j4 (A++S) (by rw [hS]; simp only [List.length_append,aN]; omega),hS]
  by_cases c1:0<X1.length
  ·rw [if_pos (by simp only [decide_eq_true_eq]; omega)]
   unfold cD
   rw [eh]
   by_cases c2:0<X2.length
   ·rw [if_pos (by simp only [decide_eq_true_eq]; omega)]
    have:=ih A X1 X2 ((Y1++Y2)++B) (aCc hX) (aCc hY) c1 c2 (by omega) (by simp only [List.length_append]; omega)
    rw [show A++(X1++X2)++(Y1++Y2)++B=A++X1++X2++((Y1++Y2)++B) by simp,this]
    simp only [Option.bind_some]
    rw [← List.append_assoc (A++sortL bef (X1++X2))]
    exact go _ rfl
   ·rw [if_neg (by simp only [decide_eq_true_eq]; omega)]
    have h0:=List.eq_nil_of_length_eq_zero (show X2.length=0 by omega)
    exact go _ (by rw [h0,List.append_nil,iF (aCc hX)])
  ·rw [if_neg (by simp only [decide_eq_true_eq]; omega)]
   unfold cD
   rw [if_neg (by simp)]
   have h0:=List.eq_nil_of_length_eq_zero (show X1.length=0 by omega)
   exact go _ (by rw [h0,List.nil_append,iF (aCc hY)])
 rw [hfin]
 rw [eh,ee]
 have fin:∀ S:List S47,S=A++(X1++X2)++(Y1++Y2)++B→bP (aE k) (A.length:Int) ((A.length+(X1++Y1).length:Nat):Int) ((A.length+(X1++Y1).length+(X2++Y2).length:Nat):Int) ((A.length+X1.length:Nat):Int) S
   = some (A++(sortL bef (X1++X2)++sortL bef (Y1++Y2))++B):=by
  intro S hS
  rw [hS,j2]
  simp
 by_cases c1:0<Y1.length
 ·rw [if_pos (by simp only [decide_eq_true_eq,List.length_append]; omega)]
  unfold cA
  rw [eh,ee]
  by_cases c2:0<X2.length
  ·rw [if_pos (by simp only [decide_eq_true_eq,List.length_append]; omega)]
   have:=aOn (A++X1) Y1 X2 (Y2++B) c1 c2 (by simp only [List.length_append]; omega)
   rw [show A++(X1++Y1)++(X2++Y2)++B=A++X1++Y1++X2++(Y2++B) by simp,show ((A.length+X1.length:Nat):Int)=((A++X1).length:Int) by simp,show ((A.length+(X1++Y1).length:Nat):Int)=(((A++X1).length+Y1.length:Nat):Int) by simp only [List.length_append]; omega,
    show ((A.length+(X1++Y1).length+X2.length:Nat):Int)=(((A++X1).length+Y1.length+X2.length:Nat):Int) by simp only [List.length_append]; omega,this]
   simp only [Option.bind_some]
   rw [show ((A++X1).length:Int)=((A.length+X1.length:Nat):Int) by simp,show (((A++X1).length+Y1.length:Nat):Int)=((A.length+(X1++Y1).length:Nat):Int) by simp only [List.length_append]; omega]
   exact fin _ (by simp)
  ·rw [if_neg (by simp only [decide_eq_true_eq,List.length_append]; omega)]
   have h0:=List.eq_nil_of_length_eq_zero (show X2.length=0 by omega)
   exact fin _ (by rw [h0]; simp)
 ·rw [if_neg (by simp only [decide_eq_true_eq,List.length_append]; omega)]
  unfold cA
  rw [if_neg (by simp)]
  have h0:=List.eq_nil_of_length_eq_zero (show Y1.length=0 by omega)
  exact fin _ (by rw [h0]; simp)
theorem aBt:∀ (k:Nat) (A X Y B:List S47),Srt bef X→Srt bef Y→0<X.length→0<Y.length→X.length+Y.length≤2 ^ k→(A++X++Y++B).length<2 ^ 40 →
   aE k (A++X++Y++B) (A.length:Int) ((A.length+X.length:Nat):Int) ((A.length+X.length+Y.length:Nat):Int)=some (A++sortL bef (X++Y)++B)
 | 0,A,X,Y,B,hX,hY,h0,h1,h2,hl=>by simp at h2; omega
 | k+1,A,X,Y,B,hX,hY,h0,h1,h2,hl=>by
  show aU (aE k) _ _ _ _=_
  match X,h0 with
  | [x],_ =>
   have:=aSw (aE k) A Y B x hY (by simpa using hl)
   simpa using this
  | x::x'::X',_ =>
  match Y,h1 with
  | [y],_ =>
   have:=aQw (aE k) A (x::x'::X') B y hX (by simp) (by simpa using hl)
   simpa using this
  | y::y'::Y',_ =>
   have g1:2≤(x::x'::X').length:=by simp
   have g2:2≤(y::y'::Y').length:=by simp
   generalize x::x'::X'=X at *
   generalize y::y'::Y'=Y at *
   simp only [List.length_append] at hl
   have eh:IntKind.i64.wrap (bS .u64 (IntKind.u64.wrap (IntKind.i64.wrap ((A.length:Int)+((A.length+X.length+Y.length:Nat):Int)))) 1)=(((A.length+(A.length+X.length+Y.length)) / 2:Nat):Int):=aCd _ _ (by omega)
   obtain⟨m,hm⟩:∃ m,m=(A.length+(A.length+X.length+Y.length)) / 2:=⟨_,rfl⟩
   rw [← hm] at eh
   have key:∀ s0 r0:Nat,A.length≤s0→s0≤r0→r0≤A.length+X.length→r0≤m→(A.length<s0→s0=m+(A.length+X.length) - (A.length+X.length+Y.length))→m+X.length≤s0+X.length+Y.length→(r0=A.length+X.length∨r0=m) →
     cE (aE k) (A++X++Y++B) (A.length:Int) ((A.length+X.length:Nat):Int) ((A.length+X.length+Y.length:Nat):Int) (s0:Int) (r0:Int)=some (A++sortL bef (X++Y)++B):=by
    intro s0 r0 q1 q2 q3 q4 q5 q6 q7
    unfold cE
    obtain⟨t,ht,t1,t2,t3,t4⟩:=aLo (b:=fun s:Int×Int=>bF (A++X++Y++B) (A.length:Int) ((A.length+X.length:Nat):Int) ((A.length+X.length+Y.length:Nat):Int) s.1 s.2)
     (fun c=>match Y[m - 1 - c]?,X[c - A.length]? with | some y,some x => !bef y x | _,_=>false) s0 r0 q2 (fun i=>by
      show bF _ _ _ _ _ _=_
      unfold bF
      rw [if_neg (by simp)]) (fun i j hi hij hj=>by
      show bF _ _ _ _ _ _=_
      unfold bF cU
      have hc:(i+j) / 2<j:=by omega
      have hc':i≤(i+j) / 2:=by omega
      obtain⟨x,hx⟩:∃ x,X[(i+j) / 2 - A.length]?=some x:=⟨_,List.getElem?_eq_getElem (by omega)⟩
      obtain⟨y,hy⟩:∃ y,Y[m - 1 - (i+j) / 2]?=some y:=⟨_,List.getElem?_eq_getElem (by omega)⟩
      have hg:(A++X++Y++B)[(i+j) / 2]?=some x:=by rw [List.append_assoc (A++X),aI1 A X (Y++B) (by omega) (by omega),hx]
      have hg2:(A++X++Y++B)[m+(A.length+X.length) - 1 - (i+j) / 2]?=some y:=by
       rw [aI1 (A++X) Y B (by simp only [List.length_append]; omega) (by simp only [List.length_append]; omega)]
       simp only [List.length_append]
       rw [show m+(A.length+X.length) - 1 - (i+j) / 2 - (A.length+X.length)=m - 1 - (i+j) / 2 by omega,hy]
      have ei:=aCd i j (by omega)
      rw [if_pos (by simp only [decide_eq_true_eq]; omega),eh,ei,w64 (n:=(m:Int)+_) (by omega) (by omega),w64 (n:=(m:Int)+((A.length+X.length:Nat):Int) - 1) (by omega) (by omega),w64 (by omega) (by omega),
       aH (n:=m+(A.length+X.length) - 1 - (i+j) / 2) (by omega) hg2,aH rfl hg]
      simp only [Option.bind_some,aFx,aIe,hx,hy]
      have e:=w64 (n:=((i:Int)+(j:Int)) / 2+1) (by omega) (by omega)
      cases bef y x <;> simp [e])
    rw [ht]
    simp only [Option.bind_some]
    unfold dV
    obtain⟨X1,Y1,hXX,hl1⟩:=aCg X (t - A.length) (by omega)
    obtain⟨X2,Y2,hYY,hl2⟩:=aCg Y (m - t) (by omega)
    have hXl:X.length=X1.length+Y1.length:=by rw [hXX]; simp
    have hYl:Y.length=X2.length+Y2.length:=by rw [hYY]; simp
    subst hXX hYY
    rw [show (t:Int)=((A.length+X1.length:Nat):Int) by omega]
    refine aPd k (aBt k) A X1 Y1 X2 Y2 B hX hY (by omega) (by omega) h2 (by simp only [List.length_append]; omega) (by omega) ?_ ?_
    ·intro x hx y hy
     have p1:0<X2.length:=List.length_pos_of_mem hx
     have p2:0<Y1.length:=List.length_pos_of_mem hy
     have:=t4 (by omega)
     obtain⟨v,hv⟩:∃ v,X2[X2.length - 1]?=some v:=⟨_,List.getElem?_eq_getElem (by omega)⟩
     obtain⟨u,hu⟩:∃ u,Y1[0]?=some u:=⟨_,List.getElem?_eq_getElem p2⟩
     rw [show m - 1 - t=X2.length - 1 by omega,List.getElem?_append_left (by omega),hv,show t - A.length=X1.length by omega,List.getElem?_append_right (Nat.le_refl _),Nat.sub_self,hu] at this
     have hvu:bef v u=true:=by simpa using this
     exact bef_swo.lt_of_le_of_lt (aB5 bef_swo (aCc hY) hv x hx) (bef_swo.lt_of_lt_of_le hvu (aAe bef_swo (aCu hX) hu y hy))
    ·intro y hy x hx
     have p1:0<Y2.length:=List.length_pos_of_mem hy
     have p2:0<X1.length:=List.length_pos_of_mem hx
     have:=t3 (by omega)
     obtain⟨v,hv⟩:∃ v,Y2[0]?=some v:=⟨_,List.getElem?_eq_getElem p1⟩
     obtain⟨u,hu⟩:∃ u,X1[X1.length - 1]?=some u:=⟨_,List.getElem?_eq_getElem (by omega)⟩
     rw [show m - 1 - (t - 1)=X2.length by omega,List.getElem?_append_right (Nat.le_refl _),Nat.sub_self,hv,show t - 1 - A.length=X1.length - 1 by omega,List.getElem?_append_left (by omega),hu] at this
     have hvu:bef v u=false:=by simpa using this
     exact bef_swo.ntrans (aB5 bef_swo (aCc hX) hu x hx) (bef_swo.ntrans hvu (aAe bef_swo (aCu hY) hv y hy))
   unfold aU
   rw [if_neg (by rw [w64 (by omega) (by omega)]; simp; omega),if_neg (by rw [w64 (by omega) (by omega)]; simp; omega),eh]
   by_cases c:m<A.length+X.length
   ·rw [if_pos (by simp only [decide_eq_true_eq]; omega),w64 (n:=(m:Int)+_) (by omega) (by omega),w64 (by omega) (by omega)]
    have:=key (m+(A.length+X.length) - (A.length+X.length+Y.length)) m (by omega) (by omega) (by omega) (by omega) (by omega) (by omega) (.inr rfl)
    rw [show ((m+(A.length+X.length) - (A.length+X.length+Y.length):Nat):Int)=(m:Int)+((A.length+X.length:Nat):Int) - ((A.length+X.length+Y.length:Nat):Int) by omega] at this
    exact this
   ·rw [if_neg (by simp only [decide_eq_true_eq]; omega)]
    exact key A.length (A.length+X.length) (by omega) (by omega) (by omega) (by omega) (by omega) (by omega) (.inl rfl)
section
variable {α:Type} {lt:α→α→Bool}
theorem aKn (h:SWO lt) {x q:α} (hx:lt x q=true):∀ s:List α,ins lt q (ins lt x s)=ins lt x (ins lt q s)
 | []=>by simp [ins,h.asymm hx,hx]
 | y::s=>by
  have hq:=h.asymm hx
  simp only [ins]
  by_cases h1:lt x y=true
  ·rw [if_pos h1]
   simp only [ins,hq]
   by_cases h2:lt q y=true
   ·simp [ins,h2,hx]
   ·simp [ins,h2,h1]
  ·have h2:¬ lt q y=true:=fun h2=>h1 (h.trans _ _ _ hx h2)
   rw [if_neg h1,if_neg h2]
   simp only [ins]
   rw [if_neg h2,if_neg h1,aKn h hx s]
theorem aG7 (h:SWO lt) (x:α):∀ {t:List α},Srt lt t→∃ P Q,t=P++Q∧ins lt x t=P++x::Q∧∀ q∈Q,lt x q=true
 | [],_=>⟨[],[],rfl,rfl,by simp⟩
 | y::t,ht=>by
  have ht':=List.pairwise_cons.1 ht
  by_cases hy:lt x y=true
  ·refine⟨[],y::t,rfl,by simp [ins,hy],fun q hq=>?_⟩
   rcases List.mem_cons.1 hq with rfl | hq
   ·exact hy
   ·exact h.lt_of_lt_of_le hy (ht'.1 q hq)
  ·obtain⟨P,Q,h1,h2,h3⟩:=aG7 h x ht'.2
   exact⟨y::P,Q,by rw [h1]; rfl,by simp [ins,hy,h2],h3⟩
theorem aFk (h:SWO lt) (x:α):∀ (Q s:List α),(∀ q∈Q,lt x q=true)→Q.foldl (fun acc x=>ins lt x acc) (ins lt x s)=ins lt x (Q.foldl (fun acc x=>ins lt x acc) s)
 | [],s,_=>rfl
 | q::Q,s,hq=>by
  rw [List.foldl_cons,aKn h (hq q List.mem_cons_self),aFk h x Q _ fun z hz=>hq z (List.mem_cons_of_mem _ hz)]
  rfl
theorem aOi (h:SWO lt) (x:α) {t:List α} (ht:Srt lt t) (s:List α):(ins lt x t).foldl (fun acc x=>ins lt x acc) s=ins lt x (t.foldl (fun acc x=>ins lt x acc) s):=by
 obtain⟨P,Q,h1,h2,h3⟩:=aG7 h x ht
 rw [h2,h1,List.foldl_append,List.foldl_cons,aFk h x Q _ h3,List.foldl_append]
theorem aDo (h:SWO lt) (s:List α):∀ (k:Nat) (b:List α),b.length=k→(sortL lt b).foldl (fun acc x=>ins lt x acc) s=b.foldl (fun acc x=>ins lt x acc) s
 | 0,b,hb=>by rw [List.eq_nil_of_length_eq_zero hb]; rfl
 | k+1,b,hb=>by
  obtain⟨c,x,rfl⟩:∃ c x,b=c++[x]:=⟨b.dropLast,b.getLast (by intro e; rw [e] at hb; cases hb),(List.dropLast_concat_getLast _).symm⟩
  rw [vG,aOi h x (nD h c),aDo h s k c (by simpa using hb),List.foldl_append]
  rfl
theorem aAj (h:SWO lt) (a b:List α):sortL lt (sortL lt a++sortL lt b)=sortL lt (a++b):=by
 have e:sortL lt (sortL lt a)=sortL lt a:=iF (nD h a)
 unfold sortL at e ⊢
 rw [List.foldl_append,e,List.foldl_append]
 exact aDo h _ _ b rfl
inductive Blk (lt:α→α→Bool) (n:Nat):List α→List α→Prop
 | last {O:List α}:O.length≤n→Blk lt n O (sortL lt O)
 | cons {O1 O2 L2:List α}:O1.length=n→Blk lt n O2 L2→Blk lt n (O1++O2) (sortL lt O1++L2)
theorem Blk.length {n:Nat} {O L:List α} (h:Blk lt n O L):L.length=O.length:=by
 induction h with
 | last _=>exact aN _
 | cons _ _ ih=>simp [aN,ih]
theorem Blk.done {n:Nat} {O L:List α} (h:Blk lt n O L) (hn:O.length≤n):L=sortL lt O:=by
 cases h with
 | last _=>rfl
 | @cons O1 O2 L2 h1 h2 =>
  have hl:=h2.length
  simp only [List.length_append] at hn
  have e2:=List.eq_nil_of_length_eq_zero (show O2.length=0 by omega)
  subst e2
  have e3:=List.eq_nil_of_length_eq_zero hl
  rw [e3]
  simp
end
theorem aN7 (O:List S47) (hO:O.length<2 ^ 40):eH O (O.length:Int)=some (sortL bef O):=by
 unfold eH
 
 obtain⟨t,ht,P,R,hP,hR,hB⟩:=gN (b:=fun s:List S47×Int×Int=>bW (O.length:Int) s.1 s.2.1 s.2.2) (s:=(O,0,20))
  (fun s=>∃ P R:List S47,s=(P++R,(P.length:Int),((P.length+20:Nat):Int))∧P.length+R.length=O.length∧∀ L,Blk bef 20 R L→Blk bef 20 O (P++L))
  (fun s=>((O.length:Int)+1 - s.2.1).toNat)
  (fun t=>∃ P R:List S47,t=(P++R,(P.length:Int))∧(P.length+R.length=O.length∧R.length<20)∧∀ L,Blk bef 20 R L→Blk bef 20 O (P++L))
  ⟨[],O,rfl,by simp,fun L h=>h⟩ (by
   rintro s ⟨P,R,rfl,hl,hB⟩
   show (∃ s',bW (O.length:Int) (P++R) (P.length:Int) ((P.length+20:Nat):Int)=some (.inl s')∧_)∨∃ t,bW (O.length:Int) (P++R) (P.length:Int) ((P.length+20:Nat):Int)=some (.inr t)∧_
   unfold bW
   by_cases hb:P.length+20≤O.length
   ·rw [if_pos (by simp only [decide_eq_true_eq]; omega),aEw _ P.length (P.length+20) (by omega) (by simp; omega) (by simp; omega)]
    simp only [Option.bind_some]
    obtain⟨R1,R2,rfl,hl1⟩:=aCg R 20 (by omega)
    simp only [List.length_append] at hl
    have e1:((P++(R1++R2)).take (P.length+20)).drop P.length=R1:=by
     rw [List.take_append,List.take_of_length_le (by omega),List.drop_append,List.drop_of_length_le (Nat.le_refl _),Nat.sub_self,List.drop_zero,List.nil_append,show P.length+20 - P.length=R1.length by omega,List.take_append_of_le_length (Nat.le_refl _),List.take_length]
    have e2:(P++(R1++R2)).drop (P.length+20)=R2:=by
     rw [← List.append_assoc,List.drop_append_of_le_length (by simp; omega),List.drop_of_length_le (by simp; omega),List.nil_append]
    have e3:(P++(R1++R2)).take P.length=P:=by simp
    rw [e1,e2,e3]
    refine .inl ⟨_,rfl,⟨P++sortL bef R1,R2,?_,by simp [aN]; omega,fun L hL=>by rw [List.append_assoc]; exact hB _ (.cons hl1 hL)⟩,by simp only; omega⟩
    rw [w64 (by omega) (by omega)]
    simp [aN,hl1]
   ·rw [if_neg (by simp only [decide_eq_true_eq]; omega)]
    exact .inr ⟨_,rfl,P,R,rfl,⟨hl,by omega⟩,hB⟩)
 rw [ht,hP]
 obtain⟨hl,hR⟩:=hR
 simp only [Option.bind_some]
 unfold eI eW
 rw [aEw _ P.length O.length (by omega) (by simp; omega) (by simp; omega)]
 simp only [Option.bind_some]
 have e1:(P++R).take P.length++sortL bef (((P++R).take O.length).drop P.length)++(P++R).drop O.length=P++sortL bef R:=by
  rw [List.take_of_length_le (l:=P++R) (i:=O.length) (by simp; omega),List.drop_of_length_le (l:=P++R) (i:=O.length) (by simp; omega),List.append_nil]
  simp
 rw [e1]
 have h0:Blk bef 20 O (P++sortL bef R):=hB _ (.last (by omega))
 
 obtain⟨t,ht,rfl⟩:=gN (b:=fun s:List S47×Int=>bU (O.length:Int) s.1 s.2) (s:=(P++sortL bef R,20))
  (fun s=>∃ (L:List S47) (n:Nat),s=(L,(n:Int))∧0<n∧n<2 ^ 41∧Blk bef n O L)
  (fun s=>((O.length:Int) - s.2).toNat) (fun t=>t=sortL bef O) ⟨_,20,rfl,by decide,by decide,h0⟩ (by
   rintro s ⟨L,n,rfl,hn,hn',hBL⟩
   show (∃ s',bU (O.length:Int) L (n:Int)=some (.inl s')∧_)∨∃ t,bU (O.length:Int) L (n:Int)=some (.inr t)∧_
   unfold bU
   have en:IntKind.i64.wrap (2 * (n:Int))=((2 * n:Nat):Int):=by rw [w64 (by omega) (by omega)]; omega
   by_cases hnO:n<O.length
   ·rw [if_pos (by simp only [decide_eq_true_eq]; omega),en]
    
    obtain⟨t,ht,P',O',L',hP',hl',hB',hX'⟩:=gN (b:=fun s:List S47×Int×Int=>bX (O.length:Int) (n:Int) s.1 s.2.1 s.2.2) (s:=(L,0,((2 * n:Nat):Int)))
     (fun s=>∃ P' O' L':List S47,s=(P'++L',(P'.length:Int),((P'.length+2 * n:Nat):Int))∧P'.length+L'.length=O.length∧Blk bef n O' L'∧∀ M,Blk bef (2 * n) O' M→Blk bef (2 * n) O (P'++M))
     (fun s=>((O.length:Int)+1 - s.2.1).toNat)
     (fun t=>∃ P' O' L':List S47,t=(P'++L',(P'.length:Int))∧(P'.length+L'.length=O.length∧L'.length<2 * n)∧Blk bef n O' L'∧∀ M,Blk bef (2 * n) O' M→Blk bef (2 * n) O (P'++M))
     ⟨[],O,L,by simp,by simpa using hBL.length,hBL,fun M h=>h⟩ (by
      rintro s ⟨P',O',L',rfl,hl',hB',hX'⟩
      show (∃ s',bX (O.length:Int) (n:Int) (P'++L') (P'.length:Int) ((P'.length+2 * n:Nat):Int)=some (.inl s')∧_)∨∃ t,bX (O.length:Int) (n:Int) (P'++L') (P'.length:Int) ((P'.length+2 * n:Nat):Int)=some (.inr t)∧_
      unfold bX
      have hlen:=hB'.length
      by_cases hb:P'.length+2 * n≤O.length
      ·rw [if_pos (by simp only [decide_eq_true_eq]; omega),w64 (n:=(P'.length:Int)+(n:Int)) (by omega) (by omega),en]
       
       have two:∃ O1 O2 O3 L3,O'=O1++O2++O3∧L'=sortL bef O1++sortL bef O2++L3∧O1.length=n∧O2.length=n∧Blk bef n O3 L3:=by
        cases hB' with
        | last h1=>rw [aN] at hlen hl'; omega
        | @cons O1 O2 L2 h1 h2 =>
         cases h2 with
         | @last O2 h2 =>
          simp only [List.length_append,aN] at hl'
          refine⟨O1,O2,[],[],by simp,by simp,h1,by omega,?_⟩
          exact Blk.last (lt:=bef) (O:=[]) (Nat.zero_le n)
         | @cons O2 O3 L3 h2 h3=>exact⟨O1,O2,O3,L3,by simp,by simp,h1,h2,h3⟩
       obtain⟨O1,O2,O3,L3,rfl,rfl,l1,l2,hB3⟩:=two
       simp only [List.length_append,aN] at hl'
       have hm:=aBt 64 P' (sortL bef O1) (sortL bef O2) L3 (nD bef_swo _) (nD bef_swo _) (by rw [aN]; omega) (by rw [aN]; omega) (by rw [aN,aN]; omega) (by simp only [List.length_append,aN]; omega)
       rw [aAj bef_swo,aN,aN] at hm
       rw [show P'++(sortL bef O1++sortL bef O2++L3)=P'++sortL bef O1++sortL bef O2++L3 by simp]
       have hm':dP (P'++sortL bef O1++sortL bef O2++L3) (P'.length:Int) ((P'.length:Int)+(n:Int)) ((P'.length+2 * n:Nat):Int)=some (P'++sortL bef (O1++O2)++L3):=by
        rw [show (P'.length:Int)+(n:Int)=((P'.length+O1.length:Nat):Int) by omega,show ((P'.length+2 * n:Nat):Int)=((P'.length+O1.length+O2.length:Nat):Int) by omega]
        exact hm
       rw [hm']
       simp only [Option.bind_some]
       refine .inl ⟨_,rfl,⟨P'++sortL bef (O1++O2),O3,L3,?_,by simp only [List.length_append,aN]; omega,hB3,fun M hM=>?_⟩,by simp only; omega⟩
       ·rw [w64 (by omega) (by omega)]
        simp only [List.length_append,aN,Prod.mk.injEq,true_and]
        omega
       ·rw [List.append_assoc]
        exact hX' _ (.cons (by simp; omega) hM)
      ·rw [if_neg (by simp only [decide_eq_true_eq]; omega)]
       exact .inr ⟨_,rfl,P',O',L',rfl,⟨hl',by omega⟩,hB',hX'⟩)
    rw [ht,hP']
    obtain⟨hl',hL'⟩:=hl'
    simp only [Option.bind_some]
    unfold eQ eV dM
    have hlen:=hB'.length
    have en2:IntKind.i64.wrap ((n:Int) * 2)=((2 * n:Nat):Int):=by rw [w64 (by omega) (by omega)]; omega
    rw [w64 (n:=(P'.length:Int)+(n:Int)) (by omega) (by omega)]
    have fin:∀ M,M=P'++sortL bef O'→(∃ s',(some (Sum.inl (M,((2 * n:Nat):Int))):Option ((List S47×Int)⊕List S47))=some (.inl s')∧(∃ (L:List S47) (n:Nat),s'=(L,(n:Int))∧0<n∧n<2 ^ 41∧Blk bef n O L)∧((O.length:Int) - s'.2).toNat<((O.length:Int) - (n:Int)).toNat):=by
     rintro M rfl
     exact⟨_,rfl,⟨_,2 * n,rfl,by omega,by omega,hX' _ (.last (by omega))⟩,by simp only; omega⟩
    by_cases hq:P'.length+n<O.length
    ·rw [if_pos (by simp only [decide_eq_true_eq]; omega)]
     cases hB' with
     | last h1=>rw [aN] at hl'; omega
     | @cons O1 O2 L2 h1 h2 =>
      simp only [List.length_append,aN] at hl' hL' hlen
      have h2l:=h2.length
      have hd:=h2.done (by omega)
      subst hd
      have hm:=aBt 64 P' (sortL bef O1) (sortL bef O2) [] (nD bef_swo _) (nD bef_swo _) (by rw [aN]; omega) (by omega) (by rw [aN,aN]; omega) (by simp only [List.length_append,aN,List.length_nil]; omega)
      rw [aAj bef_swo,aN,aN,List.append_nil,List.append_nil] at hm
      have hm':dP (P'++(sortL bef O1++sortL bef O2)) (P'.length:Int) ((P'.length:Int)+(n:Int)) (O.length:Int)=some (P'++sortL bef (O1++O2)):=by
       rw [← List.append_assoc,show (P'.length:Int)+(n:Int)=((P'.length+O1.length:Nat):Int) by omega,show (O.length:Int)=((P'.length+O1.length+O2.length:Nat):Int) by omega]
       exact hm
      rw [hm']
      simp only [Option.bind_some,en2]
      exact .inl (fin _ rfl)
    ·rw [if_neg (by simp only [decide_eq_true_eq]; omega),en2]
     exact .inl (fin _ (by rw [hB'.done (by omega)]))
   ·rw [if_neg (by simp only [decide_eq_true_eq]; omega)]
    exact .inr ⟨_,rfl,hBL.done (by omega)⟩)
 rw [ht]
 rfl
theorem aOj (l:List S47) (h:l.length<2 ^ 40):wV l=some (sortL bef l):=by
 unfold wV fF dB
 have hc:pC l.isEmpty (some []) (chk (([]:List S47).length+l.length≤140737488355328 / 48) (some l))=some l:=by
  rw [aW (by simp; omega)]
  unfold pC
  cases l <;> simp
 rw [hc]
 simp only [Option.bind_some,aN7 l h]
section
variable {α:Type} {lt:α→α→Bool}
theorem bCj (h:SWO lt) {l m:List α} (hl:Srt lt l) (hm:Srt lt m) (hp:l.Perm m) {i:Nat} {x y:α} (hx:l[i]?=some x) (hy:m[i]?=some y):lt x y=false:=by
 cases hxy:lt x y with
 | false=>rfl
 | true =>
  exfalso
  have hc:=hp.countP_eq (fun z=>lt z y)
  obtain⟨hil,hix⟩:=List.getElem?_eq_some_iff.1 hx
  obtain⟨him,_⟩:=List.getElem?_eq_some_iff.1 hy
  have h1:(l.take (i+1)).countP (fun z=>lt z y)=i+1:=by
   have e:(l.take (i+1)).length=i+1:=by rw [List.length_take]; omega
   refine (List.countP_eq_length.2 ?_).trans e
   intro z hz
   obtain⟨j,hj⟩:=List.getElem?_of_mem hz
   rw [List.getElem?_take] at hj
   split at hj
   ·rcases Nat.lt_or_ge j i with hji | hji
    ·have hs:=aCh hl hji hj hx
     rcases h.neg x z y hxy with q | q
     ·rw [hs] at q; cases q
     ·exact q
    ·have:j=i:=by omega
     subst this
     rw [hx] at hj
     cases hj
     exact hxy
   ·cases hj
  have h2:(m.drop i).countP (fun z=>lt z y)=0:=by
   rw [List.countP_eq_zero]
   intro z hz
   obtain⟨j,hj⟩:=List.getElem?_of_mem hz
   rw [List.getElem?_drop] at hj
   rcases Nat.eq_zero_or_pos j with q | q
   ·subst q
    rw [Nat.add_zero,hy] at hj
    cases hj
    rw [h.irr]; simp
   ·rw [aCh hm (show i<i+j by omega) hy hj]; simp
  have h3:(m.take i).countP (fun z=>lt z y)≤i:=Nat.le_trans List.countP_le_length (by rw [List.length_take]; omega)
  have e1:l.countP (fun z=>lt z y)=(l.take (i+1)).countP (fun z=>lt z y)+(l.drop (i+1)).countP (fun z=>lt z y):=by rw [← List.countP_append,List.take_append_drop]
  have e2:m.countP (fun z=>lt z y)=(m.take i).countP (fun z=>lt z y)+(m.drop i).countP (fun z=>lt z y):=by rw [← List.countP_append,List.take_append_drop]
  omega
end
section
variable {α:Type}
end
theorem wL (a:List UInt8):Op.bytesLess a a=false:=by rw [bytesLess_eq]; simp [List.lt_irrefl]
theorem aCn {a b c:List UInt8} (h1:Op.bytesLess a b=true) (h2:Op.bytesLess b c=true):Op.bytesLess a c=true:=by
 rw [bytesLess_eq] at *
 simp only [decide_eq_true_eq] at *
 exact List.lt_trans h1 h2
theorem aH3 {a b:List UInt8} (h:Op.bytesLess a b=false) (h':Op.bytesLess b a=false):a=b:=by
 rw [bytesLess_eq] at *
 simp only [decide_eq_false_iff_not] at *
 exact List.le_antisymm (List.not_lt.1 h') (List.not_lt.1 h)
def mC (l:List S64):Prop:=l.Pairwise fun x y=>Op.bytesLess x.f0 y.f0=true
def pos (l:List S64) (n:List UInt8):Nat:=(l.takeWhile fun x=>Op.bytesLess x.f0 n).length
theorem aPh (l:List S64) (n:List UInt8):pos l n≤l.length:=(List.takeWhile_sublist _).length_le
theorem aBx:∀ {l:List S64} (hl:mC l) (n:List UInt8) {h:Nat} {x:S64},l[h]?=some x→(Op.bytesLess x.f0 n=true↔h<pos l n)
 | [],_,n,h,x,hx=>by simp at hx
 | y::l,hl,n,h,x,hx=>by
  obtain⟨hy,hl'⟩:=List.pairwise_cons.1 hl
  unfold pos
  rw [List.takeWhile_cons]
  cases hyn:Op.bytesLess y.f0 n with
  | true =>
   rw [if_pos rfl,List.length_cons]
   cases h with
   | zero=>cases hx; simp [hyn]
   | succ h =>
    have:=aBx hl' n (h:=h) (x:=x) (by simpa using hx)
    unfold pos at this
    rw [this]; omega
  | false =>
   rw [if_neg (by simp),List.length_nil]
   cases h with
   | zero=>cases hx; simp [hyn]
   | succ h =>
    have hxm:x∈l:=List.mem_of_getElem? (by simpa using hx)
    constructor
    ·intro hxn
     have:=aCn (hy x hxm) hxn
     rw [hyn] at this
     cases this
    ·intro h; omega
theorem aKi (x:S64) (n:List UInt8):iT x n=some (if Op.bytesLess x.f0 n=true then -1 else if x.f0=n then 0 else 1):=by
 unfold iT
 cases h:Op.bytesLess x.f0 n with
 | true=>rfl
 | false =>
  simp only [Bool.false_eq_true,if_false,Bool.false_or]
  by_cases e:x.f0=n
  ·simp [e]
  ·simp [e]
def has (l:List S64) (n:List UInt8):Bool:=match l[pos l n]? with
 | some x=>x.f0==n
 | none=>false
theorem aLf (l:List S64) (hl:mC l) (hlen:l.length<1099511627776) (n:List UInt8):bA l n=some ((pos l n:Int),has l n):=by
 unfold bA
 have hp:=aPh l n
 obtain⟨y,hy,hm⟩:=gN (b:=fun s:Int×Int=>aF l n s.1 s.2) (s:=(0,(l.length:Int)))
  (fun s=>∃ i j:Nat,s=((i:Int),(j:Int))∧i≤pos l n∧pos l n≤j∧j≤l.length) (fun s=>(s.2 - s.1).toNat) (fun t=>t=((pos l n:Nat):Int)) ⟨0,l.length,rfl,Nat.zero_le _,hp,Nat.le_refl _⟩ (by
  rintro s ⟨i,j,rfl,h1,h2,h3⟩
  show (∃ s',aF l n (i:Int) (j:Int)=some (.inl s')∧_)∨∃ t,aF l n (i:Int) (j:Int)=some (.inr t)∧_
  unfold aF
  by_cases hij:i<j
  ·have hx:=List.getElem?_eq_getElem (l:=l) (i:=(i+j) / 2) (by omega)
   have hpi:=aBx hl n hx
   have e1:bS .u64 (((i+j:Nat)):Int) 1=(((i+j) / 2:Nat):Int):=nA (k:=.u64) (i+j) 1 (by decide)
   rw [if_pos (by simp only [decide_eq_true_eq]; omega)]
   simp only [lt_]
   rw [w64 (n:=(i:Int)+(j:Int)) (by omega) (by omega),aA2 (by omega) (by omega),show (i:Int)+(j:Int)=((i+j:Nat):Int) by omega,e1,w64 (by omega) (by omega),aH rfl hx]
   simp only [Option.bind_some]
   rw [aKi]
   simp only [Option.bind_some]
   unfold aV
   by_cases hlt:Op.bytesLess (l[(i+j) / 2]).f0 n=true
   ·have:=hpi.1 hlt
    rw [if_pos hlt,if_pos (by decide),w64 (by omega) (by omega)]
    exact .inl ⟨_,rfl,⟨(i+j) / 2+1,j,rfl,by omega,h2,h3⟩,by simp only; omega⟩
   ·have:¬ (i+j) / 2<pos l n:=fun q=>hlt (hpi.2 q)
    rw [if_neg hlt,if_neg (by split <;> decide)]
    exact .inl ⟨_,rfl,⟨i,(i+j) / 2,rfl,h1,by omega,by omega⟩,by simp only; omega⟩
  ·rw [if_neg (by simp only [decide_eq_true_eq]; omega)]
   exact .inr ⟨_,rfl,by rw [show i=pos l n by omega]⟩)
 rw [hy,hm]
 simp only [Option.bind_some]
 unfold bK bN has
 by_cases hlt:pos l n<l.length
 ·have hx:=List.getElem?_eq_getElem hlt
  have hpi:=aBx hl n hx
  have hnl:¬ Op.bytesLess (l[pos l n]).f0 n=true:=fun q=>by have:=hpi.1 q; omega
  rw [if_pos (by simp only [decide_eq_true_eq]; omega),aH rfl hx,hx]
  simp only [Option.bind_some]
  rw [aKi]
  simp only [Option.bind_some]
  rw [if_neg hnl]
  congr 2
  by_cases e:(l[pos l n]).f0=n
  ·rw [if_pos e]; simp [e]
  ·rw [if_neg e]; simp [e]
 ·rw [if_neg (by simp only [decide_eq_true_eq]; omega),List.getElem?_eq_none (by omega)]
theorem aUq (s:S58) (hl:mC s.f0) (hlen:s.f0.length<1099511627776) (n:List UInt8):gP s n=some ((pos s.f0 n:Int),has s.f0 n):=by
 unfold gP
 rw [aLf s.f0 hl hlen n]
 rfl
def okc (c:UInt8):Bool:=decide (c.toNat=46)||(decide (48≤c.toNat)&&decide (c.toNat≤57))||(decide (97≤c.toNat)&&decide (c.toNat≤122))
def yW (n:List UInt8):Bool:=n.all okc&&decide (1≤n.length)&&decide (n.length≤32)
theorem aLm (a:List UInt8) (i:Nat) {c:UInt8} (hc:a[i]?=some c):fN a (i:Int)=gT (i:Int) (!okc c):=by
 have hi:=(List.getElem?_eq_some_iff.1 hc).1
 unfold fN okc
 rw [if_pos (by simp only [decide_eq_true_eq]; omega),aH rfl hc]
 simp only [Option.bind_some,bne_iff_ne,ne_eq,decide_eq_true_eq]
 by_cases h1:c.toNat=46
 ·rw [if_neg (by omega),decide_eq_true h1]; rfl
 rw [if_pos (by omega),decide_eq_false h1]
 by_cases h2:c.toNat<48
 ·rw [if_pos (by omega),if_pos (by omega),decide_eq_false (show ¬ 48≤c.toNat by omega),decide_eq_false (show ¬ 97≤c.toNat by omega)]; rfl
 rw [if_neg (by omega),decide_eq_true (show 48≤c.toNat by omega)]
 by_cases h3:57<c.toNat
 ·rw [if_pos (by omega),decide_eq_false (show ¬ c.toNat≤57 by omega)]
  by_cases h4:c.toNat<97
  ·rw [if_pos (by omega),decide_eq_false (show ¬ 97≤c.toNat by omega)]; rfl
  ·rw [if_neg (by omega),decide_eq_true (show 97≤c.toNat by omega)]
   by_cases h5:c.toNat≤122
   ·rw [decide_eq_true h5,decide_eq_false (by omega)]; rfl
   ·rw [decide_eq_false h5,decide_eq_true (by omega)]; rfl
 ·rw [if_neg (by omega),decide_eq_true (show c.toNat≤57 by omega)]; rfl
theorem aHc (a:List UInt8) (ha:a.length<4611686018427387904):∀ (m i:Nat),i+m=a.length→loop (fun s=>fN a s) (i:Int)=some (if (a.drop i).all okc=true then .inl () else .inr false)
 | 0,i,hi=>by
  refine bJ ?_
  show fN a (i:Int)=_
  unfold fN
  rw [if_neg (by simp only [decide_eq_true_eq]; omega),List.drop_of_length_le (by omega)]
  rfl
 | m+1,i,hi=>by
  have hx:=List.getElem?_eq_getElem (l:=a) (i:=i) (by omega)
  have hr:=aLm a i hx
  have hd:a.drop i=a[i]::a.drop (i+1):=List.drop_eq_getElem_cons (by omega)
  cases hc:okc a[i] with
  | true =>
   rw [hc] at hr
   have:fN a (i:Int)=some (.inl ((i+1:Nat):Int)):=by
    rw [hr]; unfold gT; rw [if_neg (by simp),lt_,w64 (by omega) (by omega)]; rfl
   rw [dD (b:=fun s=>fN a s) this,aHc a ha m (i+1) (by omega),hd,List.all_cons,hc,Bool.true_and]
  | false =>
   rw [hc] at hr
   have:fN a (i:Int)=some (.inr (.inr false)):=by rw [hr]; rfl
   rw [bJ (b:=fun s=>fN a s) this,hd,List.all_cons,hc,Bool.false_and]
   rfl
theorem aUc (a:List UInt8) (ha:a.length<4611686018427387904):tO a=some (yW a):=by
 unfold tO
 have h:=aHc a ha a.length 0 (by omega)
 rw [show ((0:Nat):Int)=0 from rfl,List.drop_zero] at h
 rw [h]
 unfold yW
 cases a.all okc with
 | true =>
  show qY a=_
  unfold qY
  cases a with
  | nil=>rfl
  | cons c a =>
   rw [if_pos (show (!(c::a==[]))=true from rfl)]
   simp only [List.length_cons,Bool.true_and,decide_eq_true (show 1≤a.length+1 by omega)]
   congr 1
   exact decide_eq_decide.2 (by omega)
 | false=>rfl
theorem yD {P D:List S64} {x:S64} (h:mC (P++x::D)):(∀ y∈P,Op.bytesLess y.f0 x.f0=true)∧(∀ y∈D,Op.bytesLess x.f0 y.f0=true):=by
 obtain⟨h1,h2,h3⟩:=List.pairwise_append.1 h
 exact⟨fun y hy=>h3 y hy x (List.mem_cons_self ..),(List.pairwise_cons.1 h2).1⟩
theorem aCb {a b:List UInt8} (h:Op.bytesLess a b=true):a≠b:=fun e=>by subst e; rw [wL] at h; cases h
theorem aEm {a b:List UInt8} (h:Op.bytesLess a b=true):Op.bytesLess b a=false:=by
 cases hb:Op.bytesLess b a with
 | false=>rfl
 | true=>have:=aCn h hb; rw [wL] at this; cases this
theorem aQq {P D:List S64} {n:List UInt8} (hP:∀ y∈P,Op.bytesLess y.f0 n=true) (hD:∀ y,D.head?=some y→Op.bytesLess y.f0 n=false):pos (P++D) n=P.length:=by
 unfold pos
 rw [List.takeWhile_append_of_pos hP,List.length_append]
 cases D with
 | nil=>rfl
 | cons y D=>rw [List.takeWhile_cons,hD y rfl]; rfl
theorem aEi {P D:List S64} {x:S64} {n:List UInt8} (hn:x.f0=n) (h:mC (P++x::D)):pos (P++x::D) n=P.length:=by
 subst hn
 exact aQq (yD h).1 fun y hy=>by cases hy; exact wL _
theorem aH6 {P D:List S64} {x:S64} {n:List UInt8} (hn:x.f0=n) (h:mC (P++x::D)):has (P++x::D) n=true:=by
 unfold has
 rw [aEi hn h,List.getElem?_append_right (Nat.le_refl _),Nat.sub_self]
 simp [hn]
theorem aMp {P D:List S64} {n:List UInt8} (hP:∀ y∈P,Op.bytesLess y.f0 n=true) (hD:∀ y∈D,Op.bytesLess n y.f0=true):pos (P++D) n=P.length :=
 aQq hP fun y hy=>aEm (hD y (List.mem_of_mem_head? hy))
theorem aJa {P D:List S64} {n:List UInt8} (hP:∀ y∈P,Op.bytesLess y.f0 n=true) (hD:∀ y∈D,Op.bytesLess n y.f0=true):has (P++D) n=false:=by
 unfold has
 rw [aMp hP hD,List.getElem?_append_right (Nat.le_refl _),Nat.sub_self]
 cases D with
 | nil=>rfl
 | cons y D =>
  show (y.f0==n)=false
  rw [beq_eq_false_iff_ne]
  exact fun e=>aCb (hD y (List.mem_cons_self ..)) e.symm
theorem zV {l:List S64} (h:mC l) (n:List UInt8) :
  (∃ P x D,l=P++x::D∧x.f0=n)∨∃ P D,l=P++D∧(∀ y∈P,Op.bytesLess y.f0 n=true)∧∀ y∈D,Op.bytesLess n y.f0=true:=by
 have hp:=aPh l n
 have hsp:l=l.take (pos l n)++l.drop (pos l n):=(List.take_append_drop _ _).symm
 have hP:∀ y∈l.take (pos l n),Op.bytesLess y.f0 n=true:=by
  intro y hy
  obtain⟨j,hj⟩:=List.getElem?_of_mem hy
  rw [List.getElem?_take] at hj
  split at hj
  ·exact (aBx h n hj).2 (by assumption)
  ·cases hj
 cases hd:l.drop (pos l n) with
 | nil=>rw [hd] at hsp; exact .inr ⟨_,[],hsp,hP,fun y hy=>by cases hy⟩
 | cons x D =>
  rw [hd] at hsp
  have hx:l[pos l n]?=some x:=by
   have:(l.drop (pos l n))[0]?=some x:=by rw [hd]; rfl
   rwa [List.getElem?_drop,Nat.add_zero] at this
  have hxn:Op.bytesLess x.f0 n=false:=by
   cases hb:Op.bytesLess x.f0 n with
   | false=>rfl
   | true=>have:=(aBx h n hx).1 hb; omega
  by_cases e:x.f0=n
  ·exact .inl ⟨_,x,D,hsp,e⟩
  ·refine .inr ⟨_,x::D,hsp,hP,?_⟩
   have hnx:Op.bytesLess n x.f0=true:=by
    cases hb:Op.bytesLess n x.f0 with
    | true=>rfl
    | false=>exact absurd (aH3 hxn hb) e
   intro y hy
   rcases List.mem_cons.1 hy with rfl | hy
   ·exact hnx
   ·have hr:=h
    rw [hsp] at hr
    exact aCn hnx ((yD hr).2 y hy)
theorem aO7 {P D:List S64} {x y:S64} (hn:x.f0=y.f0) (h:mC (P++x::D)):mC (P++y::D):=by
 obtain⟨h1,h2,h3⟩:=List.pairwise_append.1 h
 obtain⟨h4,h5⟩:=List.pairwise_cons.1 h2
 refine List.pairwise_append.2 ⟨h1,List.pairwise_cons.2 ⟨fun z hz=>hn▸h4 z hz,h5⟩,fun a ha b hb=>?_⟩
 rcases List.mem_cons.1 hb with rfl | hb
 ·rw [← hn]; exact h3 a ha x (List.mem_cons_self ..)
 ·exact h3 a ha b (List.mem_cons_of_mem _ hb)
theorem aPq {P D:List S64} {y:S64} (h:mC (P++D)) (hP:∀ z∈P,Op.bytesLess z.f0 y.f0=true) (hD:∀ z∈D,Op.bytesLess y.f0 z.f0=true):mC (P++y::D):=by
 obtain⟨h1,h2,h3⟩:=List.pairwise_append.1 h
 refine List.pairwise_append.2 ⟨h1,List.pairwise_cons.2 ⟨hD,h2⟩,fun a ha b hb=>?_⟩
 rcases List.mem_cons.1 hb with rfl | hb
 ·exact hP a ha
 ·exact h3 a ha b hb
def nH (l:List S64):Nat:=(l.map fun x=>x.f1.length).sum
theorem rV (P D:List S64):nH (P++D)=nH P+nH D:=by simp [nH]
theorem wB (x:S64) (D:List S64):nH (x::D)=x.f1.length+nH D:=by simp [nH]
theorem aPp {l:List S64} {x:S64} (h:x∈l):x.f1.length≤nH l:=by
 induction l with
 | nil=>cases h
 | cons y l ih =>
  rw [wB]
  rcases List.mem_cons.1 h with rfl | h
  ·omega
  ·have:=ih h; omega
theorem aGx (s:S58) (hl:s.f0.length<4611686018427387904) (hu:nH s.f0<4611686018427387904):∀ (m i:Nat),i+m=s.f0.length→loop (fun q:Int×Int=>dK s q.1 q.2) ((nH (s.f0.take i):Int),(i:Int))=some (nH s.f0:Int)
 | 0,i,hi=>by
  refine bJ ?_
  show dK s _ (i:Int)=_
  unfold dK
  rw [if_neg (by simp only [decide_eq_true_eq]; omega),List.take_of_length_le (by omega)]
 | m+1,i,hi=>by
  have hx:=List.getElem?_eq_getElem (l:=s.f0) (i:=i) (by omega)
  have ht:s.f0.take (i+1)=s.f0.take i++[s.f0[i]]:=by rw [List.take_add_one,hx]; rfl
  have hle:nH (s.f0.take (i+1))≤nH s.f0:=by
   have:=rV (s.f0.take (i+1)) (s.f0.drop (i+1))
   rw [List.take_append_drop] at this
   omega
  have hs:nH (s.f0.take (i+1))=nH (s.f0.take i)+(s.f0[i]).f1.length:=by rw [ht,rV,wB]; rfl
  have:dK s (nH (s.f0.take i):Int) (i:Int)=some (.inl ((nH (s.f0.take (i+1)):Int),((i+1:Nat):Int))):=by
   unfold dK
   rw [if_pos (by simp only [decide_eq_true_eq]; omega),aH rfl hx]
   simp only [Option.bind_some,lt_]
   rw [w64 (by omega) (by omega),w64 (by omega) (by omega),hs]
   rfl
  rw [dD (b:=fun q:Int×Int=>dK s q.1 q.2) this]
  exact aGx s hl hu m (i+1) (by omega)
theorem aSp (s:S58) (hl:s.f0.length<4611686018427387904) (hu:nH s.f0<4611686018427387904):nE (some s)=some (nH s.f0:Int):=by
 show (loop (fun q:Int×Int=>dK s q.1 q.2) (0,0)).bind _=_
 have h:=aGx s hl hu s.f0.length 0 (by omega)
 rw [List.take_zero] at h
 rw [show ((0:Int),(0:Int))=((nH []:Int),((0:Nat):Int)) from rfl,h]
 rfl
theorem aGh (s:S58) (hl:s.f0.length<1099511627776):∀ (m i:Nat),i+m=s.f0.length→loop (fun q:List (List UInt8)×Int=>dI s q.1 q.2) ((s.f0.take i).map S64.f0,(i:Int))=some (s.f0.map S64.f0)
 | 0,i,hi=>by
  refine bJ ?_
  show dI s _ (i:Int)=_
  unfold dI
  rw [if_neg (by simp only [decide_eq_true_eq]; omega),List.take_of_length_le (by omega)]
 | m+1,i,hi=>by
  have hx:=List.getElem?_eq_getElem (l:=s.f0) (i:=i) (by omega)
  have ht:s.f0.take (i+1)=s.f0.take i++[s.f0[i]]:=by rw [List.take_add_one,hx]; rfl
  have:dI s ((s.f0.take i).map S64.f0) (i:Int)=some (.inl ((s.f0.take (i+1)).map S64.f0,((i+1:Nat):Int))):=by
   unfold dI
   rw [if_pos (by simp only [decide_eq_true_eq]; omega),aH rfl hx]
   simp only [Option.bind_some,lt_]
   rw [aW (by simp only [List.length_map,List.length_take,List.length_singleton]; omega),w64 (by omega) (by omega),ht,List.map_append]
   rfl
  rw [dD (b:=fun q:List (List UInt8)×Int=>dI s q.1 q.2) this]
  exact aGh s hl m (i+1) (by omega)
theorem aTx (s:S58) (hl:s.f0.length<1099511627776):mU (some s)=some (s.f0.map S64.f0):=by
 show (loop (fun q:List (List UInt8)×Int=>dI s q.1 q.2) ([],0)).bind _=_
 have h:=aGh s hl s.f0.length 0 (by omega)
 rw [List.take_zero] at h
 rw [show (([]:List (List UInt8)),(0:Int))=(([]:List S64).map S64.f0,((0:Nat):Int)) from rfl,h]
 rfl
def get (l:List S64) (n:List UInt8):Option S64:=l.find? fun x=>x.f0==n
def put:List S64→S64→List S64
 | [],x=>[x]
 | y::l,x=>if Op.bytesLess y.f0 x.f0=true then y::put l x else if y.f0=x.f0 then x::l else x::y::l
def del (l:List S64) (n:List UInt8):List S64:=l.filter fun x => !(x.f0==n)
theorem vR {P D:List S64} {x:S64} {n:List UInt8} (hn:x.f0=n) (h:mC (P++x::D)):get (P++x::D) n=some x:=by
 subst hn
 unfold get
 rw [List.find?_append,List.find?_eq_none.2 (fun y hy=>by simpa using aCb ((yD h).1 y hy))]
 simp
theorem xA {P D:List S64} {n:List UInt8} (hP:∀ y∈P,Op.bytesLess y.f0 n=true) (hD:∀ y∈D,Op.bytesLess n y.f0=true):get (P++D) n=none:=by
 unfold get
 rw [List.find?_eq_none]
 intro y hy
 rcases List.mem_append.1 hy with h | h
 ·simpa using aCb (hP y h)
 ·simpa using fun e=>aCb (hD y h) e.symm
theorem aL4:∀ {P D:List S64} {x:S64},(∀ y∈P,Op.bytesLess y.f0 x.f0=true)→put (P++D) x=P++put D x
 | [],D,x,h=>rfl
 | y::P,D,x,h=>by
  show put (y::(P++D)) x=_
  rw [put,if_pos (h y (List.mem_cons_self ..)),aL4 fun z hz=>h z (List.mem_cons_of_mem _ hz)]
  rfl
theorem aBz {P D:List S64} {x y:S64} (hn:x.f0=y.f0) (h:mC (P++x::D)):put (P++x::D) y=P++y::D:=by
 rw [aL4 fun z hz=>hn▸(yD h).1 z hz,put,if_neg (by rw [hn,wL]; simp),if_pos hn]
theorem aAn {P D:List S64} {y:S64} (hP:∀ z∈P,Op.bytesLess z.f0 y.f0=true) (hD:∀ z∈D,Op.bytesLess y.f0 z.f0=true):put (P++D) y=P++y::D:=by
 rw [aL4 hP]
 congr 1
 cases D with
 | nil=>rfl
 | cons z D =>
  have:=hD z (List.mem_cons_self ..)
  rw [put,if_neg (by rw [aEm this]; simp),if_neg fun e=>aCb this e.symm]
theorem aEu {P D:List S64} {x:S64} {n:List UInt8} (hn:x.f0=n) (h:mC (P++x::D)):del (P++x::D) n=P++D:=by
 subst hn
 unfold del
 rw [List.filter_append,List.filter_cons_of_neg (by simp),List.filter_eq_self.2,List.filter_eq_self.2]
 ·intro y hy; simpa using fun e:y.f0=x.f0=>aCb ((yD h).2 y hy) e.symm
 ·intro y hy; simpa using aCb ((yD h).1 y hy)
theorem aM0 {P D:List S64} {n:List UInt8} (hP:∀ y∈P,Op.bytesLess y.f0 n=true) (hD:∀ y∈D,Op.bytesLess n y.f0=true):del (P++D) n=P++D:=by
 unfold del
 rw [List.filter_eq_self]
 intro y hy
 rcases List.mem_append.1 hy with h | h
 ·simpa using aCb (hP y h)
 ·simpa using fun e:y.f0=n=>aCb (hD y h) e.symm
theorem aH1 {l:List S64} {x y:S64} (h:y∈put l x):y=x∨y∈l:=by
 induction l with
 | nil=>exact .inl (by simpa [put] using h)
 | cons z l ih =>
  unfold put at h
  split at h
  ·rcases List.mem_cons.1 h with rfl | h
   ·exact .inr (List.mem_cons_self ..)
   ·rcases ih h with h | h
    ·exact .inl h
    ·exact .inr (List.mem_cons_of_mem _ h)
  ·split at h
   ·rcases List.mem_cons.1 h with rfl | h
    ·exact .inl rfl
    ·exact .inr (List.mem_cons_of_mem _ h)
   ·rcases List.mem_cons.1 h with rfl | h
    ·exact .inl rfl
    ·exact .inr h
theorem aRk {l:List S64} (h:mC l) (x:S64):mC (put l x):=by
 rcases zV h x.f0 with ⟨P,y,D,rfl,hy⟩ | ⟨P,D,rfl,hP,hD⟩
 ·rw [aBz hy h]; exact aO7 hy h
 ·rw [aAn hP hD]; exact aPq h hP hD
theorem aPn {l:List S64} (h:mC l) (n:List UInt8):mC (del l n):=List.Pairwise.filter _ h
theorem aIl {l:List S64} {n:List UInt8} {x:S64} (h:get l n=some x):x∈l∧x.f0=n:=⟨List.mem_of_find?_eq_some h,by simpa using List.find?_some h⟩
theorem aEk {l:List S64} {n:List UInt8} {x:S64} (h:x∈del l n):x∈l:=(List.mem_filter.1 h).1
theorem aSk {l:List S64} (h:mC l) (m n:List UInt8):get (del l m) n=if m=n then none else get l n:=by
 unfold get del
 split
 ·rename_i e
  subst e
  rw [List.find?_eq_none]
  intro x hx
  simpa using (List.mem_filter.1 hx).2
 ·rename_i hne
  rw [List.find?_filter]
  congr 1
  funext x
  by_cases hx:x.f0=n
  ·simp [hx]; exact fun e=>hne e.symm
  ·simp [hx]
theorem aRc {l:List S64} (h:mC l) (x:S64):nH (put l x)+((get l x.f0).getD ⟨x.f0,[],0⟩).f1.length=nH l+x.f1.length:=by
 rcases zV h x.f0 with ⟨P,y,D,rfl,hy⟩ | ⟨P,D,rfl,hP,hD⟩
 ·rw [aBz hy h,vR hy h]
  simp only [rV,wB,Option.getD_some]
  omega
 ·rw [aAn hP hD,xA hP hD]
  simp only [rV,wB,Option.getD_none,List.length_nil]
  omega
theorem aQv {l:List S64} (h:mC l) (n:List UInt8):nH (del l n)+((get l n).getD ⟨n,[],0⟩).f1.length=nH l:=by
 rcases zV h n with ⟨P,y,D,rfl,hy⟩ | ⟨P,D,rfl,hP,hD⟩
 ·rw [aEu hy h,vR hy h]
  simp only [rV,wB,Option.getD_some]
  omega
 ·rw [aM0 hP hD,xA hP hD]
  rfl
theorem aTz {l:List S64} (h:mC l) (x:S64):(put l x).length=if (get l x.f0).isSome then l.length else l.length+1:=by
 rcases zV h x.f0 with ⟨P,y,D,rfl,hy⟩ | ⟨P,D,rfl,hP,hD⟩
 ·rw [aBz hy h,vR hy h]; simp
 ·rw [aAn hP hD,xA hP hD]; simp; omega
theorem aTw {l:List S64} (h:mC l) (n:List UInt8):(del l n).length+(if (get l n).isSome then 1 else 0)=l.length:=by
 rcases zV h n with ⟨P,y,D,rfl,hy⟩ | ⟨P,D,rfl,hP,hD⟩
 ·rw [aEu hy h,vR hy h]; simp; omega
 ·rw [aM0 hP hD,xA hP hD]; simp
def step (s:S58):S58:=⟨s.f0,s.f1,if 0<s.f2 then s.f2 - 1 else s.f2,if 0<s.f2 then s.f2 - 1==0 else s.f3,s.f4+1⟩
structure SI (k:Nat) (s:S58):Prop where
 rise:mC s.f0
 form:∀ x∈s.f0,yW x.f0=true
 len:s.f0.length≤500
 room:1≤s.f1∧s.f1≤16777216
 use:(nH s.f0:Int)≤s.f1
 sure:∀ x∈s.f0,0≤x.f2∧x.f2≤x.f1.length
 byt:∀ x∈s.f0,∀ b∈x.f1,0≤b∧b<256
 armed:0≤s.f2∧s.f2≤9223372036854775807
 ops:0≤s.f4∧s.f4≤k
def wP (s:S58) (n:List UInt8):Int:=if yW n=true then (if s.f3=true then 9 else 0) else 1
section
variable {k:Nat} {s:S58} {n:List UInt8}
theorem SI.find (h:SI k s) (n:List UInt8):gP s n=some ((pos s.f0 n:Int),has s.f0 n):=aUq s h.rise (by have:=h.len; omega) n
theorem SI.one (h:SI k s) {x:S64} (hx:x∈s.f0):(x.f1.length:Int)≤16777216:=by
 have:=aPp hx; have:=h.use; have:=h.room; omega
theorem SI.Used (h:SI k s):nE (some s)=some (nH s.f0:Int):=aSp s (by have:=h.len; omega) (by have:=h.use; have:=h.room; omega)
theorem SI.Names (h:SI k s):mU (some s)=some (s.f0.map S64.f0):=aTx s (by have:=h.len; omega)
theorem SI.begin (h:SI k s) (hk:k<4611686018427387904):jK s=some (!(step s).f3,step s):=by
 have h1:=h.armed; have h2:=h.ops
 unfold jK step
 rw [lt_,w64 (n:=s.f4+1) (by omega) (by omega)]
 by_cases c:0<s.f2
 ·rw [if_pos (by simpa using c),lt_,w64 (n:=s.f2 - 1) (by omega) (by omega)]
  simp only [if_pos c]
  rfl
 ·rw [if_neg (by simpa using c)]
  simp only [if_neg c]
  rfl
theorem SI.stepped (h:SI k s):SI (k+1) (step s):=by
 refine⟨h.rise,h.form,h.len,h.room,h.use,h.sure,h.byt,?_,?_⟩
 ·have:=h.armed; simp only [P.step]; split <;> omega
 ·have:=h.ops; simp only [P.step]; omega
theorem SI.mono (h:SI k s) {k':Nat} (hk:k≤k'):SI k' s:=⟨h.rise,h.form,h.len,h.room,h.use,h.sure,h.byt,h.armed,by have:=h.ops; omega⟩
theorem aId (s:S58) (hn:n.length<4611686018427387904):eY (some s) n=some (wP s n):=by
 show (tO n).bind _=_
 rw [aUc n hn]
 simp only [Option.bind_some]
 unfold wP
 cases yW n with
 | true=>cases s.f3 <;> rfl
 | false=>rfl
theorem aQd (a:List Int) (h:a.length≤140737488355328):dR a=some a:=by
 unfold dR
 rw [aW (by simp only [List.length_nil]; omega)]
 cases a with
 | nil=>simp [pC]
 | cons b a=>simp [pC]
def aM8 (s:S58) (n:List UInt8):List Int×Int:=if wP s n=0 then (match get s.f0 n with | some x=>(x.f1,0) | none=>([],5)) else ([],wP s n)
theorem SI.Read (h:SI k s) (hn:n.length<4611686018427387904):pY (some s) n=some (aM8 s n):=by
 show (eY (some s) n).bind _=_
 rw [aId s hn]
 simp only [Option.bind_some]
 unfold aM8
 by_cases c:wP s n=0
 ·rw [if_neg (by simpa using c),if_pos c,h.find]
  simp only [Option.bind_some]
  have hr:=h.rise
  have hone:=fun x=>h.one (x:=x)
  rcases zV hr n with ⟨P,x,D,e,hx⟩ | ⟨P,D,e,hP,hD⟩
  ·rw [e] at hr hone ⊢
   have hx1:=hone x (by simp)
   rw [aH6 hx hr,aEi hx hr,vR hx hr,if_neg (by simp),aH rfl (show (P++x::D)[P.length]?=some x by simp)]
   simp only [Option.bind_some]
   rw [aQd _ (by omega)]
   rfl
  ·rw [e] at hr ⊢
   rw [aJa hP hD,xA hP hD,if_pos (by simp)]
 ·rw [if_pos (by simpa using c),if_neg c]
def aA1 (s:S58) (n:List UInt8) (p:List Int):Int×S58 :=
 if wP s n=0 then
  if s.f1 - nH s.f0<p.length∨((get s.f0 n).isNone=true∧500≤s.f0.length) then (10,s)
  else (if (P.step s).f3=true then 9 else 0,{ P.step s with f0:=put s.f0 ⟨n,((get s.f0 n).getD ⟨n,[],0⟩).f1++p,((get s.f0 n).getD ⟨n,[],0⟩).f2⟩ })
 else (wP s n,s)
theorem aRy {y:Int×Bool} {b:Bool} {p:List Int} (h:b=true):dZ n p s y b=some (10,some s):=by subst h; rfl
theorem aJ0 {l:List S64} {P D:List S64} {x:S64} {p:List Int} {b:Bool} {y:Bool} {r:S58} (hl:l=P++x::D) (hb:x.f1.length+p.length≤140737488355328) :
  fZ p ((P.length:Int),b) (y,r) l=some (if y=true then 0 else 9,some ⟨P++⟨x.f0,x.f1++p,x.f2⟩::D,r.f1,r.f2,r.f3,r.f4⟩):=by
 subst hl
 unfold fZ
 rw [aH rfl (show (P++x::D)[P.length]?=some x by simp)]
 simp only [Option.bind_some]
 rw [aW (by omega),Int.toNat_natCast,show (P++x::D).set P.length (⟨x.f0,x.f1++p,x.f2⟩:S64)=P++⟨x.f0,x.f1++p,x.f2⟩::D by simp]
 cases y <;> rfl
theorem SI.Append (h:SI k s) (hk:k<4611686018427387904) (hn:n.length<4611686018427387904) (p:List Int):nX (some s) n p=some ((aA1 s n p).1,some (aA1 s n p).2):=by
 have hu:=h.use; have hro:=h.room; have hlen:=h.len
 show (eY (some s) n).bind _=_
 rw [aId s hn]
 simp only [Option.bind_some]
 unfold aA1
 by_cases c:wP s n=0
 ·rw [if_neg (by simpa using c),if_pos c,h.find]
  simp only [Option.bind_some]
  rw [h.Used]
  simp only [Option.bind_some]
  rw [lt_,w64 (by omega) (by omega)]
  by_cases c1:s.f1 - nH s.f0<p.length
  ·rw [if_pos (by simpa using c1),if_pos (.inl c1),aRy rfl]
  ·rw [if_neg (by simpa using c1)]
   have hb:=h.begin hk
   have hr:=h.rise
   have hone:=fun x=>h.one (x:=x)
   rcases zV hr n with ⟨P,x,D,e,hx⟩ | ⟨P,D,e,hP,hD⟩
   ·rw [e] at hr
    have hx1:=hone x (by rw [e]; simp)
    have e1:has s.f0 n=true:=by rw [e]; exact aH6 hx hr
    have e2:pos s.f0 n=P.length:=by rw [e]; exact aEi hx hr
    have e3:get s.f0 n=some x:=by rw [e]; exact vR hx hr
    rw [e1,e2,if_neg (by simp)]
    unfold dZ
    rw [if_neg (by simp),hb]
    simp only [Option.bind_some]
    rw [if_neg (by simp),e3,if_neg (by simp [c1]),show (step s).f0=P++x::D from e,aJ0 rfl (by omega),e,Option.getD_some,aBz hx hr]
    subst hx
    cases (step s).f3 <;> rfl
   ·rw [e] at hr
    have e1:has s.f0 n=false:=by rw [e]; exact aJa hP hD
    have e2:pos s.f0 n=P.length:=by rw [e]; exact aMp hP hD
    have e3:get s.f0 n=none:=by rw [e]; exact xA hP hD
    rw [e1,e2,if_pos (by simp)]
    by_cases c2:500≤s.f0.length
    ·rw [aRy (by simp; omega),e3,if_pos (by simp [c2])]
    ·unfold dZ
     rw [if_neg (by simp; omega),hb]
     simp only [Option.bind_some]
     have hl:s.f0.length=P.length+D.length:=by rw [e]; simp
     have hins:aP4 (step s).f0 (P.length:Int) [(⟨n,[],0⟩:S64)]=some (P++⟨n,[],0⟩::D):=by
      unfold aP4
      rw [if_pos ⟨by omega,by show (P.length:Int)≤(s.f0.length:Int); omega,by simp,by show (s.f0.length+1) * 48≤_; omega⟩,show (step s).f0=P++D from e,Int.toNat_natCast,List.take_left,List.drop_left]
      simp
     rw [if_pos (by simp),hins]
     simp only [Option.bind_some]
     rw [e3,if_neg (by simp [c1]; omega),aJ0 rfl (by simp only [List.length_nil]; omega),e,Option.getD_none,aAn hP hD]
     cases (step s).f3 <;> rfl
 ·rw [if_pos (by simpa using c),if_neg c]
end
section
variable {k:Nat} {s:S58} {n:List UInt8}
def aEc (s:S58) (n:List UInt8) (f:S64→List S64):Int×S58 :=
 if wP s n=0 then
  match get s.f0 n with
  | none=>(5,s)
  | some x=>if (step s).f3=true then (9,step s) else (0,{ step s with f0:=f x })
 else (wP s n,s)
def kN (s:S58) (n:List UInt8):Int×S58:=aEc s n fun x=>del s.f0 n
theorem SI.Delete (h:SI k s) (hk:k<4611686018427387904) (hn:n.length<4611686018427387904):kV (some s) n=some ((kN s n).1,some (kN s n).2):=by
 show (jQ n s).bind _=_
 unfold jQ kN aEc
 rw [aId s hn]
 simp only [Option.bind_some]
 by_cases c:wP s n=0
 ·rw [if_neg (by simpa using c),if_pos c,h.find]
  simp only [Option.bind_some]
  have hb:=h.begin hk
  have hr:=h.rise
  have hlen:=h.len
  rcases zV hr n with ⟨P,x,D,e,hx⟩ | ⟨P,D,e,hP,hD⟩
  ·rw [e] at hr
   have e1:has s.f0 n=true:=by rw [e]; exact aH6 hx hr
   have e2:pos s.f0 n=P.length:=by rw [e]; exact aEi hx hr
   have e3:get s.f0 n=some x:=by rw [e]; exact vR hx hr
   have hl:s.f0.length=P.length+(D.length+1):=by rw [e]; simp
   rw [e1,e2,e3,if_neg (by simp),hb]
   simp only [Option.bind_some]
   cases c3:(step s).f3 with
   | true=>rfl
   | false =>
    unfold lT aTt
    rw [if_neg (by simp),if_neg (by simp),lt_,w64 (by omega) (by omega),if_pos ⟨by omega,by show (P.length:Int)<(s.f0.length:Int); omega,rfl⟩]
    simp only [Option.bind_some]
    rw [e,aEu hx hr,show (step s).f0=P++x::D from e,Int.toNat_natCast,List.eraseIdx_append_of_length_le (Nat.le_refl _),Nat.sub_self,List.eraseIdx_cons_zero, ← c3]
  ·rw [e] at hr
   have e1:has s.f0 n=false:=by rw [e]; exact aJa hP hD
   have e3:get s.f0 n=none:=by rw [e]; exact xA hP hD
   rw [e1,e3,if_pos (by simp)]
   rfl
 ·rw [if_pos (by simpa using c),if_neg c]
  rfl
theorem bAc (h:wP s n=0):yW n=true∧s.f3=false:=by
 unfold wP at h
 split at h
 ·split at h
  ·cases h
  ·exact⟨by assumption,by simpa using (by assumption:¬ s.f3=true)⟩
 ·cases h
theorem SI.app (h:SI k s) {p:List Int} (hp:∀ b∈p,0≤b∧b<256):SI (k+1) (aA1 s n p).2:=by
 unfold aA1
 split
 ·rename_i c
  split
  ·exact h.mono (Nat.le_succ k)
  ·rename_i c1
   have hs:=h.stepped
   have hu:=aRc h.rise ⟨n,((get s.f0 n).getD ⟨n,[],0⟩).f1++p,((get s.f0 n).getD ⟨n,[],0⟩).f2⟩
   have hl:=aTz h.rise ⟨n,((get s.f0 n).getD ⟨n,[],0⟩).f1++p,((get s.f0 n).getD ⟨n,[],0⟩).f2⟩
   have hold:∀ y,y=(get s.f0 n).getD ⟨n,[],0⟩→(0≤y.f2∧y.f2≤y.f1.length)∧∀ b∈y.f1,0≤b∧b<256:=by
    intro y hy
    cases hg:get s.f0 n with
    | none=>rw [hg] at hy; subst hy; simp
    | some x=>rw [hg] at hy; subst hy; exact⟨h.sure _ (aIl hg).1,h.byt _ (aIl hg).1⟩
   obtain⟨ho1,ho2⟩:=hold _ rfl
   have hlen:=h.len; have huse:=h.use; have hro:=h.room
   refine⟨aRk h.rise _,fun x hx=>?_,?_,hs.room,?_,fun x hx=>?_,fun x hx=>?_,hs.armed,hs.ops⟩
   ·rcases aH1 hx with rfl | hx
    ·exact (bAc c).1
    ·exact h.form x hx
   ·show (put s.f0 _).length≤500
    rw [hl]
    split
    ·exact hlen
    ·rename_i hi
     have hi':get s.f0 n=none:=by simpa using hi
     have:¬ 500≤s.f0.length:=fun q=>c1 (.inr ⟨by rw [hi']; rfl,q⟩)
     omega
   ·show ((nH (put s.f0 _):Nat):Int)≤s.f1
    simp only [List.length_append] at hu
    have:¬ s.f1 - nH s.f0<p.length:=fun q=>c1 (.inl q)
    omega
   ·rcases aH1 hx with rfl | hx
    ·simp only [List.length_append]; omega
    ·exact h.sure x hx
   ·rcases aH1 hx with rfl | hx
    ·intro b hb
     rcases List.mem_append.1 hb with hb | hb
     ·exact ho2 b hb
     ·exact hp b hb
    ·exact h.byt x hx
 ·exact h.mono (Nat.le_succ k)
theorem SI.chg (h:SI k s) {f:S64→List S64} (hf:∀ x,get s.f0 n=some x→SI (k+1) { step s with f0:=f x }):SI (k+1) (aEc s n f).2:=by
 unfold aEc
 split
 ·split
  ·exact h.mono (Nat.le_succ k)
  ·rename_i x hx
   split
   ·exact h.stepped
   ·exact hf x hx
 ·exact h.mono (Nat.le_succ k)
theorem SI.del (h:SI k s):SI (k+1) (kN s n).2:=by
 refine h.chg fun x hx=>?_
 have hl:=aTw h.rise n
 have hu:=aQv h.rise n
 exact⟨aPn h.rise n,fun y hy=>h.form y (aEk hy),by show (P.del s.f0 n).length≤500; have:=h.len; omega,h.room,by show (nH (P.del s.f0 n):Int)≤s.f1; have:=h.use; omega,fun y hy=>h.sure y (aEk hy),fun y hy=>h.byt y (aEk hy),h.stepped.armed,h.stepped.ops⟩
end
def onS (l:List S64) (room:Int) (ops:Int):S58:=⟨l,room,0,false,ops⟩
theorem aMn {r:Int} (h:1≤r) (h':r≤16777216):wE r=some (some (onS [] r 0),0):=by
 unfold wE
 rw [if_neg (by simp; omega)]
 unfold tA
 rw [if_neg (by simp; omega)]
 rfl
theorem aQ1 {r:Int} (h:1≤r) (h':r≤16777216):SI 0 (onS [] r 0) :=
 ⟨List.Pairwise.nil,fun x hx=>(by cases hx),Nat.zero_le _,⟨h,h'⟩,by show ((0:Nat):Int)≤r; omega,fun x hx=>(by cases hx),fun x hx=>(by cases hx),⟨Int.le_refl 0,by show (0:Int)≤9223372036854775807; decide⟩,⟨Int.le_refl 0,Int.le_refl 0⟩⟩
structure AI (k i:Nat) (s:S58):Prop where
 si:SI i s
 room:s.f1=5000
 left:s.f2=(k:Int)+1 - i
 off:s.f3=decide (i=k+1)
 one:∃ p t,s.f0=[⟨[97],p,t⟩]∧p.length≤i
structure RI (n:Int) (i:Nat) (l:List S64) (ops:Int):Prop where
 si:SI (2 * i) (onS l n ops)
 len:l.length≤i
section
end
section
variable {k:Nat} {s:S58} {n:List UInt8}
end
section
variable {k:Nat} {s:S58} {n:List UInt8}
end
section
variable {k:Nat} {s:S58} {n:List UInt8}
theorem aAm {l:List Int} (h:∀ b∈l,0≤b∧b<256):stb (bts l)=l:=by
 induction l with
 | nil=>rfl
 | cons b l ih =>
  have hb:=h b (List.mem_cons_self ..)
  show ((UInt8.ofNat b.toNat).toNat:Int)::stb (bts l)=_
  rw [ih fun x hx=>h x (List.mem_cons_of_mem _ hx)]
  congr 1
  rw [UInt8.toNat_ofNat']
  omega
end
section
variable {k:Nat} {s:S58} {n:List UInt8}
end
theorem uG (a:Nat):IntKind.u32.wrap (a:Int)=((a % 4294967296:Nat):Int):=by
 rw [IntKind.wrap_u32]; omega
theorem aKx {a b:Nat} (ha:a<4294967296) (hb:b<4294967296):yQ .u32 (a:Int) (b:Int)=((a &&& b:Nat):Int):=by
 unfold yQ
 rw [fP,fP,uG]
 have h:a &&& b<4294967296:=Nat.lt_of_le_of_lt Nat.and_le_left ha
 simp only [BitVec.toNat_and,BitVec.toNat_ofNat,show IntKind.u32.bits=32 from rfl]
 rw [Nat.mod_eq_of_lt (show a<2 ^ 32 by omega),Nat.mod_eq_of_lt (show b<2 ^ 32 by omega),Nat.mod_eq_of_lt h]
theorem aJl {a b:Nat} (ha:a<4294967296) (hb:b<4294967296):ior .u32 (a:Int) (b:Int)=((a ||| b:Nat):Int):=by
 unfold ior
 rw [fP,fP,uG]
 have h:a ||| b<2 ^ 32:=Nat.or_lt_two_pow (show a<2 ^ 32 by omega) (show b<2 ^ 32 by omega)
 simp only [BitVec.toNat_or,BitVec.toNat_ofNat,show IntKind.u32.bits=32 from rfl]
 rw [Nat.mod_eq_of_lt (show a<2 ^ 32 by omega),Nat.mod_eq_of_lt (show b<2 ^ 32 by omega),Nat.mod_eq_of_lt (show a ||| b<4294967296 from h)]
theorem zO {a b:Nat} (ha:a<4294967296) (hb:b<4294967296):xT .u32 (a:Int) (b:Int)=((a ^^^ b:Nat):Int):=by
 unfold xT
 rw [fP,fP,uG]
 have h:a ^^^ b<2 ^ 32:=Nat.xor_lt_two_pow (show a<2 ^ 32 by omega) (show b<2 ^ 32 by omega)
 simp only [BitVec.toNat_xor,BitVec.toNat_ofNat,show IntKind.u32.bits=32 from rfl]
 rw [Nat.mod_eq_of_lt (show a<2 ^ 32 by omega),Nat.mod_eq_of_lt (show b<2 ^ 32 by omega),Nat.mod_eq_of_lt (show a ^^^ b<4294967296 from h)]
theorem aGe (a n:Nat) (h:n≤32):yZ .u32 (a:Int) (n:Int)=((a * 2 ^ n % 4294967296:Nat):Int):=by
 unfold yZ
 rw [Int.toNat_natCast,show min n IntKind.u32.bits=n from Nat.min_eq_left h,aEf, ← Int.natCast_mul,uG]
theorem yI {a b:Nat} (ha:a<4294967296) (hb:b<4294967296):a ^^^ b<4294967296:=Nat.xor_lt_two_pow (n:=32) ha hb
def s1 (c:Nat):Nat:=if c % 2=1 then (c / 2) ^^^ 3988292384 else c / 2
theorem aYt {c:Nat} (h:c<4294967296):s1 c<4294967296:=by
 unfold s1
 split
 ·exact yI (by omega) (by decide)
 ·omega
theorem aWk (a b:Nat):s1 (a ^^^ b)=s1 a ^^^ s1 b:=by
 unfold s1
 have h:=Nat.xor_mod_two_eq_one (a:=a) (b:=b)
 rw [Nat.xor_div_two]
 by_cases ha:a % 2=1 <;> by_cases hb:b % 2=1
 ·rw [if_neg (by rw [h]; simp [ha,hb]),if_pos ha,if_pos hb]
  rw [show (a / 2 ^^^ 3988292384) ^^^ (b / 2 ^^^ 3988292384)=(a / 2 ^^^ b / 2) ^^^ (3988292384 ^^^ 3988292384) by
   rw [Nat.xor_assoc, ← Nat.xor_assoc 3988292384,Nat.xor_comm 3988292384 (b / 2),Nat.xor_assoc (b / 2), ← Nat.xor_assoc]]
  simp
 ·rw [if_pos (by rw [h]; simp [ha,hb]),if_pos ha,if_neg hb,Nat.xor_assoc,Nat.xor_comm (b / 2), ← Nat.xor_assoc]
 ·rw [if_pos (by rw [h]; simp [ha,hb]),if_neg ha,if_pos hb,Nat.xor_assoc]
 ·rw [if_neg (by rw [h]; simp [ha,hb]),if_neg ha,if_neg hb]
theorem aUi (a:Nat):s1 (2 * a)=a:=by unfold s1; rw [if_neg (by omega)]; omega
theorem aTm (a z:Nat):s1 (2 * a ^^^ z)=a ^^^ s1 z:=by rw [aWk,aUi]
def st (x:Nat):Nat→Nat→Nat
 | 0,c=>c
 | k+1,c=>s1 (st x k c ^^^ (x / 2 ^ k % 2))
theorem aVo (x:Nat) {c:Nat} (h:c<4294967296):∀ k,st x k c<4294967296
 | 0=>h
 | k+1=>aYt (yI (aVo x h k) (by omega))
def tabN:List Nat:=[0,498536548,997073096,651767980,1994146192,1802195444,1303535960,1342533948,3988292384,4027552580,3604390888,3412177804,2607071920,2262029012,2685067896,3183342108]
theorem aV5:dA=tabN.map fun n:Nat=>(n:Int):=by decide
def F4 (r m:Nat):Nat:=s1 (s1 (s1 (s1 (r ^^^ m / 1 % 2) ^^^ m / 2 % 2) ^^^ m / 4 % 2) ^^^ m / 8 % 2)
theorem aR1:∀ r<16,∀ m<16,tabN[r ^^^ m]?=some (F4 r m):=by decide +kernel
theorem aS4 (c:Nat):c=(16 * (c / 16)) ^^^ (c % 16):=by
 apply Nat.eq_of_testBit_eq
 intro i
 rw [Nat.testBit_xor,show 16 * (c / 16)=2 ^ 4 * (c / 2 ^ 4) from rfl,show c % 16=c % 2 ^ 4 from rfl,Nat.testBit_two_pow_mul,Nat.testBit_mod_two_pow,Nat.testBit_div_two_pow]
 by_cases h:i<4
 ·simp [h,Nat.not_le.2 h]
 ·rw [show i - 4+4=i by omega]; simp [h,Nat.le_of_not_lt h]
theorem nib (c m:Nat):s1 (s1 (s1 (s1 (c ^^^ m / 1 % 2) ^^^ m / 2 % 2) ^^^ m / 4 % 2) ^^^ m / 8 % 2)=(c / 16) ^^^ F4 (c % 16) m:=by
 have h:=aS4 c
 obtain⟨q,hq⟩:∃ q,q=c / 16:=⟨_,rfl⟩
 obtain⟨r,hr⟩:∃ r,r=c % 16:=⟨_,rfl⟩
 rw [← hq, ← hr] at h ⊢
 rw [h]
 unfold F4
 rw [Nat.xor_assoc,show 16 * q=2 * (8 * q) by omega,aTm,Nat.xor_assoc,show 8 * q=2 * (4 * q) by omega,aTm,Nat.xor_assoc,show 4 * q=2 * (2 * q) by omega,aTm,Nat.xor_assoc,aTm]
theorem st8 (x c:Nat) (hx:x<256):st x 8 c=(((c / 16) ^^^ F4 (c % 16) (x % 16)) / 16) ^^^ F4 (((c / 16) ^^^ F4 (c % 16) (x % 16)) % 16) (x / 16):=by
 rw [← nib c (x % 16), ← nib _ (x / 16)]
 show s1 (s1 (s1 (s1 (s1 (s1 (s1 (s1 (c ^^^ x / 2 ^ 0 % 2) ^^^ x / 2 ^ 1 % 2) ^^^ x / 2 ^ 2 % 2) ^^^ x / 2 ^ 3 % 2) ^^^ x / 2 ^ 4 % 2) ^^^ x / 2 ^ 5 % 2) ^^^ x / 2 ^ 6 % 2) ^^^ x / 2 ^ 7 % 2)=_
 rw [show x / 2 ^ 0 % 2=x % 16 / 1 % 2 by omega,show x / 2 ^ 1 % 2=x % 16 / 2 % 2 by omega,show x / 2 ^ 2 % 2=x % 16 / 4 % 2 by omega,show x / 2 ^ 3 % 2=x % 16 / 8 % 2 by omega,
  show x / 2 ^ 4 % 2=x / 16 / 1 % 2 by omega,show x / 2 ^ 5 % 2=x / 16 / 2 % 2 by omega,show x / 2 ^ 6 % 2=x / 16 / 4 % 2 by omega,show x / 2 ^ 7 % 2=x / 16 / 8 % 2 by omega]
def aF2 (c:Nat) (xs:List Int):Nat:=xs.foldl (fun c x=>st x.toNat 8 c) c
theorem aEj:∀ (xs:List Int) {c:Nat},c<4294967296→aF2 c xs<4294967296
 | [],_,h=>h
 | x::xs,c,h=>aEj xs (aVo _ h 8)
theorem aN9 (c:Nat) (xs:List Int) (x:Int):aF2 c (xs++[x])=st x.toNat 8 (aF2 c xs):=by simp [aF2]
theorem aV3 {r m:Nat} (hr:r<16) (hm:m<16):at_ dA ((r ^^^ m:Nat):Int)=some ((F4 r m:Nat):Int):=by
 rw [aMb,aV5,List.getElem?_map,aR1 r hr m hm]; rfl
theorem aVe (a b:Nat):(a ^^^ b) &&& 15=a % 16 ^^^ b % 16:=by
 rw [show 15=2 ^ 4 - 1 from rfl,Nat.and_two_pow_sub_one_eq_mod,Nat.xor_mod_two_pow]
theorem aUy {r m:Nat} (hr:r<16) (hm:m<16):F4 r m<4294967296:=by
 have:=aR1 r hr m hm
 have h:∀ x∈tabN,x<4294967296:=by decide
 exact h _ (List.mem_of_getElem? this)
theorem aOd {xs:List Int} (hB:Bs xs) (hl:xs.length<2 ^ 60) {k:Nat} (hk:k<xs.length) {c:Nat} (hc:c<4294967296) :
  lX xs (c:Int) (k:Int)=some (.inl (((st (xs[k]'hk).toNat 8 c:Nat):Int),((k+1:Nat):Int))):=by
 obtain⟨x,hx⟩:∃ x,x=xs[k]'hk:=⟨_,rfl⟩
 have hxb:=hB x (hx▸List.getElem_mem hk)
 obtain⟨b,rfl⟩:=Int.eq_ofNat_of_zero_le hxb.1
 have hb:b<256:=by omega
 have hg:xs[k]?=some (b:Int):=by rw [hx]; exact List.getElem?_eq_getElem hk
 rw [← hx,Int.toNat_natCast,st8 b c hb]
 unfold lX
 simp only [lt_]
 rw [if_pos (by simp; omega),aH rfl hg]
 simp only [Option.bind_some]
 have h:(15:Int)=((15:Nat):Int):=rfl
 have e4:(4:Int)=((4:Nat):Int):=rfl
 have hf:F4 (c % 16) (b % 16)<4294967296:=aUy (by omega) (by omega)
 have hd:c / 16 ^^^ F4 (c % 16) (b % 16)<4294967296:=yI (by omega) hf
 obtain⟨d,hdd⟩:∃ d,d=c / 16 ^^^ F4 (c % 16) (b % 16):=⟨_,rfl⟩
 rw [← hdd] at hd ⊢
 rw [uG,Nat.mod_eq_of_lt (by omega),zO hc (by omega),h,aKx (yI hc (by omega)) (by decide),aVe,aV3 (by omega) (by omega),e4]
 simp only [Option.bind_some]
 rw [nA _ _ (by decide),nA _ _ (by decide),show c / 2 ^ 4=c / 16 from rfl,show b / 2 ^ 4=b / 16 from rfl,zO hf (by omega),Nat.xor_comm _ (c / 16), ← hdd,zO hd (by omega),
  aKx (yI hd (by omega)) (by decide),aVe,show b / 16 % 16=b / 16 by omega,aV3 (by omega) (by omega)]
 simp only [Option.bind_some]
 rw [nA _ _ (by decide),show d / 2 ^ 4=d / 16 from rfl,zO (aUy (by omega) (by omega)) (by omega),Nat.xor_comm _ (d / 16),w64 (by omega) (by omega)]
 rfl
theorem aPf (c:Nat) {xs:List Int} {k:Nat} (hk:k<xs.length):aF2 c (xs.take (k+1))=st (xs[k]'hk).toNat 8 (aF2 c (xs.take k)):=by
 rw [List.take_add_one,List.getElem?_eq_getElem hk]
 exact aN9 _ _ _
def crc (xs:List Int):Nat:=aF2 4294967295 xs ^^^ 4294967295
theorem aL2 (xs:List Int):crc xs<4294967296:=yI (aEj xs (by decide)) (by decide)
theorem aDv {xs:List Int} (hB:Bs xs) (hl:xs.length<2 ^ 60):xS xs=some ((crc xs:Nat):Int):=by
 have h:=iO (b:=fun s:Int×Int=>lX xs s.1 s.2) (fun k=>(((aF2 4294967295 (xs.take k):Nat):Int),(k:Int))) (t:=((aF2 4294967295 xs:Nat):Int)) xs.length (fun k hk=>by
  show lX xs _ _=_
  rw [aOd hB hl hk (aEj _ (by decide)),aPf _ hk]) (by
  show lX xs ((aF2 4294967295 (xs.take xs.length):Nat):Int) (xs.length:Int)=_
  unfold lX
  rw [if_neg (by simp),List.take_length])
 unfold xS
 rw [show ((4294967295,0):Int×Int)=(((aF2 4294967295 (xs.take 0):Nat):Int),((0:Nat):Int)) from rfl,h]
 show some (xT .u32 IntKind.u32.max _)=_
 rw [show IntKind.u32.max=((4294967295:Nat):Int) by decide,zO (by decide) (aEj _ (by decide)),Nat.xor_comm]
 rfl
def zA (v:List Int):Nat:=(v.getD 0 0).toNat+256 * (v.getD 1 0).toNat+65536 * (v.getD 2 0).toNat+16777216 * (v.getD 3 0).toNat
theorem aMt {v:List Int} (hB:Bs v) (h:4≤v.length):∃ a b c d:Nat,∃ r,v=(a:Int)::b::c::d::r∧a<256∧b<256∧c<256∧d<256:=by
 match v,h with
 | a::b::c::d::r,_ =>
  have ha:=hB a (by simp); have hb:=hB b (by simp); have hc:=hB c (by simp); have hd:=hB d (by simp)
  obtain⟨a,rfl⟩:=Int.eq_ofNat_of_zero_le ha.1; obtain⟨b,rfl⟩:=Int.eq_ofNat_of_zero_le hb.1
  obtain⟨c,rfl⟩:=Int.eq_ofNat_of_zero_le hc.1; obtain⟨d,rfl⟩:=Int.eq_ofNat_of_zero_le hd.1
  exact⟨a,b,c,d,r,rfl,by omega,by omega,by omega,by omega⟩
theorem aI5 (a b c d:Nat) (r:List Int):zA ((a:Int)::b::c::d::r)=a+256 * b+65536 * c+16777216 * d:=by simp [zA]
theorem aT2 {v:List Int} (hB:Bs v) (h:4≤v.length):zA v<4294967296:=by
 obtain⟨a,b,c,d,r,rfl,h1,h2,h3,h4⟩:=aMt hB h
 rw [aI5]; omega
theorem at0 {α:Type} (a b c d:α) (r:List α):at_ (a::b::c::d::r) 0=some a∧at_ (a::b::c::d::r) 1=some b∧at_ (a::b::c::d::r) 2=some c∧at_ (a::b::c::d::r) 3=some d :=
 ⟨aH (n:=0) rfl rfl,aH (n:=1) rfl rfl,aH (n:=2) rfl rfl,aH (n:=3) rfl rfl⟩
theorem zM {v:List Int} (hB:Bs v) (h:4≤v.length):rP v=some (zA v:Int):=by
 obtain⟨a,b,c,d,r,rfl,h1,h2,h3,h4⟩:=aMt hB h
 obtain⟨e0,e1,e2,e3⟩:=at0 (a:Int) (b:Int) (c:Int) (d:Int) r
 unfold rP
 simp only [lt_,e0,e1,e2,e3,Option.bind_some]
 rw [show (8:Int)=((8:Nat):Int) from rfl,show (16:Int)=((16:Nat):Int) from rfl,show (24:Int)=((24:Nat):Int) from rfl]
 rw [uG a,uG b,uG c,uG d,Nat.mod_eq_of_lt (show a<4294967296 by omega),Nat.mod_eq_of_lt (show b<4294967296 by omega),Nat.mod_eq_of_lt (show c<4294967296 by omega),Nat.mod_eq_of_lt (show d<4294967296 by omega)]
 rw [aGe b 8 (by decide),aGe c 16 (by decide),aGe d 24 (by decide),Nat.mod_eq_of_lt (show b * 2 ^ 8<4294967296 by omega),Nat.mod_eq_of_lt (show c * 2 ^ 16<4294967296 by omega),Nat.mod_eq_of_lt (show d * 2 ^ 24<4294967296 by omega)]
 rw [aJl (by omega) (by omega),aC9 (show a<2 ^ 8 by omega),aJl (by omega) (by omega),aC9 (show a+b * 2 ^ 8<2 ^ 16 by omega),aJl (by omega) (by omega),aC9 (show a+b * 2 ^ 8+c * 2 ^ 16<2 ^ 24 by omega),aI5]
 congr 2
 omega
theorem aKu {l:List Int} (h:l.length≤140737488355328):dR l=some l:=by
 unfold dR
 rw [aW (by simp; omega)]
 unfold pC
 cases l <;> simp
def yC (b:List Int) (a:Int):Int×List Int×Int×Int :=
 if a<0∨(b.length:Int)<a then (0,[],0,1) else
 if (b.drop a.toNat).length<9 then (0,[],0,3) else
 if 1048576<zA (b.drop a.toNat)∨(b.drop a.toNat).length - 9<zA (b.drop a.toNat) then (0,[],0,3) else
 if crc ((b.drop a.toNat).take (5+zA (b.drop a.toNat)))=zA ((b.drop a.toNat).drop (5+zA (b.drop a.toNat))) then
  ((b.drop a.toNat).getD 4 0,((b.drop a.toNat).take (5+zA (b.drop a.toNat))).drop 5,a+zA (b.drop a.toNat)+9,0) else (0,[],0,4)
theorem aZi {v:List Int} (h:5≤v.length):at_ v 4=some (v.getD 4 0):=by
 refine aH (n:=4) rfl ?_
 rw [List.getD_eq_getElem?_getD,List.getElem?_eq_getElem (by omega)]
 rfl
theorem aMw {α:Type} {xs:List α} {l:Nat} (h:l≤xs.length):oO xs (l:Int) (xs.length:Int)=some (xs.drop l):=by
 rw [uF h (Nat.le_refl _),List.take_length]
theorem aH8 {b:List Int} {a:Int} (hB:Bs b) (hl:b.length<2 ^ 40):yJ b a=some (yC b a):=by
 unfold yJ yC
 by_cases h0:a<0
 ·rw [if_pos (by simpa using h0),if_pos (.inl h0)]; rfl
 rw [if_neg (by simpa using h0)]
 by_cases h1:(b.length:Int)<a
 ·rw [if_pos (.inr h1),show decide ((b.length:Int)<a)=true by simpa using h1]; rfl
 rw [if_neg (by omega),show decide ((b.length:Int)<a)=false by simpa using h1]
 obtain⟨k,rfl⟩:=Int.eq_ofNat_of_zero_le (show 0≤a by omega)
 have hv:=hB.drop k
 have hvl:(b.drop k).length=b.length - k:=by simp
 have hc:=aMw (xs:=b) (l:=k) (by omega)
 rw [Int.toNat_natCast]
 obtain⟨v,hvd⟩:∃ v,v=b.drop k:=⟨_,rfl⟩
 rw [← hvd] at hv hvl hc ⊢
 unfold tH
 rw [if_neg (by simp),hc]
 simp only [Option.bind_some]
 by_cases h9:v.length<9
 ·rw [if_pos (by simp; omega),if_pos h9]
 rw [if_neg (by simp; omega),if_neg h9,zM hv (by omega)]
 simp only [Option.bind_some]
 have h:=aT2 hv (by omega)
 have hcr:=aL2 (v.take (5+zA v))
 obtain⟨n,hn⟩:∃ n,n=zA v:=⟨_,rfl⟩
 rw [← hn] at h hcr ⊢
 by_cases h2:1048576<n
 ·rw [if_pos (by simp; omega),if_pos (.inl h2)]; rfl
 rw [if_neg (by simp; omega),lt_,lt_,w64 (by omega) (by omega),w64 (by omega) (by omega)]
 by_cases h3:v.length - 9<n
 ·rw [if_pos (.inr h3),show decide ((v.length:Int) - 9<(n:Int))=true by simp; omega]; rfl
 rw [if_neg (by omega),show decide ((v.length:Int) - 9<(n:Int))=false by simp; omega]
 unfold sX
 rw [if_neg (by simp)]
 simp only [lt_]
 rw [w64 (n:=(n:Int)) (by omega) (by omega),w64 (n:=5+(n:Int)) (by omega) (by omega),show (5:Int)+(n:Int)=((5+n:Nat):Int) by omega,
  show oO v 0 ((5+n:Nat):Int)=some ((v.take (5+n)).drop 0) from uF (l:=0) (Nat.zero_le _) (by omega),List.drop_zero]
 simp only [Option.bind_some]
 rw [aMw (by omega)]
 simp only [Option.bind_some]
 rw [aDv (hv.take _) (by simp; omega)]
 simp only [Option.bind_some]
 rw [zM (hv.drop _) (by simp; omega)]
 simp only [Option.bind_some]
 by_cases h4:crc (v.take (5+n))=zA (v.drop (5+n))
 ·rw [if_neg (by simp; omega),if_pos h4,aZi (by omega)]
  simp only [Option.bind_some]
  rw [show oO v 5 ((5+n:Nat):Int)=some ((v.take (5+n)).drop 5) from uF (l:=5) (by omega) (by omega)]
  simp only [Option.bind_some]
  rw [aKu (by simp; omega)]
  simp only [Option.bind_some]
  rw [w64 (n:=(k:Int)+((5+n:Nat):Int)) (by omega) (by omega),w64 (by omega) (by omega)]
  congr 4
  omega
 ·rw [if_pos (by simp; omega),if_neg h4]
theorem aPl {b:List Int} {a:Int} (hB:Bs b):Bs (yC b a).2.1∧(yC b a).2.1.length≤1048576:=by
 unfold yC
 repeat' split
 all_goals first
  | exact⟨Bs.nil,by simp⟩
  | exact⟨((hB.drop _).take _).drop _,by simp; omega⟩
def pTx:Nat→List Int→Option (List (List UInt8)×List Int)
 | 0,xs=>some ([],xs)
 | n+1,xs=>match pT 1048576 xs with
  | some (t,r)=>match pTx n r with
   | some (ts,r')=>some (t::ts,r')
   | none=>none
  | none=>none
theorem aM2 {most:Int} {xs r:List Int} {t:List UInt8} (h:pT most xs=some (t,r)):t.length≤xs.length:=by
 unfold pT at h
 split at h
 ·rename_i n r' he
  obtain⟨_,p,hp,_⟩:=rG he
  split at h
  ·cases h
   rw [hp]; simp [bts]; omega
  ·cases h
 ·cases h
theorem aPr:∀ (n:Nat) {xs:List Int} {ts:List (List UInt8)} {r:List Int},Bs xs→pTx n xs=some (ts,r)→Bs r∧r.length≤xs.length∧ts.length=n∧∀ t∈ts,t.length≤xs.length
 | 0,xs,ts,r,hB,h=>by cases h; exact⟨hB,Nat.le_refl _,rfl,fun t ht=>by cases ht⟩
 | n+1,xs,ts,r,hB,h=>by
  unfold pTx at h
  split at h
  ·rename_i t r1 he
   obtain⟨h1,h2⟩:=aNo hB he
   split at h
   ·rename_i us r2 he2
    cases h
    obtain⟨g1,g2,g3,g4⟩:=aPr n h1 he2
    refine⟨g1,by omega,by simp [g3],fun q hq=>?_⟩
    rcases List.mem_cons.1 hq with rfl | hq
    ·exact aM2 he
    ·have:=g4 q hq; omega
   ·cases h
  ·cases h
theorem aHv:∀ (m k:Nat) (a:List (List Int)) (xs:List Int),Bs xs→xs.length<1099511627776→k+m=5→a.length=5 →
  ∃ y,loop (fun s:List Int×List (List Int)×Int=>fM s.1 s.2.1 s.2.2) (xs,a,(k:Int))=some y∧match pTx m xs with
   | some (ts,r)=>y=.inl (r,a.take k++ts.map stb)
   | none=>∃ s,y=.inr (.inr s)
 | 0,k,a,xs,hB,hl,hk,ha=>by
  refine⟨.inl (xs,a),bJ ?_,?_⟩
  ·show fM xs a (k:Int)=_
   unfold fM
   rw [if_neg (by simp only [decide_eq_true_eq]; omega)]
  ·show _=_
   rw [List.take_of_length_le (by omega)]; simp
 | m+1,k,a,xs,hB,hl,hk,ha=>by
  unfold pTx
  rcases (aNa 1048576 hB (by omega)).cases with ⟨t,r,h1,h2⟩ | ⟨h1,s,h2⟩
  ·rw [h1]
   obtain⟨hBr,hlr⟩:=aNo hB h1
   have htl:=aM2 h1
   obtain⟨y,hy,hm⟩:=aHv m (k+1) (a.set k (stb t)) r hBr (by omega) (by omega) (by simpa using ha)
   have hx:=List.getElem?_eq_getElem (l:=a) (i:=k) (by omega)
   refine⟨y,(dD (s':=(r,a.set k (stb t),((k+1:Nat):Int))) ?_).trans hy,?_⟩
   ·show fM xs a (k:Int)=_
    unfold fM
    rw [if_pos (by simp only [decide_eq_true_eq]; omega),h2]
    simp only [Option.bind_some,nL]
    rw [aW (by simp only [maxLen]; omega),aH rfl hx]
    simp only [Option.bind_some]
    rw [lt_,w64 (by omega) (by omega)]
    rfl
   ·have e:(a.set k (stb t)).take (k+1)=a.take k++[stb t]:=by
     rw [List.take_add_one,List.getElem?_set_self (by omega),List.take_set_of_le (by omega)]; rfl
    dsimp only
    cases hq:pTx m r with
    | none=>rw [hq] at hm; exact hm
    | some z =>
     rw [hq] at hm
     obtain⟨ts,r'⟩:=z
     simp only at hm ⊢
     rw [hm,e]; simp
  ·rw [h1]
   refine⟨.inr (.inr (s,a)),bJ ?_,_,rfl⟩
   show fM xs a (k:Int)=_
   unfold fM
   rw [if_pos (by simp only [decide_eq_true_eq]; omega),h2]
   rfl
def tB (x:S47) (k:Int):Bool:=decide (0≤x.f1)&&(decide (x.f1<k)&&(decide (-1099511627776≤x.f2)&&(decide (x.f2≤1099511627776)&&(decide ((x.f3.length:Int)≤32)&&decide (x.f0<1099511627776)))))
theorem aM7 (x:S47) (k:Int):uB x k=some (tB x k):=by
 unfold uB tB
 cases decide (0≤x.f1) <;> cases decide (x.f1<k) <;> cases decide (-1099511627776≤x.f2) <;> cases decide (x.f2≤1099511627776) <;> cases decide ((x.f3.length:Int)≤32) <;> rfl
def aA5 (k:Int):List Int→List Int→List Int→List (List UInt8)→List Nat→Option (List S47)
 | a::as_,b::bs,c::cs,d::ds,e::es =>
  if tB ⟨IntKind.u64.wrap a,b,c,d,e⟩ k=true then (aA5 k as_ bs cs ds es).map (⟨IntKind.u64.wrap a,b,c,d,e⟩::·) else none
 | _,_,_,_,_=>some []
theorem aG4 (s:Int) (A B C:List Int) (D:List (List UInt8)) (F:List Nat) (i j k l m:Int) (hB:B.length=A.length) (hC:C.length=A.length) (hD:D.length=A.length) (hF:F.length=A.length) (hA:A.length≤4096) :
  ∀ (n q:Nat) (pre:List S47),q+n=A.length→pre.length=q →
   loop (fun z:List S47×Int=>kC s (A,i) (B,j) (C,k) (D,l) (F,m) z.1 z.2) (pre,(q:Int))=some (match aA5 s (A.drop q) (B.drop q) (C.drop q) (D.drop q) (F.drop q) with
    | some es=>.inl (pre++es)
    | none=>.inr ([],0,3))
 | 0,q,pre,hq,hp=>by
  rw [List.drop_of_length_le (show A.length≤q by omega)]
  refine bJ ?_
  show kC s (A,i) (B,j) (C,k) (D,l) (F,m) pre (q:Int)=_
  unfold kC aA5
  rw [if_neg (by simp only [decide_eq_true_eq]; omega)]
  simp
 | n+1,q,pre,hq,hp=>by
  have gA:=List.getElem?_eq_getElem (l:=A) (i:=q) (by omega)
  have gB:=List.getElem?_eq_getElem (l:=B) (i:=q) (by omega)
  have gC:=List.getElem?_eq_getElem (l:=C) (i:=q) (by omega)
  have gD:=List.getElem?_eq_getElem (l:=D) (i:=q) (by omega)
  have gF:=List.getElem?_eq_getElem (l:=F) (i:=q) (by omega)
  rw [List.drop_eq_getElem_cons (show q<A.length by omega),List.drop_eq_getElem_cons (show q<B.length by omega),List.drop_eq_getElem_cons (show q<C.length by omega),List.drop_eq_getElem_cons (show q<D.length by omega),List.drop_eq_getElem_cons (show q<F.length by omega)]
  generalize A[q]=a at *
  generalize B[q]=b at *
  generalize C[q]=c at *
  generalize D[q]=d at *
  generalize F[q]=e at *
  have hs:kC s (A,i) (B,j) (C,k) (D,l) (F,m) pre (q:Int)=if tB ⟨IntKind.u64.wrap a,b,c,d,e⟩ s=true then some (.inl (pre++[⟨IntKind.u64.wrap a,b,c,d,e⟩],((q+1:Nat):Int))) else some (.inr (.inr ([],0,3))):=by
   unfold kC
   rw [if_pos (by simp only [decide_eq_true_eq]; omega),aH rfl gA]
   simp only [Option.bind_some,lt_]
   rw [aH rfl gB,aH rfl gC,aH rfl gD,aH rfl gF]
   simp only [Option.bind_some,aM7]
   rw [aW (by simp; omega),w64 (by omega) (by omega)]
   cases tB ⟨IntKind.u64.wrap a,b,c,d,e⟩ s <;> rfl
  unfold aA5
  by_cases hf:tB ⟨IntKind.u64.wrap a,b,c,d,e⟩ s=true
  ·rw [if_pos hf] at hs ⊢
   rw [dD (s':=(pre++[⟨IntKind.u64.wrap a,b,c,d,e⟩],((q+1:Nat):Int))) hs,aG4 s A B C D F i j k l m hB hC hD hF hA n (q+1) (pre++[(⟨IntKind.u64.wrap a,b,c,d,e⟩:S47)]) (by omega) (by simp [hp])]
   cases aA5 s (A.drop (q+1)) (B.drop (q+1)) (C.drop (q+1)) (D.drop (q+1)) (F.drop (q+1)) <;> simp
  ·rw [if_neg hf] at hs ⊢
   rw [bJ (t:=.inr ([],0,3)) hs]
theorem aFu (l:List Int) (b:Int) (h:l.length<1099511627776):cY l b=some (decide (b∈l)):=by
 unfold cY fE
 have key:∀ (m k:Nat),k+m=l.length→∃ y,loop (fun s:Int=>bO l b s) (k:Int)=some y∧if b∈l.drop k then ∃ j:Nat,y=.inr (j:Int) else y=.inl ():=by
  intro m
  induction m with
  | zero =>
   intro k hk
   refine⟨.inl (),bJ ?_,?_⟩
   ·unfold bO
    rw [if_neg (by simp only [decide_eq_true_eq]; omega)]
   ·rw [List.drop_of_length_le (by omega),if_neg (by simp)]
  | succ m ih =>
   intro k hk
   have hkl:k<l.length:=by omega
   have hx:=List.getElem?_eq_getElem hkl
   have hd:l.drop k=l[k]::l.drop (k+1):=List.drop_eq_getElem_cons hkl
   rw [hd]
   by_cases hb:b=l[k]
   ·refine⟨.inr (k:Int),bJ ?_,?_⟩
    ·unfold bO
     rw [if_pos (by simp only [decide_eq_true_eq]; omega),aH rfl hx]
     simp only [Option.bind_some]
     rw [if_pos (by simpa using hb)]
    ·rw [if_pos (by rw [hb]; exact List.mem_cons_self)]
     exact⟨k,rfl⟩
   ·obtain⟨y,hy,hm⟩:=ih (k+1) (by omega)
    refine⟨y,(dD (s':=((k+1:Nat):Int)) ?_).trans hy,?_⟩
    ·unfold bO
     rw [if_pos (by simp only [decide_eq_true_eq]; omega),aH rfl hx]
     simp only [Option.bind_some]
     rw [if_neg (by simpa using hb),lt_,w64 (by omega) (by omega)]
     rfl
    ·have he:(b∈l[k]::l.drop (k+1))=(b∈l.drop (k+1)):=propext ⟨fun h=>(List.mem_cons.1 h).resolve_left hb,fun h=>List.mem_cons_of_mem _ h⟩
     simpa only [he] using hm
 obtain⟨y,hy,hm⟩:=key l.length 0 (by omega)
 rw [show ((0:Nat):Int)=0 from rfl] at hy
 rw [hy,List.drop_zero] at *
 by_cases hb:b∈l
 ·rw [if_pos hb] at hm
  obtain⟨j,rfl⟩:=hm
  simp only [Option.bind_some]
  rw [show decide (0≤(j:Int))=true by simp,show decide (b∈l)=true by simpa using hb]
 ·rw [if_neg hb] at hm
  subst hm
  rw [show decide (b∈l)=false by simpa using hb]
  rfl
def evL (s:Int) (t0 t1 t2 t3 t4:List UInt8):Option (List S47) :=
 match tI (stb t0),tI (stb t1),tI (stb t2),aHs (stb t3),aKf (stb t4) with
 | some a,some b,some c,some d,some e=>if b.length=a.length∧c.length=a.length∧d.length=a.length∧e.length=a.length then aA5 s a b c d e else none
 | _,_,_,_,_=>none
def evR (b:List Int) (a s:Int):List S47×Int×Int :=
 if (yC b a).2.2.2≠0 then ([],0,(yC b a).2.2.2) else
 if (yC b a).1≠101 then ([],0,3) else
 match pTx 5 (yC b a).2.1 with
 | some ([t0,t1,t2,t3,t4],[])=>match evL s t0 t1 t2 t3 t4 with
  | some l=>(l,(yC b a).2.2.1,0)
  | none=>([],0,3)
 | _=>([],0,3)
theorem aGj (t:List UInt8):Bs (stb t):=fun b hb=>by
 unfold stb at hb
 obtain⟨c,_,rfl⟩:=List.mem_map.1 hb
 have:=c.toNat_lt
 omega
theorem vU (t:List UInt8):(stb t).length=t.length:=by simp [stb]
theorem aMh (s:Int) (y:Int×List Int×Int×Int) (t0 t1 t2 t3 t4:List UInt8) (h0:t0.length<1099511627776) (h1:t1.length<1099511627776) (h2:t2.length<1099511627776) (h3:t3.length<1099511627776) (h4:t4.length<1099511627776) :
  mJ s y [stb t0,stb t1,stb t2,stb t3,stb t4] true=some (match evL s t0 t1 t2 t3 t4 with | some l=>(l,y.2.2.1,0) | none=>([],0,3)):=by
 unfold mJ evL
 rw [if_neg (by simp)]
 rw [show at_ [stb t0,stb t1,stb t2,stb t3,stb t4] 0=some (stb t0) from rfl,show at_ [stb t0,stb t1,stb t2,stb t3,stb t4] 1=some (stb t1) from rfl,show at_ [stb t0,stb t1,stb t2,stb t3,stb t4] 2=some (stb t2) from rfl,show at_ [stb t0,stb t1,stb t2,stb t3,stb t4] 3=some (stb t3) from rfl,show at_ [stb t0,stb t1,stb t2,stb t3,stb t4] 4=some (stb t4) from rfl]
 simp only [Option.bind_some]
 rw [vV (aGj t0) (by rw [vU]; omega)]
 simp only [Option.bind_some]
 rw [vV (aGj t1) (by rw [vU]; omega)]
 simp only [Option.bind_some]
 rw [vV (aGj t2) (by rw [vU]; omega)]
 simp only [Option.bind_some]
 rw [aGu (aGj t3) (by rw [vU]; omega)]
 simp only [Option.bind_some]
 rw [aGq (aGj t4) (by rw [vU]; omega),show (tI (stb t4)).bind aCx=aKf (stb t4) from rfl]
 simp only [Option.bind_some]
 rw [aFu _ _ (by simp)]
 simp only [Option.bind_some]
 cases ha:tI (stb t0) with
 | none=>simp [eZ]
 | some A =>
 cases hb:tI (stb t1) with
 | none=>simp [eZ]
 | some B =>
 cases hc:tI (stb t2) with
 | none=>simp [eZ]
 | some C =>
 cases hd:aHs (stb t3) with
 | none=>simp [eZ]
 | some D =>
 cases he:aKf (stb t4) with
 | none=>simp [eZ]
 | some F =>
 have hAl:=aHh ha
 simp only
 rw [if_neg (by simp)]
 by_cases e1:B.length=A.length
 ·rw [if_neg (by simp [e1])]
  by_cases e2:C.length=A.length
  ·rw [if_neg (by simp [e2])]
   by_cases e3:D.length=A.length
   ·rw [if_neg (by simp [e3])]
    by_cases e4:F.length=A.length
    ·rw [if_pos ⟨e1,e2,e3,e4⟩,show ((F.length:Int) != (A.length:Int))=false by simp [e4]]
     unfold eZ
     rw [if_neg (by simp),show ((0:Int))=((0:Nat):Int) from rfl,aG4 s A B C D F _ _ _ _ _ e1 e2 e3 e4 hAl A.length 0 [] (by omega) rfl]
     simp only [List.drop_zero,List.nil_append]
     cases aA5 s A B C D F <;> rfl
    ·rw [if_neg (by simp [e4]),show ((F.length:Int) != (A.length:Int))=true by simp; omega]
     rfl
   ·rw [if_pos (by simp; omega),if_neg (by simp [e3])]; rfl
  ·rw [if_pos (by simp; omega),if_neg (by simp [e2])]; rfl
 ·rw [if_pos (by simp; omega),if_neg (by simp [e1])]; rfl
theorem aGt {b:List Int} {a s:Int} (hB:Bs b) (hl:b.length<2 ^ 40):rI b a s=some (evR b a s):=by
 unfold rI evR
 rw [aH8 hB hl]
 simp only [Option.bind_some]
 obtain⟨hp,hpl⟩:=aPl (a:=a) hB
 generalize yC b a=y at *
 obtain⟨y0,y1,y2,y3⟩:=y
 simp only at hp hpl ⊢
 by_cases h3:y3=0
 ·rw [if_neg (show ¬ ((y3 != 0)=true) by simp [h3]),if_neg (show ¬ (y3≠0) by simp [h3])]
  by_cases h0:y0=101
  ·rw [if_pos (show (y0==101)=true by simp [h0]),if_neg (show ¬ (y0≠101) by simp [h0])]
   unfold tY vQ
   obtain⟨z,hz,hm⟩:=aHv 5 0 [[],[],[],[],[]] y1 hp (by omega) rfl rfl
   rw [show ((0:Nat):Int)=0 from rfl] at hz
   simp only
   rw [hz]
   simp only [Option.bind_some]
   cases hq:pTx 5 y1 with
   | none =>
    rw [hq] at hm
    obtain⟨e,rfl⟩:=hm
    rfl
   | some w =>
    obtain⟨ts,r⟩:=w
    obtain⟨g1,g2,g3,g4⟩:=aPr 5 hp hq
    rw [hq] at hm
    simp only at hm
    subst hm
    match ts,g3,g4 with
    | [t0,t1,t2,t3,t4],_,g4 =>
     have hc:=aMh s (y0,y1,y2,y3) t0 t1 t2 t3 t4 (by have:=g4 t0 (by simp); omega) (by have:=g4 t1 (by simp); omega) (by have:=g4 t2 (by simp); omega) (by have:=g4 t3 (by simp); omega) (by have:=g4 t4 (by simp); omega)
     cases r with
     | nil=>exact hc
     | cons x r =>
      show mJ s (y0,y1,y2,y3) [stb t0,stb t1,stb t2,stb t3,stb t4] ((((x::r).length:Nat):Int)==0)=_
      rw [show ((((x::r).length:Nat):Int)==0)=false by simp; omega]
      rfl
  ·rw [if_neg (show ¬ ((y0==101)=true) by simp [h0]),if_pos (show y0≠101 by simp [h0])]
   rfl
 ·rw [if_pos (show (y3 != 0)=true by simp [h3]),if_pos (show y3≠0 by simp [h3])]
def Up (l:List (List UInt8)):Prop:=l.Pairwise fun a b=>Op.bytesLess a b=true
theorem Up.get {l:List (List UInt8)} (h:Up l) {i j:Nat} {a b:List UInt8} (ha:l[i]?=some a) (hb:l[j]?=some b) (hij:i<j):Op.bytesLess a b=true:=by
 obtain⟨hi,rfl⟩:=List.getElem?_eq_some_iff.1 ha
 obtain⟨hj,rfl⟩:=List.getElem?_eq_some_iff.1 hb
 exact List.pairwise_iff_getElem.1 h i j hi hj hij
theorem Up.nodup {l:List (List UInt8)} (h:Up l) {i j:Nat} {a:List UInt8} (ha:l[i]?=some a) (hb:l[j]?=some a):i=j:=by
 rcases Nat.lt_trichotomy i j with h1 | h1 | h1
 ·have:=h.get ha hb h1; rw [wL] at this; cases this
 ·exact h1
 ·have:=h.get hb ha h1; rw [wL] at this; cases this
theorem Up.ext:∀ {l m:List (List UInt8)},Up l→Up m→(∀ x,x∈l↔x∈m)→l=m
 | [],[],_,_,_=>rfl
 | [],b::m,_,_,h=>absurd ((h b).2 List.mem_cons_self) (by simp)
 | a::l,[],_,_,h=>absurd ((h a).1 List.mem_cons_self) (by simp)
 | a::l,b::m,hl,hm,h=>by
  have hl':=List.pairwise_cons.1 hl
  have hm':=List.pairwise_cons.1 hm
  have hab:a=b:=by
   rcases List.mem_cons.1 ((h a).1 List.mem_cons_self) with e | h1
   ·exact e
   ·rcases List.mem_cons.1 ((h b).2 List.mem_cons_self) with e | h2
    ·exact e.symm
    ·have q1:=hm'.1 a h1
     have q2:=hl'.1 b h2
     rw [aEm q1] at q2; cases q2
  subst hab
  rw [Up.ext hl'.2 hm'.2 fun x=>⟨fun hx=>by
   rcases List.mem_cons.1 ((h x).1 (List.mem_cons_of_mem _ hx)) with e | h1
   ·have:=hl'.1 x hx; rw [e,wL] at this; cases this
   ·exact h1,fun hx=>by
   rcases List.mem_cons.1 ((h x).2 (List.mem_cons_of_mem _ hx)) with e | h1
   ·have:=hm'.1 x hx; rw [e,wL] at this; cases this
   ·exact h1⟩]
theorem aYs (x y:List UInt8):decide (x≤y) = !Op.bytesLess y x:=by
 rw [bytesLess_eq]
 by_cases h:y<x
 ·rw [decide_eq_true h,decide_eq_false (fun h2=>absurd h (List.not_lt.2 h2))]; rfl
 ·rw [decide_eq_false h,decide_eq_true (List.not_lt.1 h)]; rfl
def uq (l:List (List UInt8)):List (List UInt8):=Lib.compact (l.mergeSort fun x y=>decide (x≤y))
theorem aHt (l:List (List UInt8)):(l.mergeSort fun x y=>decide (x≤y)).Pairwise fun a b=>Op.bytesLess b a=false:=by
 have h:=List.pairwise_mergeSort (le:=fun x y:List UInt8=>decide (x≤y)) (fun a b c h1 h2=>by
  simp only [decide_eq_true_eq] at h1 h2 ⊢; exact List.le_trans h1 h2) (fun a b=>by
  simp only [Bool.or_eq_true,decide_eq_true_eq]; exact List.le_total a b) l
 exact h.imp fun {a b} hab=>by
  rw [aYs] at hab
  simpa using hab
theorem aBk (s:List (List UInt8)) (hs:s.Pairwise fun a b=>Op.bytesLess b a=false):∀ m,m≤s.length→Up (Lib.compactUpTo s.toArray m)∧∀ x,x∈Lib.compactUpTo s.toArray m↔x∈s.take m
 | 0,_=>by
  have e:Lib.compactUpTo s.toArray 0=[]:=rfl
  rw [e]; exact⟨List.Pairwise.nil,fun x=>by simp⟩
 | m+1,hm=>by
  obtain⟨h1,h2⟩:=aBk s hs m (by omega)
  have hg:s[m]?=some (s[m]'(by omega)):=List.getElem?_eq_getElem (by omega)
  have hd:s.toArray[m]! = s[m]'(by omega):=by rw [getElem!_pos _ m (by simp; omega)]; rfl
  have ht:s.take (m+1)=s.take m++[s[m]'(by omega)]:=by rw [List.take_add_one,hg]; rfl
  rw [Lib.compactUpTo_succ,ht,hd]
  by_cases hk:Lib.keeps s.toArray m=true
  ·rw [if_pos hk]
   refine⟨List.pairwise_append.2 ⟨h1,List.pairwise_singleton _ _,fun a ha b hb=>?_⟩,fun x=>by rw [List.mem_append,List.mem_append,h2 x]⟩
   rw [List.mem_singleton] at hb
   subst hb
   obtain⟨i,hi,rfl⟩:=List.mem_iff_getElem.1 ((h2 a).1 ha)
   have hil:i<m:=by simp at hi; omega
   have hne:s.toArray[m]! ≠ s.toArray[m - 1]! := by
    unfold Lib.keeps at hk
    simp only [decide_eq_true_eq] at hk
    rcases hk with h0 | h0
    ·omega
    ·exact h0
   rw [hd,getElem!_pos _ (m - 1) (by simp; omega)] at hne
   have hne':s[m]'(by omega)≠s[m - 1]'(by omega):=hne
   have q1:Op.bytesLess (s[m]'(by omega)) (s[m - 1]'(by omega))=false:=List.pairwise_iff_getElem.1 hs (m - 1) m (by omega) (by omega) (by omega)
   have q2:Op.bytesLess (s[m - 1]'(by omega)) (s[m]'(by omega))=true:=by
    cases hq:Op.bytesLess (s[m - 1]'(by omega)) (s[m]'(by omega)) with
    | true=>rfl
    | false=>exact absurd (aH3 q1 hq) hne'
   simp only [List.getElem_take]
   rcases Nat.lt_or_ge i (m - 1) with h | h
   ·have q3:Op.bytesLess (s[m - 1]'(by omega)) (s[i]'(by omega))=false:=List.pairwise_iff_getElem.1 hs i (m - 1) (by omega) (by omega) h
    cases hq:Op.bytesLess (s[i]'(by omega)) (s[m - 1]'(by omega)) with
    | true=>exact aCn hq q2
    | false=>rw [aH3 hq q3]; exact q2
   ·have:i=m - 1:=by omega
    subst this; exact q2
  ·rw [if_neg hk,List.append_nil]
   refine⟨h1,fun x=>?_⟩
   have h0:0<m:=by
    rcases Nat.eq_zero_or_pos m with e | e
    ·subst e; exact absurd (Lib.keeps_lt_one s.toArray 0 (by omega)) hk
    ·exact e
   have he:s.toArray[m]! = s.toArray[m - 1]! := by
    rcases Decidable.em (s.toArray[m]! = s.toArray[m - 1]!) with e | e
    ·exact e
    ·exact absurd (Lib.keeps_pos e) hk
   rw [hd,getElem!_pos _ (m - 1) (by simp; omega)] at he
   have he':s[m]'(by omega)=s[m - 1]'(by omega):=he
   rw [h2 x,List.mem_append,List.mem_singleton,he']
   exact⟨.inl,fun h=>h.elim id fun e=>by
    rw [e]
    exact List.mem_iff_getElem.2 ⟨m - 1,by simp; omega,by simp⟩⟩
theorem aU0 (l:List (List UInt8)):Up (uq l):=by
 have:=(aBk _ (aHt l) _ (Nat.le_refl _)).1
 exact this
theorem zZ (l:List (List UInt8)) (x:List UInt8):x∈uq l↔x∈l:=by
 have:=(aBk _ (aHt l) _ (Nat.le_refl _)).2 x
 rw [List.take_length,List.mem_mergeSort] at this
 exact this
theorem aI3 (l:List (List UInt8)):(uq l).length≤l.length:=by
 have h:=aDn (l.mergeSort fun x y=>decide (x≤y))
 rw [List.length_mergeSort] at h
 exact h
def ix:List (List UInt8)→List UInt8→Nat
 | [],_=>0
 | a::as_,s=>if a=s then 0 else ix as_ s+1
theorem aF7:∀ {l:List (List UInt8)} {s:List UInt8},s∈l→l[ix l s]?=some s
 | a::l,s,h=>by
  unfold ix
  by_cases e:a=s
  ·rw [if_pos e,e]; rfl
  ·rw [if_neg e,List.getElem?_cons_succ]
   exact aF7 ((List.mem_cons.1 h).resolve_left fun q=>e q.symm)
theorem aSd (x y:List UInt8):oC x y=some (Op.bytesLess x y):=by
 unfold oC mX
 simp
theorem aXp {U:List (List UInt8)} (hU:Up U) (hlen:U.length<1099511627776) {s:List UInt8} {k:Nat} (hk:U[k]?=some s):dN U s=some ((k:Int),true):=by
 have hkl:=(List.getElem?_eq_some_iff.1 hk).1
 unfold dN
 obtain⟨y,hy,hm⟩:=gN (b:=fun q:Int×Int=>bL U s q.1 q.2) (s:=(0,(U.length:Int)))
  (fun q=>∃ i j:Nat,q=((i:Int),(j:Int))∧i≤k∧k≤j∧j≤U.length) (fun q=>(q.2 - q.1).toNat) (fun t=>t=(k:Int)) ⟨0,U.length,rfl,Nat.zero_le _,by omega,Nat.le_refl _⟩ (by
  rintro q ⟨i,j,rfl,h1,h2,h3⟩
  show (∃ s',bL U s (i:Int) (j:Int)=some (.inl s')∧_)∨∃ t,bL U s (i:Int) (j:Int)=some (.inr t)∧_
  unfold bL
  by_cases hij:i<j
  ·have hx:=List.getElem?_eq_getElem (l:=U) (i:=(i+j) / 2) (by omega)
   have e1:bS .u64 (((i+j:Nat)):Int) 1=(((i+j) / 2:Nat):Int):=nA (k:=.u64) (i+j) 1 (by decide)
   rw [if_pos (by simp only [decide_eq_true_eq]; omega)]
   simp only [lt_]
   rw [w64 (n:=(i:Int)+(j:Int)) (by omega) (by omega),aA2 (by omega) (by omega),show (i:Int)+(j:Int)=((i+j:Nat):Int) by omega,e1,w64 (by omega) (by omega),aH rfl hx]
   simp only [Option.bind_some]
   rw [aSd]
   simp only [Option.bind_some]
   unfold cK
   by_cases hlt:(i+j) / 2<k
   ·have hb:=hU.get hx hk hlt
    rw [if_pos hb,w64 (by omega) (by omega)]
    exact .inl ⟨_,rfl,⟨(i+j) / 2+1,j,rfl,by omega,h2,h3⟩,by simp only; omega⟩
   ·have hb:Op.bytesLess (U[(i+j) / 2]'(by omega)) s=false:=by
     rcases Nat.lt_or_ge k ((i+j) / 2) with h | h
     ·exact aEm (hU.get hk hx h)
     ·have e:(i+j) / 2=k:=by omega
      have e2:U[(i+j) / 2]'(by omega)=s:=by
       have:U[(i+j) / 2]?=some s:=by rw [e]; exact hk
       rw [hx] at this
       exact Option.some.inj this
      rw [e2,wL]
    rw [if_neg (by rw [hb]; simp)]
    exact .inl ⟨_,rfl,⟨i,(i+j) / 2,rfl,h1,by omega,by omega⟩,by simp only; omega⟩
  ·rw [if_neg (by simp only [decide_eq_true_eq]; omega)]
   exact .inr ⟨_,rfl,by rw [show i=k by omega]⟩)
 rw [hy,hm]
 simp only [Option.bind_some]
 unfold dS eC
 rw [if_pos (by simp only [decide_eq_true_eq]; omega),aH rfl hk]
 simp
def pF (U:List (List UInt8)):List Int:=(U.map fun s=>uv s.length++stb s).flatten
theorem aMl (U:List (List UInt8)) (s:List UInt8):pF (U++[s])=pF U++(uv s.length++stb s):=by simp [pF]
theorem aAu:∀ (U:List (List UInt8)),(∀ s∈U,s.length≤32)→(pF U).length≤42 * U.length
 | [],_=>by simp [pF]
 | s::U,h=>by
  have h1:=aAu U fun x hx=>h x (List.mem_cons_of_mem _ hx)
  have h2:=h s List.mem_cons_self
  have h3:=dG (n:=s.length) (by omega)
  have e:pF (s::U)=(uv s.length++stb s)++pF U:=rfl
  rw [e]
  simp only [List.length_append,List.length_cons,vU]
  omega
def qK (U l:List (List UInt8)):List Int:=l.map fun s=>((ix U s:Nat):Int)
def rK (l:List (List UInt8)):List Int:=uv (uq l).length++pF (uq l)++fL (qK (uq l) l)
theorem aMi (U l:List (List UInt8)) (s:List UInt8):qK U (l++[s])=qK U l++[((ix U s:Nat):Int)]:=by simp [qK]
theorem wA (U l:List (List UInt8)):(qK U l).length=l.length:=by simp [qK]
theorem aVw {U:List (List UInt8)} {s:List UInt8} (h:s∈U):ix U s<U.length:=(List.getElem?_eq_some_iff.1 (aF7 h)).1
theorem aAi {U l:List (List UInt8)} (hs:∀ s∈l,s∈U) (hU:U.length≤4096):I64 (qK U l):=fun x hx=>by
 unfold qK at hx
 obtain⟨s,hm,rfl⟩:=List.mem_map.1 hx
 have:=aVw (hs s hm)
 unfold i64; omega
section
variable {l:List (List UInt8)} (hl:l.length≤4096) (h32:∀ s∈l,s.length≤32)
theorem aO5 {m:List Int} (h:m.length≤4096) (hi:I64 m):(fL m).length≤1048576:=by
 obtain⟨w,hw,e⟩:=aEy m
 rw [e]; exact aWc hw h hi
include hl h32
theorem aP3 {U:List (List UInt8)} (hU:Up U) (hs:∀ s∈l,s∈U) (hUl:U.length≤4096) {p:List Int} (hp:p.length≤1000000):oD l U p=some (p++fL (qK U l)):=by
 have h:=iO (b:=fun s:List Int×Int=>iJ l U s.1 s.2) (fun k=>(qK U (l.take k),(k:Int))) (t:=qK U l) l.length (fun k hk=>by
  have hx:=List.getElem?_eq_getElem hk
  have hm:=hs _ (List.getElem_mem hk)
  show iJ l U (qK U (l.take k)) (k:Int)=_
  unfold iJ
  rw [if_pos (by simp only [decide_eq_true_eq]; omega),aH rfl hx]
  simp only [Option.bind_some]
  rw [aXp hU (by omega) (aF7 hm)]
  simp only [Option.bind_some]
  rw [aW (by rw [wA]; simp; omega),lt_,w64 (by omega) (by omega),List.take_add_one,hx]
  simp only [Option.toList_some]
  rw [aMi]
  rfl) (by
  show iJ l U (qK U (l.take l.length)) (l.length:Int)=_
  unfold iJ
  rw [if_neg (by simp),List.take_length])
 unfold oD
 rw [show (([],0):List Int×Int)=(qK U (l.take 0),((0:Nat):Int)) from rfl,h]
 simp only [Option.bind_some]
 unfold oW rD
 have hi:=aAi hs hUl
 rw [zS (by rw [wA]; omega) hi]
 simp only [Option.bind_some]
 have:=aO5 (m:=qK U l) (by rw [wA]; omega) hi
 rw [aW (by omega)]
theorem aN2:sS l=some (rK l):=by
 have hq:=aI3 l
 have h32':∀ s∈uq l,s.length≤32:=fun s hs=>h32 s ((zZ l s).1 hs)
 unfold sS pG slices_Compact_string
 rw [aW (by omega)]
 simp only [Option.bind_some]
 rw [show Lib.compact (l.mergeSort fun x y=>decide (x≤y))=uq l from rfl,lt_,aA2 (by omega) (by omega),zH _ [] (by omega) (by have:=dG (n:=(uq l).length) (by omega); simp; omega)]
 simp only [Option.bind_some,List.nil_append]
 have hu:=dG (n:=(uq l).length) (by omega)
 obtain⟨p0,hp0⟩:∃ p0,p0=uv (uq l).length:=⟨_,rfl⟩
 rw [← hp0] at hu ⊢
 have h:=iO (b:=fun s:List Int×Int=>iM (uq l) s.1 s.2) (fun k=>(p0++pF ((uq l).take k),(k:Int))) (t:=p0++pF (uq l)) (uq l).length (fun k hk=>by
  have hx:=List.getElem?_eq_getElem hk
  have hs:=h32' _ (List.getElem_mem hk)
  have hf:=aAu ((uq l).take k) fun s hs=>h32' s (List.mem_of_mem_take hs)
  have hf':(pF ((uq l).take k)).length≤42 * k:=by simp at hf; omega
  show iM (uq l) (p0++pF ((uq l).take k)) (k:Int)=_
  unfold iM
  rw [if_pos (by simp only [decide_eq_true_eq]; omega),aH rfl hx]
  simp only [Option.bind_some]
  rw [aJ8 _ _ (by omega) (by simp; omega)]
  simp only [Option.bind_some]
  rw [lt_,w64 (by omega) (by omega),List.take_add_one,hx]
  simp only [Option.toList_some]
  rw [aMl]
  simp) (by
  show iM (uq l) (p0++pF ((uq l).take (uq l).length)) ((uq l).length:Int)=_
  unfold iM
  rw [if_neg (by simp),List.take_length])
 have e0:p0++pF ((uq l).take 0)=p0:=by simp [pF]
 rw [show ((p0,0):List Int×Int)=(p0++pF ((uq l).take 0),((0:Nat):Int)) by rw [e0]; rfl,h]
 simp only [Option.bind_some]
 unfold oS
 have hfl:=aAu (uq l) h32'
 rw [aP3 hl h32 (aU0 l) (fun s hs=>(zZ l s).2 hs) (by omega) (by simp; omega)]
 unfold rK
 rw [hp0]
end
section
variable {l:List (List UInt8)} (hl:l.length≤4096)
include hl
end
theorem aSx {s:List UInt8} (h:s.length≤32) (r:List Int):pT 32 (uv s.length++(stb s++r))=some (s,r):=by
 unfold pT
 rw [show IntKind.u64.wrap 32=32 from aA2 (by omega) (by omega),aHg (by omega) _ (by omega)]
 simp only
 rw [if_pos (by simp only [List.length_append,vU]; omega),Int.toNat_natCast,List.take_left' (vU s),List.drop_left' (vU s),aSn]
theorem aFd:∀ (D acc:List (List UInt8)) (r:List Int),Up (acc++D)→(∀ s∈D,s.length≤32)→aA7 acc D.length (pF D++r)=some (acc++D,r)
 | [],acc,r,_,_=>by simp [aA7,pF]
 | s::D,acc,r,hU,h32=>by
  have e:pF (s::D)++r=uv s.length++(stb s++(pF D++r)):=by
   show (uv s.length++stb s)++pF D++r=_
   simp
  rw [e]
  show (match pT 32 (uv s.length++(stb s++(pF D++r))) with
   | some (t,q)=>if aFr acc t=true then aA7 (acc++[t]) D.length q else none
   | none=>none)=_
  rw [aSx (h32 s List.mem_cons_self)]
  have hr:aFr acc s=true:=by
   unfold aFr
   cases hx:acc[acc.length - 1]? with
   | none=>rfl
   | some y=>exact hU.get (i:=acc.length - 1) (j:=acc.length) (by rw [List.getElem?_append_left (by have:=(List.getElem?_eq_some_iff.1 hx).1; omega),hx]) (by rw [List.getElem?_append_right (Nat.le_refl _),Nat.sub_self]; rfl) (by have:=(List.getElem?_eq_some_iff.1 hx).1; omega)
  simp only [hr,if_true]
  rw [aFd D (acc++[s]) r (by simpa using hU) fun x hx=>h32 x (List.mem_cons_of_mem _ hx)]
  simp
theorem aLr {l:List (List UInt8)} (hl:l.length≤4096) (h32:∀ s∈l,s.length≤32):aHs (rK l)=some l:=by
 have hq:=aI3 l
 have hU:=aU0 l
 have h32':∀ s∈uq l,s.length≤32:=fun s hs=>h32 s ((zZ l s).1 hs)
 have hs:∀ s∈l,s∈uq l:=fun s hs=>(zZ l s).2 hs
 have hi:=aAi hs (by omega)
 have hr:=xX (l:=qK (uq l) l) (by rw [wA]; omega) hi
 have hp:aDw (fL (qK (uq l) l))=some (qK (uq l) l,[]):=by
  unfold tI at hr
  split at hr
  ·rename_i m he; cases hr; exact he
  ·cases hr
 unfold aHs aEv rK
 rw [List.append_assoc,aHg (by omega) _ (by omega)]
 simp only [Int.toNat_natCast]
 rw [aFd (uq l) [] _ (by simpa using hU) h32']
 simp only [List.nil_append,hp]
 rw [if_pos]
 ·simp only [Option.some.injEq]
  unfold tx qK
  rw [List.map_map]
  have key:∀ (m:List (List UInt8)),(∀ s∈m,s∈uq l)→m.map ((fun i:Int=>(uq l).getD i.toNat []) ∘ fun s=>((ix (uq l) s:Nat):Int))=m:=by
   intro m hm
   induction m with
   | nil=>rfl
   | cons s m ih =>
    rw [List.map_cons,ih fun x hx=>hm x (List.mem_cons_of_mem _ hx)]
    congr 1
    show (uq l).getD ((ix (uq l) s:Nat):Int).toNat []=s
    rw [Int.toNat_natCast,List.getD_eq_getElem?_getD,aF7 (hm s List.mem_cons_self)]
    rfl
  exact key l hs
 ·refine⟨?_,?_⟩
  ·unfold okI
   rw [List.all_eq_true]
   intro x hx
   unfold qK at hx
   obtain⟨s,hm,rfl⟩:=List.mem_map.1 hx
   have:=aVw (hs s hm)
   simp only [decide_eq_true_eq]; omega
  ·unfold usd
   intro hf
   obtain⟨j,hj,e⟩:=List.mem_map.1 hf
   have hjl:j<(uq l).length:=List.mem_range.1 hj
   refine absurd ?_ (of_decide_eq_false e)
   unfold qK
   have hm:(uq l)[j]'hjl∈l:=(zZ l _).1 (List.getElem_mem hjl)
   have hg:=aF7 (hs _ hm)
   have:=hU.nodup hg (List.getElem?_eq_getElem hjl)
   exact List.mem_map.2 ⟨_,hm,by rw [this]⟩
theorem zI {m:List Int} (hi:I64 m):Bs (fL m):=by
 obtain⟨w,hw,e⟩:=aEy m
 rw [e]; exact aX8 hw hi
theorem aLc:∀ U:List (List UInt8),Bs (pF U)
 | []=>Bs.nil
 | s::U=>((Bs.uv _).app (Bs.stb s)).app (aLc U)
theorem aN6 {l:List (List UInt8)} (hl:l.length≤4096):Bs (rK l) :=
 ((Bs.uv _).app (aLc _)).app (zI (aAi (fun s hs=>(zZ l s).2 hs) (by have:=aI3 l; omega)))
end Go.Proofs.YtnefioccdkmegaaGreatDoor.P
