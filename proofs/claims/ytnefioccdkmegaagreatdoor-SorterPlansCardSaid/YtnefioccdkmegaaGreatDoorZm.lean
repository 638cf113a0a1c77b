/- Texts of the claim, joined: what it uses of Sg, Sh, Tb, Tc, Tg, Ua, Ub, Uc, Ud, Ue, Uf, Ug. -/
import Derived.Test.YtnefioccdkmegaaGreatDoorZl
import Derived.Lib.ParseIntB
namespace Go.Proofs.YtnefioccdkmegaaGreatDoor.P
open Go Go.RowKit Go.Proofs.YtnefioccdkmegaaGreatDoor.E Go.Proofs.YtnefioccdkmegaaGreatDoor.M
set_option linter.unusedVariables false
set_option linter.unusedSectionVars false
def wU (s:Nat):List Int:=[((s % 256:Nat):Int),((s / 256 % 256:Nat):Int),((s / 65536 % 256:Nat):Int),((s / 16777216 % 256:Nat):Int)]
theorem aJn (s:Nat):Bs (wU s):=fun x hx=>by simp [wU] at hx; omega
theorem xU (s:Nat):(wU s).length=4:=rfl
theorem aG8 {s:Nat} (h:s<4294967296) (r:List Int):yV (wU s++r)=s:=by
 show yV (((s % 256:Nat):Int)::((s / 256 % 256:Nat):Int)::((s / 65536 % 256:Nat):Int)::((s / 16777216 % 256:Nat):Int)::r)=s
 rw [aIe]; omega
def vX (kind:Int) (b:List Int):List Int:=wU b.length++[kind]++b
def uU (kind:Int) (b:List Int):List Int:=vX kind b++wU (crc (vX kind b))
theorem aDa (kind:Int) (b:List Int):(vX kind b).length=5+b.length:=by simp [vX,xU]; omega
theorem aHu (kind:Int) (b:List Int):(uU kind b).length=9+b.length:=by simp [uU,aDa,xU]; omega
theorem aJr {kind:Int} {b:List Int} (hk:0≤kind∧kind<256) (hB:Bs b):Bs (vX kind b):=((aJn _).app (Bs.mk hk Bs.nil)).app hB
theorem aRn {kind:Int} {b:List Int} (hk:0≤kind∧kind<256) (hB:Bs b):Bs (uU kind b):=(aJr hk hB).app (aJn _)
theorem aCd {s:Nat} (hs:s<4294967296):vS (s:Int)=some (wU s):=by
 unfold vS wU
 simp only [lt_]
 rw [show (8:Int)=((8:Nat):Int) from rfl,show (16:Int)=((16:Nat):Int) from rfl,show (24:Int)=((24:Nat):Int) from rfl,
  nS _ _ (by decide),nS _ _ (by decide),nS _ _ (by decide),zI,zI,zI,zI]
theorem aJu {p b:List Int} {kind:Int} (hk:0≤kind∧kind<256) (hB:Bs b) (hb:b.length<4294967000) (hp:p.length<1099511627776):yZ p kind b=some (p++uU kind b):=by
 unfold yZ
 rw [lt_,tZ,Nat.mod_eq_of_lt (by omega),aCd (by omega)]
 simp only [Option.bind_some]
 rw [show wU b.length++[kind]++b=vX kind b from rfl]
 have hl:=aDa kind b
 have h4:=xU (crc (vX kind b))
 rw [bF (by simp [xU]),bF (by simp [xU]; omega),bF (by omega),aDl (aJr hk hB) (by omega)]
 simp only [Option.bind_some]
 rw [aCd (aL8 _)]
 simp only [Option.bind_some]
 rw [bF (by simp only [List.length_append]; omega),List.append_assoc]
 rfl
theorem aLl {p b q:List Int} {kind:Int} (hb:b.length≤1048576):xP (p++uU kind b++q) (p.length:Int)=(kind,b,((p.length+(uU kind b).length:Nat):Int),0):=by
 have hv:(p++uU kind b++q).drop p.length=uU kind b++q:=by rw [List.append_assoc,List.drop_left]
 have hl:=aDa kind b
 have hpl:=aHu kind b
 have hn:yV (uU kind b++q)=b.length:=by
  show yV (wU b.length++[kind]++b++wU (crc (vX kind b))++q)=_
  rw [List.append_assoc,List.append_assoc,List.append_assoc,aG8 (by omega)]
 have ht:(uU kind b++q).take (5+b.length)=vX kind b:=by
  show (vX kind b++wU (crc (vX kind b))++q).take (5+b.length)=_
  rw [List.append_assoc,List.take_left' hl]
 have hd:(uU kind b++q).drop (5+b.length)=wU (crc (vX kind b))++q:=by
  show (vX kind b++wU (crc (vX kind b))++q).drop (5+b.length)=_
  rw [List.append_assoc,List.drop_left' hl]
 unfold xP
 rw [if_neg (by simp only [List.length_append]; omega),Int.toNat_natCast,hv,hn,ht,hd,aG8 (aL8 _),if_neg (by simp only [List.length_append]; omega),if_neg (by simp only [List.length_append]; omega),if_pos rfl]
 refine Prod.ext ?_ (Prod.ext ?_ (Prod.ext ?_ rfl))
 ·rfl
 ·show (vX kind b).drop 5=b
  rfl
 ·show (p.length:Int)+(b.length:Int)+9=((p.length+(uU kind b).length:Nat):Int)
  rw [hpl]; omega
def nX (l:List S47):List Int:=l.map fun e=>IntKind.i64.wrap e.f0
def jJ (l:List S47):List Int:=l.map fun e=>e.f1
def jL (l:List S47):List Int:=l.map fun e=>e.f2
def nH (l:List S47):List (List UInt8):=l.map fun e=>e.f3
def mT (l:List S47):List Nat:=l.map fun e=>e.f4
def qO (c:List Int):List Int:=uv c.length++c
def aA4 (l:List S47):List Int:=qO (fH (nX l))++(qO (fH (jJ l))++(qO (fH (jL l))++(qO (rH (nH l))++qO (fH (rl (mT l))))))
def aD7 (l:List S47):Prop:=∀ e∈l,(0≤e.f0∧e.f0<18446744073709551616)∧i64 e.f1∧i64 e.f2∧e.f3.length≤32∧e.f4<18446744073709551616
section
variable {l:List S47} (hl:l.length≤4096) (hL:aD7 l)
theorem aBy:I64 (nX l):=fun x hx=>by
 obtain⟨e,_,rfl⟩:=List.mem_map.1 hx
 exact zQ _
include hL
theorem aAh:I64 (jJ l):=fun x hx=>by
 obtain⟨e,he,rfl⟩:=List.mem_map.1 hx
 exact (hL e he).2.1
theorem aAb:I64 (jL l):=fun x hx=>by
 obtain⟨e,he,rfl⟩:=List.mem_map.1 hx
 exact (hL e he).2.2.1
theorem aI5:∀ s∈nH l,s.length≤32:=fun s hs=>by
 obtain⟨e,he,rfl⟩:=List.mem_map.1 hs
 exact (hL e he).2.2.2.1
theorem aR5:∀ x∈mT l,x<18446744073709551616:=fun x hx=>by
 obtain⟨e,he,rfl⟩:=List.mem_map.1 hx
 exact (hL e he).2.2.2.2
omit hL
theorem uB {m:List Int} (hm:m.length≤4096) (hi:I64 m):(fH m).length≤11+10 * m.length:=by
 have h1:=aRs m (w:=0) (by decide)
 have h2:=aIr hi
 have h3:=dG (n:=m.length) (by omega)
 have e:(asL 0 m).length=1+(uv m.length).length+(b0 m).length:=by
  show ((0:Int)::(uv m.length++b0 m)).length=_
  simp; omega
 omega
theorem aJh {m:List (List UInt8)} (hm:m.length≤4096) (h32:∀ s∈m,s.length≤32):(rH m).length≤21+52 * m.length:=by
 have hq:=aJl m
 have h1:=aAn (uq m) fun s hs=>h32 s ((zR m s).1 hs)
 have h2:=dG (n:=(uq m).length) (by omega)
 have h3:=uB (m:=qK (uq m) m) (by rw [vT]; omega) (aAg (fun s hs=>(zR m s).2 hs) (by omega))
 rw [vT] at h3
 unfold rH
 simp only [List.length_append]
 omega
theorem xK {c:List Int} (h:c.length<18446744073709551616):(qO c).length≤10+c.length:=by
 have:=dG h
 unfold qO; simp; omega
theorem uA {c:List Int} (h:Bs c):Bs (qO c):=(Bs.uv _).app h
include hl hL
theorem aFy:(fH (nX l)).length≤11+10 * l.length∧(fH (jJ l)).length≤11+10 * l.length∧(fH (jL l)).length≤11+10 * l.length∧(rH (nH l)).length≤21+52 * l.length∧(fH (rl (mT l))).length≤11+10 * l.length:=by
 have e0:(nX l).length=l.length:=by simp [nX]
 have e1:(jJ l).length=l.length:=by simp [jJ]
 have e2:(jL l).length=l.length:=by simp [jL]
 have e3:(nH l).length=l.length:=by simp [nH]
 have e4:(rl (mT l)).length=l.length:=by rw [aAp]; simp [mT]
 have h0:=uB (m:=nX l) (by omega) aBy
 have h1:=uB (m:=jJ l) (by omega) (aAh hL)
 have h2:=uB (m:=jL l) (by omega) (aAb hL)
 have h3:=aJh (m:=nH l) (by omega) (aI5 hL)
 have h4:=uB (m:=rl (mT l)) (by omega) (aI9 _)
 rw [e0] at h0; rw [e1] at h1; rw [e2] at h2; rw [e3] at h3; rw [e4] at h4
 exact⟨h0,h1,h2,h3,h4⟩
theorem aEg:Bs (fH (nX l))∧Bs (fH (jJ l))∧Bs (fH (jL l))∧Bs (rH (nH l))∧Bs (fH (rl (mT l))) :=
 ⟨zZ aBy,zZ (aAh hL),zZ (aAb hL),aOi (by simp [nH]; omega),zZ (aI9 _)⟩
theorem aC6:(aA4 l).length≤115+92 * l.length:=by
 obtain⟨h0,h1,h2,h3,h4⟩:=aFy hl hL
 have q0:=xK (c:=fH (nX l)) (by omega)
 have q1:=xK (c:=fH (jJ l)) (by omega)
 have q2:=xK (c:=fH (jL l)) (by omega)
 have q3:=xK (c:=rH (nH l)) (by omega)
 have q4:=xK (c:=fH (rl (mT l))) (by omega)
 unfold aA4
 simp only [List.length_append]
 omega
theorem aQ5:Bs (aA4 l):=by
 obtain⟨h0,h1,h2,h3,h4⟩:=aEg hl hL
 exact (uA h0).app ((uA h1).app ((uA h2).app ((uA h3).app (uA h4))))
theorem aEx {c:List Int} (hB:Bs c) (h:c.length≤1048576) (r:List Int):pT 1048576 (qO c++r)=some (bts c,r):=by
 unfold pT qO
 rw [show IntKind.u64.wrap 1048576=1048576 from aBd (by omega) (by omega),List.append_assoc,aHd (by omega) _ (by omega)]
 simp only
 rw [if_pos (by simp only [List.length_append]; omega),Int.toNat_natCast,List.take_left' rfl,List.drop_left' rfl]
theorem aQn:pTx 5 (aA4 l)=some ([bts (fH (nX l)),bts (fH (jJ l)),bts (fH (jL l)),bts (rH (nH l)),bts (fH (rl (mT l)))],[]):=by
 obtain⟨h0,h1,h2,h3,h4⟩:=aFy hl hL
 obtain⟨b0,b1,b2,b3,b4⟩:=aEg hl hL
 unfold aA4
 have e4:=aEx hl hL b4 (by omega) []
 rw [List.append_nil] at e4
 simp only [pTx,aEx hl hL b0 (by omega),aEx hl hL b1 (by omega),aEx hl hL b2 (by omega),aEx hl hL b3 (by omega),e4]
end
def mB (e:S47):S47:=⟨e.f0,e.f1,e.f2,e.f3,mJ e.f4⟩
theorem aHv (s:Int):∀ (l:List S47),(∀ e∈l,0≤e.f0∧e.f0<18446744073709551616) →
  aAz s (nX l) (jJ l) (jL l) (nH l) ((mT l).map mJ)=if l.all (fun e=>jM e s)=true then some (l.map mB) else none
 | [],_=>rfl
 | e::l,h=>by
  have ih:=aHv s l fun x hx=>h x (List.mem_cons_of_mem _ hx)
  have h0:=h e List.mem_cons_self
  have hw:IntKind.u64.wrap (IntKind.i64.wrap e.f0)=e.f0:=by
   rw [IntKind.wrap_u64,IntWalk.i64_left]
   unfold wrap64
   omega
  show aAz s (IntKind.i64.wrap e.f0::nX l) (e.f1::jJ l) (e.f2::jL l) (e.f3::nH l) (mJ e.f4::(mT l).map mJ)=_
  unfold aAz
  rw [hw,ih,show (⟨e.f0,e.f1,e.f2,e.f3,mJ e.f4⟩:S47)=mB e from rfl,show jM (mB e) s=jM e s from rfl,List.all_cons]
  cases jM e s with
  | false=>rfl
  | true =>
   rw [if_pos rfl,Bool.true_and]
   cases l.all fun e=>jM e s <;> rfl
theorem aQw {l:List S47} (hl:l.length≤4096) (hL:aD7 l) (s:Int) :
  evL s (bts (fH (nX l))) (bts (fH (jJ l))) (bts (fH (jL l))) (bts (rH (nH l))) (bts (fH (rl (mT l))))=if l.all (fun e=>jM e s)=true then some (l.map mB) else none:=by
 obtain⟨b0,b1,b2,b3,b4⟩:=aEg hl hL
 unfold evL
 rw [aAj b0,aAj b1,aAj b2,aAj b3,aAj b4,yD (by simp [nX]; omega) aBy,yD (by simp [jJ]; omega) (aAh hL),yD (by simp [jL]; omega) (aAb hL),
  aLq (by simp [nH]; omega) (aI5 hL),show aJ8 (fH (rl (mT l)))=some ((mT l).map mJ) by
   unfold aJ8
   rw [yD (by rw [aAp]; simp [mT]; omega) (aI9 _)]
   exact aMa (aR5 hL)]
 simp only
 rw [if_pos (by simp [nX,jJ,jL,nH,mT]),aHv s l fun e he=>(hL e he).1]
theorem aQz {l:List S47} (hl:l.length≤4096) (hL:aD7 l) (s:Int) (p q:List Int) :
  evR (p++uU 101 (aA4 l)++q) (p.length:Int) s=if l.all (fun e=>jM e s)=true then (l.map mB,((p.length+(uU 101 (aA4 l)).length:Nat):Int),0) else ([],0,3):=by
 have hb:=aC6 hl hL
 unfold evR
 rw [aLl (by omega)]
 simp only
 rw [if_neg (by simp),if_neg (by simp),aQn hl hL]
 simp only
 rw [aQw hl hL s]
 cases l.all fun e=>jM e s <;> rfl
theorem aJ7 {l:List S47} (hl:l.length≤4096):∀ (m k:Nat),k+m=l.length →
  loop (fun s:List Int×List Int×List Int×List (List UInt8)×List Nat×Int=>lL l s.1 s.2.1 s.2.2.1 s.2.2.2.1 s.2.2.2.2.1 s.2.2.2.2.2) (nX (l.take k),jJ (l.take k),jL (l.take k),nH (l.take k),mT (l.take k),(k:Int))=some (nX l,jJ l,jL l,nH l,mT l)
 | 0,k,hk=>by
  rw [List.take_of_length_le (by omega)]
  refine bJ ?_
  show lL l (nX l) (jJ l) (jL l) (nH l) (mT l) (k:Int)=_
  unfold lL
  rw [if_neg (by simp only [decide_eq_true_eq]; omega)]
 | m+1,k,hk=>by
  have hx:=List.getElem?_eq_getElem (l:=l) (i:=k) (by omega)
  have ht:l.take (k+1)=l.take k++[l[k]'(by omega)]:=by rw [List.take_add_one,hx]; rfl
  have ih:=aJ7 hl m (k+1) (by omega)
  rw [ht] at ih
  have e0:(nX (l.take k)).length=k:=by simp [nX]; omega
  have e1:(jJ (l.take k)).length=k:=by simp [jJ]; omega
  have e2:(jL (l.take k)).length=k:=by simp [jL]; omega
  have e3:(nH (l.take k)).length=k:=by simp [nH]; omega
  have e4:(mT (l.take k)).length=k:=by simp [mT]; omega
  refine (dD ?_).trans ih
  show lL l (nX (l.take k)) (jJ (l.take k)) (jL (l.take k)) (nH (l.take k)) (mT (l.take k)) (k:Int)=_
  unfold lL vQ vA
  rw [if_pos (by simp only [decide_eq_true_eq]; omega),aI rfl hx]
  simp only [Option.bind_some,lt_]
  rw [bF (by simp; omega),bF (by simp; omega),bF (by simp; omega),bF (by simp; omega),bF (by simp; omega),w64 (n:=(k:Int)+1) (by omega) (by omega)]
  simp only [nX,jJ,jL,nH,mT,List.map_append,List.map_cons,List.map_nil]
  rfl
theorem aP1 {c p:List Int} (hB:Bs c) (hc:c.length≤1048576) (hp:p.length≤100000000):oY p (bts c)=some (p++qO c):=by
 have hbl:(bts c).length=c.length:=by simp [bts]
 rw [aK0 _ _ (by omega) (by omega),aAj hB,hbl,List.append_assoc]
 rfl
theorem aIa {l:List S47} (hl:l.length≤4096) (hL:aD7 l) {p:List Int} (hp:p.length<1099511627776):yB p l=some (p++uU 101 (aA4 l)):=by
 obtain⟨h0,h1,h2,h3,h4⟩:=aFy hl hL
 obtain⟨b0,b1,b2,b3,b4⟩:=aEg hl hL
 have hb:=aC6 hl hL
 unfold yB
 have hc:=aJ7 hl l.length 0 (by omega)
 rw [show ((0:Nat):Int)=0 from rfl] at hc
 rw [show (([],[],[],[],[],0):List Int×List Int×List Int×List (List UInt8)×List Nat×Int)=(nX (l.take 0),jJ (l.take 0),jL (l.take 0),nH (l.take 0),mT (l.take 0),0) from rfl,hc]
 simp only [Option.bind_some]
 unfold sA vO
 rw [zM (by simp [nX]; omega) aBy]
 simp only [Option.bind_some]
 rw [zM (by simp [jJ]; omega) (aAh hL)]
 simp only [Option.bind_some]
 rw [zM (by simp [jL]; omega) (aAb hL)]
 simp only [Option.bind_some]
 rw [aOa (by simp [nH]; omega) (aI5 hL)]
 simp only [Option.bind_some]
 rw [aOz (by simp [mT]; omega)]
 simp only [Option.bind_some]
 have eb:aA4 l=qO (fH (nX l))++(qO (fH (jJ l))++(qO (fH (jL l))++(qO (rH (nH l))++qO (fH (rl (mT l)))))):=rfl
 rw [eb]
 clear eb hc hb
 generalize fH (nX l)=c0 at *
 generalize fH (jJ l)=c1 at *
 generalize fH (jL l)=c2 at *
 generalize rH (nH l)=c3 at *
 generalize fH (rl (mT l))=c4 at *
 have st:∀ (k:Nat) (c acc:List Int),([c0,c1,c2,c3,c4]:List (List Int))[k]?=some c→Bs c→c.length≤1048576→acc.length≤100000000→lI c0 c1 c2 c3 c4 acc (k:Int)=some (.inl (acc++qO c,((k+1:Nat):Int))):=by
  intro k c acc hg hB hcl ha
  have hk5:k<5:=by have:=(List.getElem?_eq_some_iff.1 hg).1; simpa using this
  unfold lI
  rw [if_pos (by simp only [decide_eq_true_eq,List.length_cons,List.length_nil]; omega),aI rfl hg]
  simp only [Option.bind_some]
  rw [aP1 hB hcl ha]
  simp only [Option.bind_some]
  rw [lt_,w64 (by omega) (by omega)]
  rfl
 have ol:∀ c:List Int,c.length≤1048576→(qO c).length≤1048586:=fun c h=>by have:=xK (c:=c) (by omega); omega
 have q0:=ol c0 (by omega); have q1:=ol c1 (by omega); have q2:=ol c2 (by omega); have q3:=ol c3 (by omega)
 have hlp:loop (fun s:List Int×Int=>lI c0 c1 c2 c3 c4 s.1 s.2) ([],0)=some (((([]++qO c0)++qO c1)++qO c2)++qO c3++qO c4):=by
  refine (dD (st 0 c0 [] rfl b0 (by omega) (by simp))).trans ?_
  refine (dD (st 1 c1 _ rfl b1 (by omega) (by simp; omega))).trans ?_
  refine (dD (st 2 c2 _ rfl b2 (by omega) (by simp; omega))).trans ?_
  refine (dD (st 3 c3 _ rfl b3 (by omega) (by simp; omega))).trans ?_
  refine (dD (st 4 c4 _ rfl b4 (by omega) (by simp; omega))).trans ?_
  refine bJ ?_
  show lI c0 c1 c2 c3 c4 _ ((4+1:Nat):Int)=_
  unfold lI
  rw [if_neg (by simp)]
 rw [hlp]
 simp only [Option.bind_some]
 unfold tC uZ
 have hbl:((([]++qO c0)++qO c1)++qO c2)++qO c3++qO c4=qO c0++(qO c1++(qO c2++(qO c3++qO c4))):=by simp
 rw [hbl]
 have q4:=ol c4 (by omega)
 rw [aJu (by decide) ((uA b0).app ((uA b1).app ((uA b2).app ((uA b3).app (uA b4))))) (by simp only [List.length_append]; omega) hp]
 rfl
theorem aP4 (x:S47) (k:Int):aB1 x k=some (jM x k):=aJd x k
theorem aSz {l:List S47} (h:gL 48 g47 l) {k:Int} (hf:l.all (fun e=>jM e k)=true):aD7 l:=fun e he=>by
 obtain⟨q0,q1,q2,q3,q4⟩:=h.2 e he
 have hk:=List.all_eq_true.1 hf e he
 unfold jM at hk
 simp only [Bool.and_eq_true,decide_eq_true_eq] at hk
 unfold gI Lit.wf at q0
 simp only [Bool.and_eq_true,decide_eq_true_eq] at q0
 refine⟨⟨q0.1,Int.lt_of_le_of_lt q0.2 (by decide)⟩,aYm q1,aYm q2,by omega,?_⟩
 unfold gF Lit.wf at q4
 simpa using q4
theorem aTu {f:List UInt8} (h:yS f=true):f.length≤32:=by
  unfold yS at h
  simp only [Bool.and_eq_true,decide_eq_true_eq] at h
  exact h.2
def Kp (s s':S58):Prop:=s'.f1=s.f1∧(s.f2=0→s.f3=false→s'.f2=0∧s'.f3=false)
theorem Kp.refl (s:S58):Kp s s:=⟨rfl,fun a b=>⟨a,b⟩⟩
theorem Kp.trans {a b c:S58} (h:Kp a b) (h':Kp b c):Kp a c:=⟨h'.1.trans h.1,fun x y=>h'.2 (h.2 x y).1 (h.2 x y).2⟩
theorem Kp.off {s s':S58} (h:Kp s s') (h2:s.f2=0) (h3:s.f3=false) (h':s'.f3=true):False:=by
  have:=(h.2 h2 h3).2
  rw [h'] at this; cases this
theorem aIm (s:S58) (l:List S64):Kp s { step s with f0:=l }:=by
  refine⟨rfl,fun h2 h3=>?_⟩
  unfold step
  rw [h2,h3]
  exact⟨rfl,rfl⟩
theorem aIg {s:S58} {n:List UInt8} (hn:yS n=true) (h:s.f3=false):vZ s n=0:=by unfold vZ; rw [if_pos hn,h]; rfl
theorem aR2 {kk:Nat} {s:S58} (h:SI kk s) {n:List UInt8} {x:S64} (hx:get s.f0 n=some x):yS n=true:=by
  obtain⟨h1,rfl⟩:=aIh hx
  exact h.form x h1
theorem aGc {kk:Nat} {s:S58} (h:SI kk s) (hon:s.f3=false) {n:List UInt8} {x:S64} (hx:get s.f0 n=some x) (f:S64→List S64) :
    Kp s (aD2 s n f).2∧(((aD2 s n f).1=0∧(aD2 s n f).2.f3=false∧(aD2 s n f).2.f0=f x)∨((aD2 s n f).1=9∧(aD2 s n f).2.f3=true∧(aD2 s n f).2.f0=s.f0)):=by
  unfold aD2
  rw [if_pos (aIg (aR2 h hx) hon),hx]
  dsimp only
  split
  · rename_i c
    exact⟨aIm s s.f0,.inr ⟨rfl,c,rfl⟩⟩
  · rename_i c
    exact⟨aIm s (f x),.inl ⟨rfl,by simpa using c,rfl⟩⟩
theorem aRv {kk:Nat} {s:S58} (h:SI kk s) (hon:s.f3=false) {n:List UInt8} (hn:yS n=true) (p:List Int) :
    Kp s (aAu s n p).2∧(((aAu s n p).1=10∧(aAu s n p).2=s∧(s.f1 - mK s.f0<p.length∨500≤s.f0.length)) ∨
      (((aAu s n p).1=0∧(aAu s n p).2.f3=false∨(aAu s n p).1=9∧(aAu s n p).2.f3=true)∧(aAu s n p).2.f0=put s.f0 ⟨n,((get s.f0 n).getD ⟨n,[],0⟩).f1++p,((get s.f0 n).getD ⟨n,[],0⟩).f2⟩)):=by
  unfold aAu
  rw [if_pos (aIg hn hon)]
  split
  · rename_i c
    exact⟨Kp.refl s,.inl ⟨rfl,rfl,c.elim .inl fun c=>.inr c.2⟩⟩
  · refine⟨aIm s _,.inr ⟨?_,rfl⟩⟩
    dsimp only
    split
    · rename_i c
      exact .inr ⟨rfl,c⟩
    · rename_i c
      exact .inl ⟨rfl,by simpa using c⟩
theorem aDp:∀ {l:List S64},lO l→(l.map S64.f0).Nodup
  | [],_=>List.nodup_nil
  | x::l,h=>by
    obtain⟨h1,h2⟩:=List.pairwise_cons.1 h
    refine List.nodup_cons.2 ⟨fun hm=>?_,aDp h2⟩
    obtain⟨y,hy,e⟩:=List.mem_map.1 hm
    have:=h1 y hy
    rw [e,wD] at this
    cases this
theorem aI0:∀ {l:List S64},lO l→∀ {x:S64},x∈l→get l x.f0=some x
  | [],_,x,hx=>by cases hx
  | y::l,h,x,hx=>by
    obtain⟨h1,h2⟩:=List.pairwise_cons.1 h
    rcases List.mem_cons.1 hx with rfl | hx
    · simp [get]
    · have hne:(y.f0==x.f0)=false:=by
        rw [beq_eq_false_iff_ne]
        intro e
        have:=h1 x hx
        rw [e,wD] at this
        cases this
      have:=aI0 h2 hx
      unfold get at this ⊢
      rw [List.find?_cons_of_neg (by simp [hne])]
      exact this
def aLm (n:Nat):List UInt8:=if n<10 then [UInt8.ofNat (48+n)] else if n<100 then [UInt8.ofNat (48+n / 10),UInt8.ofNat (48+n % 10)] else [UInt8.ofNat (48+n / 10 / 10),UInt8.ofNat (48+n / 10 % 10),UInt8.ofNat (48+n % 10)]
def preR:List UInt8:=[114,117,110,46]
def gO (n:Nat):List UInt8:=preR++aLm n
def nU (f:List UInt8):Bool:=decide (4≤f.length)&&(f.take 4==preR)
theorem aFr {u:Nat} (h:u<10):Lib.decDigits u=[UInt8.ofNat (48+u)]:=by rw [Lib.decDigits,dif_pos h]
theorem aP3 {u:Nat} (h:¬ u<10):Lib.decDigits u=Lib.decDigits (u / 10)++[UInt8.ofNat (48+u % 10)]:=by rw [Lib.decDigits,dif_neg h]
theorem aRx {n:Nat} (h:n<1000):Lib.itoa (n:Int)=aLm n:=by
  unfold Lib.itoa aLm
  rw [if_neg (by omega),show ((n:Int)).toNat=n from rfl]
  by_cases h1:n<10
  · rw [if_pos h1,aFr h1]
  · rw [if_neg h1,aP3 h1]
    by_cases h2:n<100
    · rw [if_pos h2,aFr (by omega)]; rfl
    · rw [if_neg h2,aP3 (by omega),aFr (by omega)]; rfl
theorem aPp {n:Nat} (h:n<1000):strconv_Itoa (n:Int)=some (aLm n):=by
  unfold strconv_Itoa
  rw [bF ⟨by omega,by omega⟩,aRx h]
theorem aKn (n:Nat):(aLm n).length≤3:=by unfold aLm; split <;> (try split) <;> simp
theorem aKo:∀ n<600,yS (gO n)=true:=by decide +kernel
def bB8 (l:List UInt8):Nat:=l.foldl (fun a c=>10 * a+(c.toNat - 48)) 0
theorem aMx:∀ n<600,bB8 ((gO n).drop 4)=n:=by decide +kernel
theorem aRa {m n:Nat} (hm:m<600) (hn:n<600) (h:gO m=gO n):m=n:=by
  have:=aMx m hm
  rw [h,aMx n hn] at this
  exact this.symm
theorem aAq (n:Nat):nU (gO n)=true:=by simp [nU,gO,preR]
theorem aJy (n:Nat):(gO n).length≤7:=by have:=aKn n; simp only [gO,preR,List.length_append,List.length_cons,List.length_nil]; omega
theorem aN0 (f:List UInt8) (hf:f.length<4611686018427387904):lN f preR=some (nU f):=by
  unfold lN lA nU
  rw [show ((preR.length:Nat):Int)=4 from rfl]
  by_cases h:4≤f.length
  · rw [if_pos (by simp only [decide_eq_true_eq]; omega),show (4:Int)=((4:Nat):Int) from rfl,show (0:Int)=((0:Nat):Int) from rfl,wY (by omega) h]
    simp [h]
  · rw [if_neg (by simp only [decide_eq_true_eq]; omega)]
    simp [h]
def oth (l:List S64):List S64:=l.filter fun x => !nU x.f0
theorem aI1 {n:List UInt8} (hn:nU n=true) (l:List S64):oth (del l n)=oth l:=by
  unfold oth P.del
  rw [List.filter_filter]
  refine List.filter_congr fun x _=>?_
  cases c:nU x.f0 with
  | true=>rfl
  | false =>
    have:(x.f0==n)=false:=by
      rw [beq_eq_false_iff_ne]
      intro e
      rw [e,hn] at c
      cases c
    rw [this]; rfl
theorem aS5 {l:List S64} (h:lO l) {y:S64} (hy:nU y.f0=true):oth (put l y)=oth l:=by
  unfold oth
  rcases zF h y.f0 with ⟨P,x,D,rfl,hx⟩ | ⟨P,D,rfl,hP,hD⟩
  · rw [aCf hx h,List.filter_append,List.filter_append,List.filter_cons_of_neg (by simp [hy]),List.filter_cons_of_neg (by simp [hx,hy])]
  · rw [aAr hP hD,List.filter_append,List.filter_append,List.filter_cons_of_neg (by simp [hy])]
theorem aP0 {l:List S64} (h:lO l) {y:S64} (hy:get l y.f0=none):(put l y).Perm (y::l):=by
  rcases zF h y.f0 with ⟨P,x,D,rfl,hx⟩ | ⟨P,D,rfl,hP,hD⟩
  · rw [vB hx h] at hy; cases hy
  · rw [aAr hP hD]; exact List.perm_middle
theorem aKb {l:List S64} (h:lO l) {n:List UInt8} {x:S64} (hx:get l n=some x):l.Perm (x::del l n):=by
  rcases zF h n with ⟨P,y,D,rfl,hy⟩ | ⟨P,D,rfl,hP,hD⟩
  · rw [vB hy h] at hx
    cases hx
    rw [aEq hy h]; exact List.perm_middle
  · rw [wW hP hD] at hx; cases hx
theorem aNy {l m:List S64} (h:l.Perm m):mK l=mK m:=(h.map _).sum_nat
def cln:List (List UInt8)→S58→Int×S58
  | [],s=>(0,s)
  | f::r,s=>if nU f=true then (if (kG s f).1=0 then cln r (kG s f).2 else kG s f) else cln r s
theorem aO1 {kk:Nat} {s:S58} (h:SI kk s) (hk:kk<4611686018427387904) {L:List (List UInt8)} {i:Nat} {f:List UInt8} (hf:L[i]?=some f) (hl:f.length≤32) (hL:L.length≤500) :
    eD L s.f0 s.f1 s.f2 s.f3 s.f4 (i:Int)=if nU f=true then (if (kG s f).1=0 then some (.inl ((kG s f).2.f0,(kG s f).2.f1,(kG s f).2.f2,(kG s f).2.f3,(kG s f).2.f4,((i+1:Nat):Int))) else some (.inr (.inr ((kG s f).1,some (kG s f).2)))) else some (.inl (s.f0,s.f1,s.f2,s.f3,s.f4,((i+1:Nat):Int))):=by
  have hi:=(List.getElem?_eq_some_iff.1 hf).1
  have hb2:∀ (l:List S64) (a b:Int) (c:Bool) (d:Int),lH (i:Int) l a b c d=some (.inl (l,a,b,c,d,((i+1:Nat):Int))):=by
    intro l a b c d
    unfold lH
    rw [lt_,w64 (by omega) (by omega)]
    rfl
  unfold eD
  rw [if_pos (by simp only [decide_eq_true_eq]; omega),aI rfl hf]
  simp only [Option.bind_some]
  rw [show ([114,117,110,46]:List UInt8)=preR from rfl,aN0 f (by omega)]
  simp only [Option.bind_some]
  by_cases c:nU f=true
  · rw [if_pos c,if_pos c,show (⟨s.f0,s.f1,s.f2,s.f3,s.f4⟩:S58)=s from rfl,h.Delete hk (by omega)]
    simp only [Option.bind_some]
    by_cases c2:(kG s f).1=0
    · rw [if_neg (by simp [c2]),if_pos c2,hb2]
    · rw [if_pos (by simpa using c2),if_neg c2]
  · rw [if_neg c,if_neg c,hb2]
theorem aFp {L:List (List UInt8)} (hL:L.length≤500) (h32:∀ f∈L,f.length≤32):∀ (m i kk:Nat) (s:S58),i+m=L.length→SI kk s→kk+m<4611686018427387904 →
    ((loop (fun q:List S64×Int×Int×Bool×Int×Int=>eD L q.1 q.2.1 q.2.2.1 q.2.2.2.1 q.2.2.2.2.1 q.2.2.2.2.2) (s.f0,s.f1,s.f2,s.f3,s.f4,(i:Int))).bind fun t=>match t with | (.inl t)=>oO t.1 t.2.1 t.2.2.1 t.2.2.2.1 t.2.2.2.2 | (.inr t)=>some t)=some ((cln (L.drop i) s).1,some (cln (L.drop i) s).2)
  | 0,i,kk,s,hi,h,hk=>by
    rw [bJ (b:=fun q:List S64×Int×Int×Bool×Int×Int=>eD L q.1 q.2.1 q.2.2.1 q.2.2.2.1 q.2.2.2.2.1 q.2.2.2.2.2) (t:=.inl (s.f0,s.f1,s.f2,s.f3,s.f4)) (by
      show eD L s.f0 s.f1 s.f2 s.f3 s.f4 (i:Int)=_
      unfold eD
      rw [if_neg (by simp only [decide_eq_true_eq]; omega)]),List.drop_of_length_le (by omega)]
    rfl
  | m+1,i,kk,s,hi,h,hk=>by
    have hx:=List.getElem?_eq_getElem (l:=L) (i:=i) (by omega)
    have hr:=aO1 h (by omega) hx (h32 _ (List.getElem_mem (by omega))) hL
    rw [List.drop_eq_getElem_cons (by omega)]
    unfold cln
    by_cases c:nU L[i]=true
    · rw [if_pos c] at hr ⊢
      by_cases c2:(kG s L[i]).1=0
      · rw [if_pos c2] at hr ⊢
        rw [dD (b:=fun q:List S64×Int×Int×Bool×Int×Int=>eD L q.1 q.2.1 q.2.2.1 q.2.2.2.1 q.2.2.2.2.1 q.2.2.2.2.2) hr]
        exact aFp hL h32 m (i+1) (kk+1) _ (by omega) (h.del (n:=L[i])) (by omega)
      · rw [if_neg c2] at hr ⊢
        rw [bJ (b:=fun q:List S64×Int×Int×Bool×Int×Int=>eD L q.1 q.2.1 q.2.2.1 q.2.2.2.1 q.2.2.2.2.1 q.2.2.2.2.2) hr]
        rfl
    · rw [if_neg c] at hr ⊢
      rw [dD (b:=fun q:List S64×Int×Int×Bool×Int×Int=>eD L q.1 q.2.1 q.2.2.1 q.2.2.2.1 q.2.2.2.2.1 q.2.2.2.2.2) hr]
      exact aFp hL h32 m (i+1) kk _ (by omega) h (by omega)
theorem aQ2 {kk:Nat} {s:S58} (h:SI kk s) (hk:kk+500<4611686018427387904):nJ (some s)=some ((cln (s.f0.map S64.f0) s).1,some (cln (s.f0.map S64.f0) s).2):=by
  have hl:=h.len
  unfold nJ
  dsimp only
  rw [h.Names]
  simp only [Option.bind_some]
  have:=aFp (L:=s.f0.map S64.f0) (by simpa using hl) (fun f hf=>by
    obtain⟨x,hx,rfl⟩:=List.mem_map.1 hf
    exact aTu (h.form x hx)) s.f0.length 0 kk s (by simp) h (by omega)
  rw [List.drop_zero] at this
  exact this
theorem aFi:∀ (L:List (List UInt8)) (s:S58) (kk:Nat),SI kk s→s.f3=false→L.Nodup→(∀ f∈L,∃ x,get s.f0 f=some x)→(∀ x∈s.f0,nU x.f0=true→x.f0∈L) →
    SI (kk+L.length) (cln L s).2∧Kp s (cln L s).2∧oth (cln L s).2.f0=oth s.f0 ∧
      (((cln L s).1=0∧(cln L s).2.f3=false∧∀ x∈(cln L s).2.f0,nU x.f0=false)∨((cln L s).1=9∧(cln L s).2.f3=true))
  | [],s,kk,h,hon,hnd,hL,hR=>⟨h,Kp.refl s,rfl,.inl ⟨rfl,hon,fun x hx=>by
      cases c:nU x.f0 with
      | false=>rfl
      | true=>cases hR x hx c⟩⟩
  | f::L,s,kk,h,hon,hnd,hL,hR=>by
    obtain⟨hf,hnd'⟩:=List.nodup_cons.1 hnd
    unfold cln
    by_cases c:nU f=true
    · rw [if_pos c]
      obtain⟨x,hx⟩:=hL f List.mem_cons_self
      have h1:=h.del (n:=f)
      obtain⟨kp,hd⟩:=aGc h hon hx fun x=>del s.f0 f
      rcases hd with ⟨e0,on1,l1⟩ | ⟨e9,off1,l1⟩
      · have e0':(kG s f).1=0:=e0
        have l1':(kG s f).2.f0=del s.f0 f:=l1
        rw [if_pos e0']
        have hL':∀ g∈L,∃ x,get (kG s f).2.f0 g=some x:=fun g hg=>by
          obtain⟨y,hy⟩:=hL g (List.mem_cons_of_mem _ hg)
          refine⟨y,?_⟩
          rw [l1',aR4 h.rise,if_neg (fun e=>hf (by rw [e]; exact hg))]
          exact hy
        obtain⟨i1,i2,i3,i4⟩:=aFi L (kG s f).2 (kk+1) h1 on1 hnd' hL' fun y hy cy=>by
          rw [l1'] at hy
          have hne:y.f0≠f:=fun e=>by
            have:=(List.mem_filter.1 hy).2
            simp [e] at this
          rcases List.mem_cons.1 (hR y (aEl hy) cy) with e | e
          · exact absurd e hne
          · exact e
        exact⟨by rw [List.length_cons,show kk+(L.length+1)=kk+1+L.length by omega]; exact i1,Kp.trans kp i2,by rw [i3,l1',aI1 c],i4⟩
      · have e9':(kG s f).1=9:=e9
        have l1':(kG s f).2.f0=s.f0:=l1
        rw [if_neg (by rw [e9']; decide)]
        exact⟨h1.mono (by rw [List.length_cons]; omega),kp,by rw [l1'],.inr ⟨e9',off1⟩⟩
    · rw [if_neg c]
      obtain⟨i1,i2,i3,i4⟩:=aFi L s kk h hon hnd' (fun g hg=>hL g (List.mem_cons_of_mem _ hg)) fun y hy cy=>by
        rcases List.mem_cons.1 (hR y hy cy) with e | e
        · rw [e] at cy; exact absurd cy c
        · exact e
      exact⟨i1.mono (by rw [List.length_cons]; omega),i2,i3,i4⟩
theorem aNj {l:List S64} (h:∀ x∈l,nU x.f0=false):oth l=l:=List.filter_eq_self.2 fun x hx=>by rw [h x hx]; rfl
theorem aE5 {kk:Nat} {s:S58} (h:SI kk s) (hk:kk+500<4611686018427387904) (hon:s.f3=false) :
    ∃ e s',nJ (some s)=some (e,some s')∧SI (kk+500) s'∧Kp s s'∧oth s'.f0=oth s.f0∧((e=0∧s'.f3=false∧s'.f0=oth s.f0)∨(e=9∧s'.f3=true)):=by
  obtain⟨i1,i2,i3,i4⟩:=aFi (s.f0.map S64.f0) s kk h hon (aDp h.rise) (fun f hf=>by
    obtain⟨x,hx,rfl⟩:=List.mem_map.1 hf
    exact⟨x,aI0 h.rise hx⟩) fun x hx _=>List.mem_map.2 ⟨x,hx,rfl⟩
  refine⟨_,_,aQ2 h hk,i1.mono (by have:=h.len; rw [List.length_map]; omega),i2,i3,?_⟩
  rcases i4 with ⟨a,b,d⟩ | q
  · exact .inl ⟨a,b,by rw [← i3,aNj d]⟩
  · exact .inr q
section
variable {α:Type} {q:Nat}
theorem aMj (hq:1≤q):pcs q ([]:List α)=[]:=by
  unfold pcs
  rw [show (([]:List α).length+q - 1) / q=0 from by rw [Nat.div_eq_zero_iff]; simp only [List.length_nil]; omega]
  rfl
theorem aJ9 (hq:1≤q) {xs:List α} (h:xs≠[]):pcs q xs=xs.take q::pcs q (xs.drop q):=by
  have hl:0<xs.length:=List.length_pos_iff.2 h
  have e:(xs.length+q - 1) / q=((xs.drop q).length+q - 1) / q+1:=by
    rw [List.length_drop]
    by_cases c:q≤xs.length
    · rw [show xs.length+q - 1=xs.length - q+q - 1+q by omega,Nat.add_div_right _ (by omega)]
    · rw [show xs.length - q+q - 1=q - 1 by omega,Nat.div_eq_of_lt (show q - 1<q by omega)]
      exact Nat.div_eq_of_lt_le (by omega) (by omega)
  unfold pcs
  rw [e,List.range_succ_eq_map,List.map_cons,List.map_map]
  congr 1
  · rw [Nat.zero_mul,List.drop_zero]
  · refine List.map_congr_left fun k _=>?_
    show (xs.drop ((k+1) * q)).take q=((xs.drop q).drop (k * q)).take q
    rw [List.drop_drop,Nat.add_mul,Nat.one_mul,Nat.add_comm]
theorem aNn (hq:1≤q) {p:List α→Prop} (h0:p []) (hs:∀ xs,xs≠[]→p (xs.drop q)→p xs) (xs:List α):p xs:=by
  generalize hn:xs.length=n
  induction n using Nat.strongRecOn generalizing xs with
  | _ n ih =>
    by_cases c:xs=[]
    · rw [c]; exact h0
    · have hl:0<xs.length:=List.length_pos_iff.2 c
      exact hs xs c (ih (xs.drop q).length (by rw [List.length_drop]; omega) _ rfl)
theorem aEp (hq:1≤q):∀ (xs:List α),∀ c∈pcs q xs,c≠[]∧c.length≤q∧∀ x∈c,x∈xs:=by
  refine aNn hq (fun c hc=>by rw [aMj hq] at hc; cases hc) fun xs h ih c hc=>?_
  rw [aJ9 hq h] at hc
  rcases List.mem_cons.1 hc with rfl | hc
  · refine⟨fun e=>?_,by simp; omega,fun x hx=>List.mem_of_mem_take hx⟩
    have hl:0<xs.length:=List.length_pos_iff.2 h
    have:=congrArg List.length e
    rw [List.length_take,List.length_nil] at this
    omega
  · obtain⟨a,b,d⟩:=ih c hc
    exact⟨a,b,fun x hx=>List.mem_of_mem_drop (d x hx)⟩
theorem uG (hq:1≤q):∀ (xs:List α),(pcs q xs).flatten=xs:=by
  refine aNn hq (by rw [aMj hq]; rfl) fun xs h ih=>?_
  rw [aJ9 hq h,List.flatten_cons,ih,List.take_append_drop]
end
def pgB (c:List S47):List Int:=uU 101 (aA4 c)
def pgs (r:List S47):List Int:=((pcs 64 r).map pgB).flatten
structure Gd4 (k:Int) (r:List S47):Prop where
  laid:aD7 r
  form:∀ e∈r,jM e k=true
  len:r.length≤1000
theorem Gd4.sub {k:Int} {r c:List S47} (h:Gd4 k r) (hc:∀ x∈c,x∈r) (hl:c.length≤1000):Gd4 k c:=⟨fun e he=>h.laid e (hc e he),fun e he=>h.form e (hc e he),hl⟩
theorem aNf {c:List S47} (hl:c.length≤64) (hL:aD7 c) (h0:c≠[]):(pgB c).length≤216 * c.length∧9≤(pgB c).length:=by
  have h1:=aC6 (by omega) hL
  have h2:0<c.length:=List.length_pos_iff.2 h0
  unfold pgB
  rw [aHu]
  omega
theorem aV3 {c:List S47} (hl:c.length≤64) (hL:aD7 c):Bs (pgB c):=aRn (by decide) (aQ5 (by omega) hL)
theorem aRl {cs:List (List S47)} (h:∀ c∈cs,c≠[]∧c.length≤64∧aD7 c):((cs.map pgB).flatten).length≤216 * cs.flatten.length:=by
  induction cs with
  | nil=>exact Nat.le_refl _
  | cons c cs ih =>
    have h1:=ih fun x hx=>h x (List.mem_cons_of_mem _ hx)
    obtain⟨a,b,d⟩:=h c List.mem_cons_self
    have h2:=aNf b d a
    simp only [List.map_cons,List.flatten_cons,List.length_append]
    omega
section
variable {k:Int} {r:List S47} (hg:Gd4 k r)
include hg
theorem aEf:∀ c∈pcs 64 r,c≠[]∧c.length≤64∧aD7 c:=fun c hc=>by
  obtain⟨a,b,d⟩:=aEp (by decide) r c hc
  exact⟨a,b,fun e he=>hg.laid e (d e he)⟩
theorem aEj:(pgs r).length≤216 * r.length:=by
  have:=aRl (aEf hg)
  rwa [uG (by decide)] at this
theorem aRc:Bs (pgs r):=fun b hb=>by
  obtain⟨p,hp,hb⟩:=List.mem_flatten.1 hb
  obtain⟨c,hc,rfl⟩:=List.mem_map.1 hp
  obtain⟨_,h2,h3⟩:=aEf hg c hc
  exact aV3 h2 h3 b hb
end
theorem aKc:∀ (cs:List (List S47)) (acc:List Int),(∀ c∈cs,c≠[]∧c.length≤64∧aD7 c)→acc.length+((cs.map pgB).flatten).length<1099511627776 →
    cs.foldlM (fun s l=>jA s l) acc=some (acc++(cs.map pgB).flatten)
  | [],acc,_,_=>by simp
  | c::cs,acc,h,hl=>by
    obtain⟨a,b,d⟩:=h c List.mem_cons_self
    simp only [List.map_cons,List.flatten_cons,List.length_append] at hl
    rw [List.foldlM_cons]
    unfold jA
    rw [aIa (by omega) d (by omega)]
    simp only [Option.bind_some,Option.bind_eq_bind]
    have:=aKc cs (acc++pgB c) (fun x hx=>h x (List.mem_cons_of_mem _ hx)) (by rw [List.length_append]; omega)
    rw [List.map_cons,List.flatten_cons, ← List.append_assoc]
    exact this
def rf (q:Nat×List S47):S64:=⟨gO q.1,pgs q.2,0⟩
theorem aQ4 {l:List S64} {n:List UInt8} (h:∀ x∈l,x.f0≠n):get l n=none:=List.find?_eq_none.2 fun x hx=>by simpa using h x hx
section
variable {kk n:Nat} {s:S58} {p:S26} {k:Int} {r:List S47} {O:List S64} {ns:List (Nat×List S47)}
theorem aOr (hp:s.f0.Perm (O++ns.map rf)) (hO:∀ x∈O,nU x.f0=false) (hlt:∀ q∈ns,q.1<n) (hn:n<600):get s.f0 (gO n)=none:=by
  refine aQ4 fun x hx e=>?_
  rcases List.mem_append.1 (hp.mem_iff.1 hx) with h | h
  · have:=hO x h
    rw [e,aAq] at this
    cases this
  · obtain⟨q,hq,rfl⟩:=List.mem_map.1 h
    have h1:=hlt q hq
    have:=aRa (by omega) hn e
    omega
theorem aFo (h:SI kk s) (hk:kk<4611686018427387904) (hon:s.f3=false) (hp:s.f0.Perm (O++ns.map rf)) (hO:∀ x∈O,nU x.f0=false) (hlt:∀ q∈ns,q.1<n) (hn:n<600) (hg:Gd4 k r) :
    ∃ e s',jD ⟨s,p,k,(n:Int)⟩ r=some (gO n,e,⟨s',p,k,((n+1:Nat):Int)⟩)∧SI (kk+1) s'∧Kp s s'∧oth s'.f0=oth s.f0 ∧
      ((e=0∧s'.f3=false∧s'.f0.Perm (O++(ns++[(n,r)]).map rf))∨(e=10∧s'=s∧(s.f1 - mK s.f0<(pgs r).length∨500≤s.f0.length))∨(e=9∧s'.f3=true)):=by
  have hgn:=aOr hp hO hlt hn
  have hlen:=aEj hg
  have hgl:=hg.len
  obtain⟨kp,hd⟩:=aRv h hon (aKo n hn) (pgs r)
  refine⟨(aAu s (gO n) (pgs r)).1,(aAu s (gO n) (pgs r)).2,?_,h.app (aRc hg),kp,?_,?_⟩
  · unfold jD
    rw [aPp (by omega)]
    simp only [Option.bind_some,lt_]
    have hd3:=aKn n
    rw [bF (by simp only [List.length_cons,List.length_nil,maxLen]; omega),w64 (n:=(n:Int)+1) (by omega) (by omega),bF (by omega),aKc _ _ (aEf hg) (by rw [List.length_nil]; unfold pgs at hlen; omega)]
    simp only [Option.bind_some,List.nil_append]
    unfold kZ
    rw [show ((pcs 64 r).map pgB).flatten=pgs r from rfl,show ([114,117,110,46]:List UInt8)++aLm n=gO n from rfl,h.Append hk (by have:=aJy n; omega)]
    rfl
  · rcases hd with ⟨_,e,_⟩ | ⟨_,e⟩
    · rw [e]
    · rw [e]
      exact aS5 h.rise (aAq n)
  · rw [hgn] at hd
    rcases hd with ⟨a,b,c⟩ | ⟨a | a,e⟩
    · exact .inr (.inl ⟨a,b,c⟩)
    · refine .inl ⟨a.1,a.2,?_⟩
      rw [e]
      refine (aP0 h.rise (by exact hgn)).trans ?_
      rw [List.map_append, ← List.append_assoc]
      exact (List.Perm.cons _ hp).trans (List.perm_append_singleton _ _).symm
    · exact .inr (.inr a)
end
theorem aFc {s:S58} {p:S26} {k:Int} {n:Int} {y:List Int×Int} (hB:Bs y.1) (hl:y.1.length<1099511627776):∀ (cs:List (List S47)) (P:List Int) (out:List S47),y.1=P++(cs.map pgB).flatten →
    (∀ c∈cs,(c≠[]∧c.length≤64∧aD7 c)∧∀ e∈c,jM e k=true)→out.length+cs.flatten.length≤10000 →
    loop (fun q:Int×List S47×Int=>cU ⟨s,p,k,n⟩ y q.1 q.2.1 q.2.2) (0,out,(P.length:Int))=some (0,out++cs.flatten.map mB)
  | [],P,out,hy,_,_=>by
    refine bJ (b:=fun q:Int×List S47×Int=>cU ⟨s,p,k,n⟩ y q.1 q.2.1 q.2.2) ?_
    show cU ⟨s,p,k,n⟩ y 0 out (P.length:Int)=_
    unfold cU gM
    rw [if_pos (by rfl),if_neg (by rw [hy]; simp)]
    simp
  | c::cs,P,out,hy,h,hlo=>by
    obtain⟨⟨a,b,d⟩,f⟩:=h c List.mem_cons_self
    have hpl:=aNf b d a
    rw [List.map_cons,List.flatten_cons] at hy
    rw [List.flatten_cons,List.length_append] at hlo
    have hr:rI y.1 (P.length:Int) k=some (c.map mB,((P.length+(pgB c).length:Nat):Int),0):=by
      rw [aGm hB hl,hy, ← List.append_assoc]
      unfold pgB
      rw [aQz (by omega) d,if_pos (List.all_eq_true.2 f)]
    rw [dD (b:=fun q:Int×List S47×Int=>cU ⟨s,p,k,n⟩ y q.1 q.2.1 q.2.2) (s':=(0,out++c.map mB,((P.length+(pgB c).length:Nat):Int))) (by
      show cU ⟨s,p,k,n⟩ y 0 out (P.length:Int)=_
      unfold cU gM
      rw [if_pos (by rfl),if_pos (by rw [hy]; simp only [decide_eq_true_eq,List.length_append]; omega)]
      show (rI y.1 (P.length:Int) k).bind _=_
      rw [hr]
      simp only [Option.bind_some]
      rw [bF (by simp only [List.length_map]; omega)])]
    have:=aFc (s:=s) (p:=p) (n:=n) hB hl cs (P++pgB c) (out++c.map mB) (by rw [hy,List.append_assoc]) (fun x hx=>h x (List.mem_cons_of_mem _ hx)) (by simp only [List.length_append,List.length_map]; omega)
    rw [List.length_append] at this
    rw [this,List.flatten_cons,List.map_append,List.append_assoc]
section
variable {kk n j:Nat} {s:S58} {p:S26} {k:Int} {r:List S47}
theorem aK2 (h:SI kk s) (hk:kk<4611686018427387904) (hon:s.f3=false) (hj:j<600) (hx:get s.f0 (gO j)=some (rf (j,r))) (hg:Gd4 k r) (m:Int) :
    jF ⟨s,p,k,m⟩ (gO j)=some (r.map mB,(kG s (gO j)).1,⟨(kG s (gO j)).2,p,k,m⟩):=by
  have hlen:=aEj hg
  have hgl:=hg.len
  have hnl:=aJy j
  unfold jF
  dsimp only
  rw [h.Read (by omega)]
  simp only [Option.bind_some]
  have hrd:aNr s (gO j)=(pgs r,0):=by
    unfold aNr
    rw [if_pos (aIg (aKo j hj) hon),hx]
    rfl
  rw [hrd]
  have:=aFc (s:=s) (p:=p) (n:=m) (y:=(pgs r,0)) (k:=k) (aRc hg) (by dsimp only; omega) (pcs 64 r) [] [] rfl (fun c hc=>⟨aEf hg c hc,fun e he=>hg.form e ((aEp (by decide) r c hc).2.2 e he)⟩) (by rw [uG (by decide)]; simp only [List.length_nil]; omega)
  rw [uG (by decide),List.nil_append,show ((([]:List Int).length:Nat):Int)=0 from rfl] at this
  rw [this]
  simp only [Option.bind_some]
  unfold jW lU
  rw [if_neg (by simp),h.Delete hk (by omega)]
  rfl
end
section
variable {α:Type} {lt:α→α→Bool}
theorem yM (h:SWO lt) {a a' b b':List α} (ha:sortL lt a=sortL lt a') (hb:sortL lt b=sortL lt b'):sortL lt (a++b)=sortL lt (a'++b'):=by
  rw [← aAf h a b,ha,hb,aAf h]
theorem aDh (h:SWO lt) (a:List α):sortL lt (sortL lt a)=sortL lt a:=iA (oA h a)
end
def val (r:List S47):List S47:=r.map mB
theorem aKi (x:S47):∀ l:List S47,ins bef (mB x) (l.map mB)=(ins bef x l).map mB
  | []=>rfl
  | y::l=>by
    have ih:=aKi x l
    show (if bef x y=true then mB x::mB y::l.map mB else mB y::ins bef (mB x) (l.map mB))=List.map mB (if bef x y=true then x::y::l else y::ins bef x l)
    split
    · rfl
    · rw [ih]; rfl
theorem aF3:∀ (l acc:List S47),(l.map mB).foldl (fun acc x=>ins bef x acc) (acc.map mB)=(l.foldl (fun acc x=>ins bef x acc) acc).map mB
  | [],_=>rfl
  | x::l,acc=>by
    rw [List.map_cons,List.foldl_cons,List.foldl_cons,aKi]
    exact aF3 l _
theorem aBn (l:List S47):sortL bef (val l)=val (sortL bef l):=aF3 l []
theorem aN7 (e:S47):mB (mB e)=mB e:=by unfold mB; rw [wR]
theorem aR9 (r:List S47):val (val r)=val r:=by
  unfold val
  rw [List.map_map]
  exact List.map_congr_left fun e _=>aN7 e
theorem aEh (r:List S47):(val r).length=r.length:=by unfold val; rw [List.length_map]
theorem aT8 (a b:List S47):val (a++b)=val a++val b:=by unfold val; rw [List.map_append]
theorem Srt.val {r:List S47} (h:Srt bef r):Srt bef (val r):=by
  unfold Srt P.val at *
  rw [List.pairwise_map]
  exact h
theorem Gd4.val {k:Int} {r:List S47} (h:Gd4 k r):Gd4 k (val r):=by
  refine⟨fun e he=>?_,fun e he=>?_,by rw [aEh]; exact h.len⟩
  · obtain⟨x,hx,rfl⟩:=List.mem_map.1 he
    obtain⟨a,b,c,d,f⟩:=h.laid x hx
    exact⟨a,b,c,d,aKf f⟩
  · obtain⟨x,hx,rfl⟩:=List.mem_map.1 he
    exact h.form x hx
theorem Gd4.sort {k:Int} {r:List S47} (h:Gd4 k r):Gd4 k (sortL bef r):=h.sub (fun x hx=>(aN8 x r).1 hx) (by rw [aQ]; exact h.len)
def tot (ns:List (Nat×List S47)):Nat:=(ns.map fun q=>q.2.length).sum
theorem aEi (a b:List (Nat×List S47)):tot (a++b)=tot a+tot b:=by simp [tot]
theorem aJx (q:Nat×List S47) (b:List (Nat×List S47)):tot (q::b)=q.2.length+tot b:=by simp [tot]
theorem zN:∀ (ns:List (Nat×List S47)),((ns.map fun q=>val q.2).flatten).length=tot ns
  | []=>rfl
  | q::ns=>by rw [List.map_cons,List.flatten_cons,List.length_append,zN ns,aJx,aEh]
theorem aM1 {k:Int}:∀ (ns:List (Nat×List S47)),(∀ q∈ns,Gd4 k q.2)→mK (ns.map rf)≤216 * tot ns
  | [],_=>Nat.le_refl _
  | q::ns,h=>by
    have h1:=aM1 ns fun x hx=>h x (List.mem_cons_of_mem _ hx)
    have h2:=aEj (h q List.mem_cons_self)
    rw [List.map_cons,vW,aJx]
    show (pgs q.2).length+_≤_
    omega
def aHp (s:S58) (O:List S64) (N:Nat):Prop:=s.f1<(mK O+216 * N:Nat)∨245≤O.length
theorem aK6 {k:Int} {s:S58} {O:List S64} {ns:List (Nat×List S47)} {r:List S47} {N:Nat} (hp:s.f0.Perm (O++ns.map rf)) (hns:∀ q∈ns,Gd4 k q.2) (hr:Gd4 k r) (hN:tot ns+r.length≤N) (hl:ns.length≤255)
    (h:s.f1 - mK s.f0<(pgs r).length∨500≤s.f0.length):aHp s O N:=by
  have h1:=aM1 ns hns
  have h2:=aEj hr
  have h3:=aNy hp
  have h4:=hp.length_eq
  rw [rU] at h3
  rw [List.length_append,List.length_map] at h4
  rcases h with h | h
  · left; omega
  · right; omega
section
variable {k:Int} {p:S26} {O:List S64} {R:List (Nat×List S47)}
theorem aMt {kk:Nat} {s:S58} (h:SI kk s) {ns:List (Nat×List S47)} (hp:s.f0.Perm (O++ns.map rf)) {q:Nat×List S47} (hq:q∈ns):get s.f0 (gO q.1)=some (rf q) :=
  aI0 h.rise (x:=rf q) (hp.mem_iff.2 (List.mem_append.2 (.inr (List.mem_map.2 ⟨q,hq,rfl⟩))))
noncomputable abbrev aHe (A:List (List UInt8)) (s:S58) (p:S26) (k m:Int) (all:List (List S47)) (i:Int) :=
  loop (fun s=>eY A s.1 s.2.1 s.2.2.1 s.2.2.2.1 s.2.2.2.2.1 s.2.2.2.2.2.1 s.2.2.2.2.2.2.1 s.2.2.2.2.2.2.2.1 s.2.2.2.2.2.2.2.2.1 s.2.2.2.2.2.2.2.2.2.1 s.2.2.2.2.2.2.2.2.2.2) (s.f0,s.f1,s.f2,s.f3,s.f4,p.f0,p.f1,k,m,all,i)
theorem aGt {A:List (List UInt8)} {m:Int} (hA:A.length≤1000):∀ (G:List (Nat×List S47)) (i kk:Nat) (s:S58) (acc:List (List S47)),A.drop i=G.map (fun q=>gO q.1)→SI kk s→kk+G.length<4611686018427387904→s.f3=false →
    s.f0.Perm (O++(G++R).map rf)→(∀ q∈G,q.1<600∧Gd4 k q.2)→(∀ x∈O,nU x.f0=false)→i≤A.length→acc.length≤i →
    ∃ s',SI (kk+G.length) s'∧Kp s s'∧oth s'.f0=oth s.f0 ∧
      ((s'.f3=false∧s'.f0.Perm (O++R.map rf)∧aHe A s p k m acc (i:Int)=some (.inl (s'.f0,s'.f1,s'.f2,s'.f3,s'.f4,p.f0,p.f1,k,m,acc++G.map fun q=>val q.2))) ∨
        (s'.f3=true∧aHe A s p k m acc (i:Int)=some (.inr ([],9,⟨s',p,k,m⟩))))
  | [],i,kk,s,acc,hd,h,hk,hon,hp,hG,hO,hi,ha=>by
    have hl:A.length≤i:=by
      have:=congrArg List.length hd
      rw [List.length_drop] at this
      simp at this
      omega
    refine⟨s,h,Kp.refl s,rfl,.inl ⟨hon,hp,?_⟩⟩
    refine bJ ?_
    show eY A s.f0 s.f1 s.f2 s.f3 s.f4 p.f0 p.f1 k m acc (i:Int)=_
    unfold eY
    rw [if_neg (by simp only [decide_eq_true_eq]; omega)]
    simp
  | q::G,i,kk,s,acc,hd,h,hk,hon,hp,hG,hO,hi,ha=>by
    rw [List.length_cons] at hk
    have hil:i<A.length:=by
      have:=congrArg List.length hd
      rw [List.length_drop,List.length_map,List.length_cons] at this
      omega
    have hAi:A[i]?=some (gO q.1):=by
      have:=congrArg (fun l=>l[0]?) hd
      simpa using this
    have hd':A.drop (i+1)=G.map fun q=>gO q.1:=by
      have:=congrArg (List.drop 1) hd
      rw [List.drop_drop] at this
      simpa using this
    obtain⟨hq6,hqg⟩:=hG q List.mem_cons_self
    have hx:=aMt h hp (q:=q) (by simp)
    have hf:=aK2 (p:=p) h (by omega) hon hq6 hx hqg m
    have hdl:=h.del (n:=gO q.1)
    obtain⟨kp,hc⟩:=aGc h hon hx fun x=>del s.f0 (gO q.1)
    have step:eY A s.f0 s.f1 s.f2 s.f3 s.f4 p.f0 p.f1 k m acc (i:Int)=if (kG s (gO q.1)).1=0 then some (.inl ((kG s (gO q.1)).2.f0,(kG s (gO q.1)).2.f1,(kG s (gO q.1)).2.f2,(kG s (gO q.1)).2.f3,(kG s (gO q.1)).2.f4,p.f0,p.f1,k,m,acc++[val q.2],((i+1:Nat):Int))) else some (.inr (.inr ([],(kG s (gO q.1)).1,⟨(kG s (gO q.1)).2,p,k,m⟩))):=by
      unfold eY
      rw [if_pos (by simp only [decide_eq_true_eq]; omega),aI rfl hAi]
      simp only [Option.bind_some]
      rw [show (⟨⟨s.f0,s.f1,s.f2,s.f3,s.f4⟩,⟨p.f0,p.f1⟩,k,m⟩:S67)=⟨s,p,k,m⟩ from rfl,hf]
      simp only [Option.bind_some]
      by_cases c:(kG s (gO q.1)).1=0
      · rw [if_neg (by simp [c]),if_pos c,bF (by simp only [List.length_cons,List.length_nil]; omega),lt_,w64 (by omega) (by omega)]
        rfl
      · rw [if_pos (by simpa using c),if_neg c]
    rcases hc with ⟨e0,on1,l1⟩ | ⟨e9,off1,l1⟩
    · have e0':(kG s (gO q.1)).1=0:=e0
      have l1':(kG s (gO q.1)).2.f0=del s.f0 (gO q.1):=l1
      rw [if_pos e0'] at step
      have hp':(kG s (gO q.1)).2.f0.Perm (O++(G++R).map rf):=by
        rw [l1']
        have h1:=(aKb h.rise hx).symm.trans hp
        rw [List.cons_append,List.map_cons] at h1
        exact (h1.trans List.perm_middle).cons_inv
      obtain⟨s',i1,i2,i3,i4⟩:=aGt (m:=m) hA G (i+1) (kk+1) (kG s (gO q.1)).2 (acc++[val q.2]) hd' hdl (by omega) on1 hp' (fun x hx=>hG x (List.mem_cons_of_mem _ hx)) hO (by omega) (by rw [List.length_append]; simp; omega)
      have hj:aHe A s p k m acc (i:Int)=aHe A (kG s (gO q.1)).2 p k m (acc++[val q.2]) ((i+1:Nat):Int):=dD step
      refine⟨s',by rw [List.length_cons,show kk+(G.length+1)=kk+1+G.length by omega]; exact i1,Kp.trans kp i2,by rw [i3,l1',aI1 (aAq q.1)],?_⟩
      rw [hj]
      rcases i4 with ⟨a,b,c⟩ | c
      · exact .inl ⟨a,b,by rw [c,List.map_cons,List.append_assoc]; rfl⟩
      · exact .inr c
    · have e9':(kG s (gO q.1)).1=9:=e9
      have l1':(kG s (gO q.1)).2.f0=s.f0:=l1
      rw [if_neg (by rw [e9']; decide),e9'] at step
      exact⟨(kG s (gO q.1)).2,hdl.mono (by rw [List.length_cons]; omega),kp,by rw [l1'],.inr ⟨off1,bJ step⟩⟩
theorem aOn {kk n N:Nat} {s:S58} {G:List (Nat×List S47)} (h:SI kk s) (hk:kk+1000<4611686018427387904) (hon:s.f3=false) (hp:s.f0.Perm (O++(G++R).map rf)) (hO:∀ x∈O,nU x.f0=false)
    (hlt:∀ q∈G++R,q.1<n) (hn:n+(G++R).length≤510) (hl:(G++R).length≤255) (hG0:G≠[]) (z:G.length≤16) (hgd:∀ q∈G++R,Gd4 k q.2∧Srt bef q.2) (hN:tot (G++R)≤N) (hN2:N≤1000) :
    ∃ nm e s' n',mR ⟨s,p,k,(n:Int)⟩ (G.map fun q=>gO q.1)=some (nm,e,⟨s',p,k,((n':Nat):Int)⟩)∧SI (kk+G.length+1) s'∧Kp s s'∧oth s'.f0=oth s.f0 ∧
      ((e=0∧s'.f3=false∧∃ q:Nat×List S47,nm=gO q.1∧s'.f0.Perm (O++(q::R).map rf)∧q.1<n'∧n≤n'∧n'+(q::R).length≤510∧Gd4 k q.2∧Srt bef q.2∧val q.2=sortL bef (G.map fun q=>val q.2).flatten∧q.2.length=tot G) ∨
        (e=10∧s'.f3=false∧aHp s' O N)∨(e=9∧s'.f3=true)):=by
  have hGl:0<G.length:=List.length_pos_iff.2 hG0
  rw [List.length_append] at hn hl
  rw [aEi] at hN
  unfold mR
  by_cases c1:G.length=1
  · obtain⟨q,rfl⟩:∃ q,G=[q]:=List.length_eq_one_iff.1 c1
    rw [if_pos (by simp),show at_ (List.map (fun q:Nat×List S47=>gO q.1) [q]) 0=some (gO q.1) from rfl]
    simp only [Option.bind_some]
    obtain⟨g1,g2⟩:=hgd q (by simp)
    refine⟨_,_,s,n,rfl,h.mono (by omega),Kp.refl s,rfl,.inl ⟨rfl,hon,q,rfl,hp,hlt q (by simp),Nat.le_refl _,by rw [List.length_cons] at hn ⊢; simp only [List.length_nil] at hn; omega,g1,g2,?_,by simp [tot]⟩⟩
    rw [List.map_cons,List.map_nil,List.flatten_cons,List.flatten_nil,List.append_nil]
    exact (iA g2.val).symm
  · rw [if_neg (by rw [List.length_map]; simp; omega)]
    obtain⟨s1,i1,i2,i3,i4⟩:=aGt (A:=G.map fun q=>gO q.1) (p:=p) (m:=(n:Int)) (R:=R) (by rw [List.length_map]; omega) G 0 kk s [] (by rw [List.drop_zero]) h (by omega) hon hp (fun q hq=>⟨by have:=hlt q (List.mem_append.2 (.inl hq)); omega,(hgd q (List.mem_append.2 (.inl hq))).1⟩) hO (Nat.zero_le _) (Nat.le_refl _)
    dsimp only
    rcases i4 with ⟨on1,hp1,hj⟩ | ⟨off1,hj⟩
    · have hj':=hj
      rw [show (((0:Nat):Int))=0 from rfl] at hj'
      unfold aHe at hj'
      rw [hj']
      simp only [Option.bind_some,List.nil_append]
      unfold kY mQ
      have hvl:∀ r∈G.map (fun q=>val q.2),r.length<2 ^ 60:=fun r hr=>by
        obtain⟨q,hq,rfl⟩:=List.mem_map.1 hr
        have:=(hgd q (List.mem_append.2 (.inl hq))).1.len
        rw [aEh]; omega
      have hvo:Ok (G.map fun q=>val q.2):=fun r hr=>by
        obtain⟨q,hq,rfl⟩:=List.mem_map.1 hr
        exact (hgd q (List.mem_append.2 (.inl hq))).2.val
      have hm:rQ (G.map fun q=>val q.2)=some (sortL bef (G.map fun q=>val q.2).flatten,0):=by
        rcases aWa (G.map fun q=>val q.2) hvl (by rw [List.length_map]; omega) (by rw [zN]; omega) with ⟨a,_⟩ | ⟨_,_,a,_⟩ | ⟨_,_,_,a⟩
        · rw [List.length_map] at a; omega
        · exact absurd hvo a
        · exact a
      rw [hm]
      simp only [Option.bind_some]
      rw [if_neg (by simp)]
      have hgv:Gd4 k (sortL bef (G.map fun q=>val q.2).flatten):=by
        refine Gd4.sort ⟨fun e he=>?_,fun e he=>?_,by rw [zN]; omega⟩
        · obtain⟨r,hr,he⟩:=List.mem_flatten.1 he
          obtain⟨q,hq,rfl⟩:=List.mem_map.1 hr
          exact (hgd q (List.mem_append.2 (.inl hq))).1.val.laid e he
        · obtain⟨r,hr,he⟩:=List.mem_flatten.1 he
          obtain⟨q,hq,rfl⟩:=List.mem_map.1 hr
          exact (hgd q (List.mem_append.2 (.inl hq))).1.val.form e he
      obtain⟨e,s2,j1,j2,j3,j4,j5⟩:=aFo (p:=p) i1 (by omega) on1 hp1 hO (fun q hq=>hlt q (List.mem_append.2 (.inr hq))) (by omega) hgv
      rw [show (⟨⟨s1.f0,s1.f1,s1.f2,s1.f3,s1.f4⟩,⟨p.f0,p.f1⟩,k,(n:Int)⟩:S67)=⟨s1,p,k,(n:Int)⟩ from rfl,j1]
      refine⟨_,_,s2,n+1,rfl,j2,Kp.trans i2 j3,by rw [j4,i3],?_⟩
      have hvv:val (sortL bef (G.map fun q=>val q.2).flatten)=sortL bef (G.map fun q=>val q.2).flatten:=by
        rw [← aBn]
        congr 1
        unfold val
        rw [List.map_flatten,List.map_map]
        congr 1
        exact List.map_congr_left fun q _=>aR9 q.2
      rcases j5 with ⟨a,b,c⟩ | ⟨a,b,c⟩ | a
      · refine .inl ⟨a,b,(n,sortL bef (G.map fun q=>val q.2).flatten),rfl,?_,by omega,by omega,by rw [List.length_cons]; omega,hgv,oA bef_swo _,hvv,by rw [aQ,zN]⟩
        refine c.trans ?_
        rw [List.map_append,List.map_cons]
        exact (List.perm_append_singleton _ _).append_left O
      · exact .inr (.inl ⟨a,by rw [b]; exact on1,by rw [b]; exact aK6 hp1 (fun q hq=>(hgd q (List.mem_append.2 (.inr hq))).1) hgv (by rw [aQ,zN]; omega) (by omega) c⟩)
      · exact .inr (.inr a)
    · have hj':=hj
      rw [show (((0:Nat):Int))=0 from rfl] at hj'
      unfold aHe at hj'
      rw [hj']
      exact⟨_,_,s1,n,rfl,i1.mono (by omega),i2,i3,.inr (.inr ⟨rfl,off1⟩)⟩
end
section
variable {σ β τ:Type} {φ:σ→β→Option (σ⊕τ)} {x:β} {xs:List β} {s s':σ} {t:τ}
theorem aNq (h:φ s x=some (.inl s')):oS φ (x::xs) s=oS φ xs s':=by simp only [oS,h]
theorem aEe (h:φ s x=some (.inr t)):oS φ (x::xs) s=some (.inr t):=by simp only [oS,h]
end
def nmR (q:Nat×List S47):List UInt8:=gO q.1
def vf (ids:List (Nat×List S47)):List S47:=(ids.map fun q=>val q.2).flatten
theorem aRw (a b:List (Nat×List S47)):vf (a++b)=vf a++vf b:=by simp [vf]
theorem aLz (q:Nat×List S47):vf [q]=val q.2:=by simp [vf]
structure Rst (k:Int) (O:List S64) (N kk:Nat) (s:S58) (n:Nat) (ids:List (Nat×List S47)):Prop where
  si:SI kk s
  on:s.f3=false
  perm:s.f0.Perm (O++ids.map rf)
  lt:∀ q∈ids,q.1<n
  cnt:n+ids.length≤510
  len:ids.length≤255
  gd:∀ q∈ids,Gd4 k q.2∧Srt bef q.2
  tot:tot ids≤N
def Bad (O:List S64) (N:Nat) (s:S58) (e:Int):Prop:=(e=10∧s.f3=false∧aHp s O N)∨(e=9∧s.f3=true)
section
variable {k:Int} {p:S26} {O:List S64} {N:Nat} (hO:∀ x∈O,nU x.f0=false) (hN:N≤1000)
include hO hN
theorem aHa:∀ (cs:List (List S47)) (done:List (Nat×List S47)) (kk n:Nat) (s:S58),Rst k O N kk s n done→kk+cs.length+1000<4611686018427387904→n+done.length+2 * cs.length≤510→done.length+cs.length≤255 →
    (∀ c∈cs,Gd4 k c)→P.tot done+cs.flatten.length≤N →
    ∃ s' n',SI (kk+cs.length) s'∧Kp s s'∧oth s'.f0=oth s.f0 ∧
      ((∃ ids,oS (fun s l=>fV s.1 s.2.1 s.2.2.1 s.2.2.2.1 s.2.2.2.2.1 s.2.2.2.2.2.1 s.2.2.2.2.2.2.1 s.2.2.2.2.2.2.2.1 s.2.2.2.2.2.2.2.2.1 s.2.2.2.2.2.2.2.2.2 l) cs (s.f0,s.f1,s.f2,s.f3,s.f4,p.f0,p.f1,k,(n:Int),done.map nmR)=some (.inl (s'.f0,s'.f1,s'.f2,s'.f3,s'.f4,p.f0,p.f1,k,((n':Nat):Int),ids.map nmR)) ∧
        Rst k O N (kk+cs.length) s' n' ids∧ids.length=done.length+cs.length∧P.tot ids=P.tot done+cs.flatten.length∧sortL bef (vf ids)=sortL bef (vf done++val cs.flatten)) ∨
       ∃ e,oS (fun s l=>fV s.1 s.2.1 s.2.2.1 s.2.2.2.1 s.2.2.2.2.1 s.2.2.2.2.2.1 s.2.2.2.2.2.2.1 s.2.2.2.2.2.2.2.1 s.2.2.2.2.2.2.2.2.1 s.2.2.2.2.2.2.2.2.2 l) cs (s.f0,s.f1,s.f2,s.f3,s.f4,p.f0,p.f1,k,(n:Int),done.map nmR)=some (.inr (s'.f0,s'.f1,s'.f2,s'.f3,s'.f4,p.f0,p.f1,k,((n':Nat):Int),e))∧Bad O N s' e)
  | [],done,kk,n,s,h,hk,hn,hl,hc,ht=>⟨s,n,h.si,Kp.refl s,rfl,.inl ⟨done,rfl,h,rfl,by simp,by simp [val]⟩⟩
  | c::cs,done,kk,n,s,h,hk,hn,hl,hc,ht=>by
    rw [List.length_cons] at hn hl hk
    rw [List.flatten_cons,List.length_append] at ht
    have hcg:=hc c List.mem_cons_self
    obtain⟨e,s1,j1,j2,j3,j4,j5⟩:=aFo (p:=p) h.si (by omega) h.on h.perm hO h.lt (by omega) hcg.sort
    have hr:fV s.f0 s.f1 s.f2 s.f3 s.f4 p.f0 p.f1 k (n:Int) (done.map nmR) c=if e=0 then some (.inl (s1.f0,s1.f1,s1.f2,s1.f3,s1.f4,p.f0,p.f1,k,((n+1:Nat):Int),(done++[(n,sortL bef c)]).map nmR)) else some (.inr (s1.f0,s1.f1,s1.f2,s1.f3,s1.f4,p.f0,p.f1,k,((n+1:Nat):Int),e)):=by
      unfold fV
      rw [aOs c (by have:=hcg.len; omega)]
      simp only [Option.bind_some]
      rw [show (⟨⟨s.f0,s.f1,s.f2,s.f3,s.f4⟩,⟨p.f0,p.f1⟩,k,(n:Int)⟩:S67)=⟨s,p,k,(n:Int)⟩ from rfl,j1]
      simp only [Option.bind_some]
      by_cases c0:e=0
      · rw [if_neg (by simp [c0]),if_pos c0,bF (by simp only [List.length_map,List.length_cons,List.length_nil]; omega),List.map_append]
        rfl
      · rw [if_pos (by simpa using c0),if_neg c0]
    rcases j5 with ⟨a,b,d⟩ | ⟨a,b,d⟩ | ⟨a,b⟩
    · rw [if_pos a] at hr
      have t1:P.tot (done++[(n,sortL bef c)])=P.tot done+c.length:=by rw [aEi]; simp [P.tot,aQ]
      have h1:Rst k O N (kk+1) s1 (n+1) (done++[(n,sortL bef c)]):=by
        refine⟨j2,b,d,fun q hq=>?_,by rw [List.length_append,List.length_singleton]; omega,by rw [List.length_append,List.length_singleton]; omega,fun q hq=>?_,by rw [t1]; omega⟩
        · rcases List.mem_append.1 hq with hq | hq
          · have:=h.lt q hq; omega
          · cases List.mem_singleton.1 hq; exact Nat.lt_succ_self n
        · rcases List.mem_append.1 hq with hq | hq
          · exact h.gd q hq
          · cases List.mem_singleton.1 hq; exact⟨hcg.sort,oA bef_swo c⟩
      obtain⟨s',n',i1,i2,i3,i4⟩:=aHa cs (done++[(n,sortL bef c)]) (kk+1) (n+1) s1 h1 (by omega) (by rw [List.length_append,List.length_singleton]; omega) (by rw [List.length_append,List.length_singleton]; omega) (fun x hx=>hc x (List.mem_cons_of_mem _ hx)) (by rw [t1]; omega)
      refine⟨s',n',by rw [List.length_cons,show kk+(cs.length+1)=kk+1+cs.length by omega]; exact i1,Kp.trans j3 i2,by rw [i3,j4],?_⟩
      rw [aNq hr]
      rcases i4 with ⟨ids,f1,f2,f3,f4,f5⟩ | ⟨e,f1,f2⟩
      · refine .inl ⟨ids,f1,by rw [List.length_cons,show kk+(cs.length+1)=kk+1+cs.length by omega]; exact f2,by rw [f3,List.length_append,List.length_singleton,List.length_cons]; omega,by rw [f4,t1,List.flatten_cons,List.length_append]; omega,?_⟩
        rw [f5,aRw,aLz,List.flatten_cons,aT8, ← List.append_assoc]
        refine yM bef_swo (yM bef_swo rfl ?_) rfl
        show sortL bef (val (sortL bef c))=_
        rw [← aBn,aDh bef_swo]
      · exact .inr ⟨e,f1,f2⟩
    · rw [if_neg (by rw [a]; decide)] at hr
      refine⟨s1,n+1,j2.mono (by rw [List.length_cons]; omega),j3,j4,.inr ⟨e,aEe hr,.inl ⟨a,by rw [b]; exact h.on,?_⟩⟩⟩
      rw [b]
      exact aK6 h.perm (fun q hq=>(h.gd q hq).1) hcg.sort (by rw [aQ]; omega) (by omega) d
    · rw [if_neg (by rw [a]; decide)] at hr
      exact⟨s1,n+1,j2.mono (by rw [List.length_cons]; omega),j3,j4,.inr ⟨e,aEe hr,.inr ⟨a,b⟩⟩⟩
theorem aG6:∀ (gs:List (List (Nat×List S47))) (done:List (Nat×List S47)) (kk n:Nat) (s:S58),Rst k O N kk s n (done++gs.flatten)→kk+17 * gs.length+1000<4611686018427387904→(∀ g∈gs,g≠[]∧g.length≤16) →
    ∃ s' n',SI (kk+17 * gs.length) s'∧Kp s s'∧oth s'.f0=oth s.f0 ∧
      ((∃ ids,oS (fun s l=>eX s.1 s.2.1 s.2.2.1 s.2.2.2.1 s.2.2.2.2.1 s.2.2.2.2.2.1 s.2.2.2.2.2.2.1 s.2.2.2.2.2.2.2.1 s.2.2.2.2.2.2.2.2.1 s.2.2.2.2.2.2.2.2.2 l) (gs.map (List.map nmR)) (s.f0,s.f1,s.f2,s.f3,s.f4,p.f0,p.f1,k,(n:Int),done.map nmR)=some (.inl (s'.f0,s'.f1,s'.f2,s'.f3,s'.f4,p.f0,p.f1,k,((n':Nat):Int),ids.map nmR)) ∧
        Rst k O N (kk+17 * gs.length) s' n' ids∧ids.length=done.length+gs.length∧sortL bef (vf ids)=sortL bef (vf (done++gs.flatten))) ∨
       ∃ e,oS (fun s l=>eX s.1 s.2.1 s.2.2.1 s.2.2.2.1 s.2.2.2.2.1 s.2.2.2.2.2.1 s.2.2.2.2.2.2.1 s.2.2.2.2.2.2.2.1 s.2.2.2.2.2.2.2.2.1 s.2.2.2.2.2.2.2.2.2 l) (gs.map (List.map nmR)) (s.f0,s.f1,s.f2,s.f3,s.f4,p.f0,p.f1,k,(n:Int),done.map nmR)=some (.inr (s'.f0,s'.f1,s'.f2,s'.f3,s'.f4,p.f0,p.f1,k,((n':Nat):Int),e))∧Bad O N s' e)
  | [],done,kk,n,s,h,hk,hg=>by
    rw [List.flatten_nil,List.append_nil] at h
    exact⟨s,n,h.si,Kp.refl s,rfl,.inl ⟨done,rfl,h,rfl,by rw [List.flatten_nil,List.append_nil]⟩⟩
  | g::gs,done,kk,n,s,h,hk,hg=>by
    rw [List.length_cons] at hk
    obtain⟨g0,C⟩:=hg g List.mem_cons_self
    rw [List.flatten_cons] at h
    have hpm:(done++(g++gs.flatten)).Perm (g++(done++gs.flatten)):=by
      rw [← List.append_assoc, ← List.append_assoc]
      exact List.perm_append_comm.append_right _
    have hmem:∀ q∈g++(done++gs.flatten),q∈done++(g++gs.flatten):=fun q hq=>hpm.mem_iff.2 hq
    have htt:P.tot (g++(done++gs.flatten))=P.tot (done++(g++gs.flatten)):=by simp only [aEi]; omega
    obtain⟨nm,e,s1,n1,j1,j2,j3,j4,j5⟩:=aOn (p:=p) h.si (by omega) h.on (h.perm.trans ((hpm.map rf).append_left O)) hO (fun q hq=>h.lt q (hmem q hq)) (by rw [← hpm.length_eq]; exact h.cnt) (by rw [← hpm.length_eq]; exact h.len) g0 C (fun q hq=>h.gd q (hmem q hq)) (by rw [htt]; exact h.tot) hN
    have hr:eX s.f0 s.f1 s.f2 s.f3 s.f4 p.f0 p.f1 k (n:Int) (done.map nmR) (g.map nmR)=if e=0 then some (.inl (s1.f0,s1.f1,s1.f2,s1.f3,s1.f4,p.f0,p.f1,k,((n1:Nat):Int),done.map nmR++[nm])) else some (.inr (s1.f0,s1.f1,s1.f2,s1.f3,s1.f4,p.f0,p.f1,k,((n1:Nat):Int),e)):=by
      have hdl:done.length≤255:=by have:=h.len; rw [List.length_append] at this; omega
      unfold eX
      rw [show (⟨⟨s.f0,s.f1,s.f2,s.f3,s.f4⟩,⟨p.f0,p.f1⟩,k,(n:Int)⟩:S67)=⟨s,p,k,(n:Int)⟩ from rfl,show g.map nmR=g.map (fun q=>gO q.1) from rfl,j1]
      simp only [Option.bind_some]
      by_cases c0:e=0
      · rw [if_neg (by simp [c0]),if_pos c0,bF (by simp only [List.length_map,List.length_cons,List.length_nil]; omega)]
      · rw [if_pos (by simpa using c0),if_neg c0]
    rw [List.map_cons]
    rcases j5 with ⟨a,b,q,q1,q2,q3,q4,q5,q6,q7,q8,q9⟩ | ⟨a,b,d⟩ | ⟨a,b⟩
    · rw [if_pos a] at hr
      have hpm2:(q::(done++gs.flatten)).Perm ((done++[q])++gs.flatten):=by
        rw [List.append_assoc,List.singleton_append]
        exact List.perm_middle.symm
      have h1:Rst k O N (kk+17) s1 n1 ((done++[q])++gs.flatten):=by
        refine⟨j2.mono (by omega),b,q2.trans ((hpm2.map rf).append_left O),fun z hz=>?_,by rw [← hpm2.length_eq]; exact q5,?_,fun z hz=>?_,?_⟩
        · rcases List.mem_cons.1 (hpm2.mem_iff.2 hz) with rfl | hz
          · exact q3
          · have:=h.lt z (hmem z (List.mem_append.2 (.inr hz))); omega
        · have h2:=h.len
          have h3:0<g.length:=List.length_pos_iff.2 g0
          simp only [List.length_append,List.length_singleton] at h2 ⊢
          omega
        · rcases List.mem_cons.1 (hpm2.mem_iff.2 hz) with rfl | hz
          · exact⟨q6,q7⟩
          · exact h.gd z (hmem z (List.mem_append.2 (.inr hz)))
        · have h2:=h.tot
          simp only [aEi] at h2 ⊢
          have:P.tot [q]=q.2.length:=by simp [P.tot]
          omega
      obtain⟨s',n',i1,i2,i3,i4⟩:=aG6 gs (done++[q]) (kk+17) n1 s1 h1 (by omega) fun x hx=>hg x (List.mem_cons_of_mem _ hx)
      rw [show kk+17+17 * gs.length=kk+17 * (g::gs).length by rw [List.length_cons]; omega] at i1 i4
      refine⟨s',n',i1,Kp.trans j3 i2,by rw [i3,j4],?_⟩
      rw [aNq hr,q1,show done.map nmR++[gO q.1]=(done++[q]).map nmR from by rw [List.map_append]; rfl]
      rcases i4 with ⟨ids,f1,f2,f3,f5⟩ | ⟨e,f1,f2⟩
      · refine .inl ⟨ids,f1,f2,by rw [f3,List.length_append,List.length_singleton,List.length_cons]; omega,?_⟩
        rw [f5,List.flatten_cons]
        simp only [aRw,aLz,List.append_assoc]
        refine yM bef_swo rfl (yM bef_swo ?_ rfl)
        rw [q8,aDh bef_swo]
        rfl
      · exact .inr ⟨e,f1,f2⟩
    · rw [if_neg (by rw [a]; decide)] at hr
      exact⟨s1,n1,j2.mono (by rw [List.length_cons]; omega),j3,j4,.inr ⟨e,aEe hr,.inl ⟨a,b,d⟩⟩⟩
    · rw [if_neg (by rw [a]; decide)] at hr
      exact⟨s1,n1,j2.mono (by rw [List.length_cons]; omega),j3,j4,.inr ⟨e,aEe hr,.inr ⟨a,b⟩⟩⟩
end
theorem aSs {α β:Type} {q:Nat} (g:α→β) (xs:List α):pcs q (xs.map g)=(pcs q xs).map (List.map g):=by
  unfold pcs
  rw [List.length_map,List.map_map]
  refine List.map_congr_left fun k _=>?_
  show ((xs.map g).drop (k * q)).take q=((xs.drop (k * q)).take q).map g
  rw [List.map_take,List.map_drop]
inductive Ps (f:Nat):Nat→Nat→Prop
  | one {m:Nat} (h:m≤1):Ps f m 0
  | more {m t:Nat} (h:1<m) (ht:Ps f ((m+f - 1) / f) t):Ps f m (t+1)
theorem Ps.uniq {f m t t':Nat} (h:Ps f m t):Ps f m t'→t=t':=by
  induction h generalizing t' with
  | one h1 =>
    intro h'
    cases h' with
    | one _=>rfl
    | more h2 _=>omega
  | more h1 _ ih =>
    intro h'
    cases h' with
    | one h2=>omega
    | more _ h3=>rw [ih h3]
theorem aTm {m f:Nat} (hm:1<m) (hf:2≤f):(m+f - 1) / f<m∧51 * ((m+f - 1) / f)≤34 * m∧0<(m+f - 1) / f:=by
  have h1:(m+f - 1) / f≤(m+1) / 2:=by
    rw [Nat.le_div_iff_mul_le (by omega)]
    have h3:=Nat.div_mul_le_self (m+f - 1) f
    generalize (m+f - 1) / f=c at *
    by_cases hc:c≤1
    · omega
    · obtain⟨d,rfl⟩:∃ d,c=d+1:=⟨c - 1,by omega⟩
      have h4:d * 2≤d * f:=Nat.mul_le_mul_left d hf
      rw [Nat.add_mul,Nat.one_mul] at h3
      omega
  have h2:0<(m+f - 1) / f:=Nat.div_pos (by omega) (by omega)
  omega
section
variable {k:Int} {p:S26} {O:List S64} {N f:Nat} (hO:∀ x∈O,nU x.f0=false) (hN:N≤1000) (hf:p.f1=(f:Int)) (hf2:2≤f∧f≤16)
include hO hN hf hf2
theorem aK1:∀ (m:Nat) (ids:List (Nat×List S47)) (kk n x:Nat) (s:S58),ids.length=m→Rst k O N kk s n ids→kk+34 * m+2000<4611686018427387904→x+m≤1000 →
    ∃ s' n',SI (kk+34 * m) s'∧Kp s s'∧oth s'.f0=oth s.f0 ∧
      ((∃ ids' t,loop (fun s=>cL s.1 s.2.1 s.2.2.1 s.2.2.2.1 s.2.2.2.2.1 s.2.2.2.2.2.1 s.2.2.2.2.2.2.1 s.2.2.2.2.2.2.2.1 s.2.2.2.2.2.2.2.2.1 s.2.2.2.2.2.2.2.2.2.1 s.2.2.2.2.2.2.2.2.2.2) (s.f0,s.f1,s.f2,s.f3,s.f4,p.f0,p.f1,k,(n:Int),ids.map nmR,(x:Int))=some (.inl (s'.f0,s'.f1,s'.f2,s'.f3,s'.f4,p.f0,p.f1,k,((n':Nat):Int),ids'.map nmR,((x+t:Nat):Int))) ∧
        Rst k O N (kk+34 * m) s' n' ids'∧ids'.length=min m 1∧Ps f m t∧sortL bef (vf ids')=sortL bef (vf ids)) ∨
       ∃ e,loop (fun s=>cL s.1 s.2.1 s.2.2.1 s.2.2.2.1 s.2.2.2.2.1 s.2.2.2.2.2.1 s.2.2.2.2.2.2.1 s.2.2.2.2.2.2.2.1 s.2.2.2.2.2.2.2.2.1 s.2.2.2.2.2.2.2.2.2.1 s.2.2.2.2.2.2.2.2.2.2) (s.f0,s.f1,s.f2,s.f3,s.f4,p.f0,p.f1,k,(n:Int),ids.map nmR,(x:Int))=some (.inr ([],0,0,e,⟨s',p,k,((n':Nat):Int)⟩))∧Bad O N s' e):=by
  intro m
  induction m using Nat.strongRecOn with
  | _ m ih =>
    intro ids kk n x s hm h hk hx
    have hl:=h.len
    by_cases c:1<m
    · obtain⟨c1,c2,c3⟩:=aTm c hf2.1
      have hgl:(pcs f ids).length=(m+f - 1) / f:=by rw [aEm,hm]
      obtain⟨s1,n1,i1,i2,i3,i4⟩:=aG6 (p:=p) hO hN (pcs f ids) [] kk n s (by rw [List.nil_append,uG (by omega)]; exact h) (by rw [hgl]; omega) fun g hg=>by
        obtain⟨a,b,_⟩:=aEp (by omega) ids g hg
        exact⟨a,by omega⟩
      have hr:∀ o,oS (fun s l=>eX s.1 s.2.1 s.2.2.1 s.2.2.2.1 s.2.2.2.2.1 s.2.2.2.2.2.1 s.2.2.2.2.2.2.1 s.2.2.2.2.2.2.2.1 s.2.2.2.2.2.2.2.2.1 s.2.2.2.2.2.2.2.2.2 l) ((pcs f ids).map (List.map nmR)) (s.f0,s.f1,s.f2,s.f3,s.f4,p.f0,p.f1,k,(n:Int),([]:List (Nat×List S47)).map nmR)=some o →
          cL s.f0 s.f1 s.f2 s.f3 s.f4 p.f0 p.f1 k (n:Int) (ids.map nmR) (x:Int)=match o with | .inl t=>iY (x:Int) t.1 t.2.1 t.2.2.1 t.2.2.2.1 t.2.2.2.2.1 t.2.2.2.2.2.1 t.2.2.2.2.2.2.1 t.2.2.2.2.2.2.2.1 t.2.2.2.2.2.2.2.2.1 t.2.2.2.2.2.2.2.2.2 | .inr t=>jB t.1 t.2.1 t.2.2.1 t.2.2.2.1 t.2.2.2.2.1 t.2.2.2.2.2.1 t.2.2.2.2.2.2.1 t.2.2.2.2.2.2.2.1 t.2.2.2.2.2.2.2.2.1 t.2.2.2.2.2.2.2.2.2:=by
        intro o ho
        unfold cL
        rw [if_pos (by rw [List.length_map]; simp only [decide_eq_true_eq]; omega),bF (by omega),bF ⟨by rw [List.length_map]; omega,by omega,by omega⟩,show p.f1.toNat=f from by omega,aSs]
        have ho':=ho
        rw [List.map_nil] at ho'
        rw [ho']
        rfl
      rcases i4 with ⟨ids1,f1,f2,f3,f5⟩ | ⟨e,f1,f2⟩
      · have hs:=hr _ f1
        dsimp only at hs
        unfold iY at hs
        rw [lt_,w64 (by omega) (by omega),show ((x:Int)+1)=((x+1:Nat):Int) from rfl] at hs
        rw [hgl] at f2 i1
        rw [hgl,List.length_nil,Nat.zero_add] at f3
        obtain⟨s',n',j1,j2,j3,j4⟩:=ih _ c1 ids1 _ n1 (x+1) s1 f3 f2 (by omega) (by omega)
        refine⟨s',n',j1.mono (by omega),Kp.trans i2 j2,by rw [j3,i3],?_⟩
        rw [dD (b:=fun s:List S64×Int×Int×Bool×Int×Int×Int×Int×Int×List (List UInt8)×Int=>cL s.1 s.2.1 s.2.2.1 s.2.2.2.1 s.2.2.2.2.1 s.2.2.2.2.2.1 s.2.2.2.2.2.2.1 s.2.2.2.2.2.2.2.1 s.2.2.2.2.2.2.2.2.1 s.2.2.2.2.2.2.2.2.2.1 s.2.2.2.2.2.2.2.2.2.2) hs]
        rcases j4 with ⟨ids',t,g1,g2,g3,g4,g5⟩ | ⟨e,g1,g2⟩
        · refine .inl ⟨ids',t+1,by rw [g1,show x+1+t=x+(t+1) by omega],⟨g2.si.mono (by omega),g2.on,g2.perm,g2.lt,g2.cnt,g2.len,g2.gd,g2.tot⟩,by rw [g3]; omega,.more c g4,?_⟩
          rw [g5,f5,List.nil_append,uG (by omega)]
        · exact .inr ⟨e,g1,g2⟩
      · have hs:=hr _ f1
        dsimp only at hs
        unfold jB at hs
        exact⟨s1,n1,i1.mono (by rw [hgl]; omega),i2,i3,.inr ⟨e,bJ (b:=fun s:List S64×Int×Int×Bool×Int×Int×Int×Int×Int×List (List UInt8)×Int=>cL s.1 s.2.1 s.2.2.1 s.2.2.2.1 s.2.2.2.2.1 s.2.2.2.2.2.1 s.2.2.2.2.2.2.1 s.2.2.2.2.2.2.2.1 s.2.2.2.2.2.2.2.2.1 s.2.2.2.2.2.2.2.2.2.1 s.2.2.2.2.2.2.2.2.2.2) hs,f2⟩⟩
    · refine⟨s,n,h.si.mono (by omega),Kp.refl s,rfl,.inl ⟨ids,0,bJ ?_,⟨h.si.mono (by omega),h.on,h.perm,h.lt,h.cnt,h.len,h.gd,h.tot⟩,by omega,.one (by omega),rfl⟩⟩
      show cL s.f0 s.f1 s.f2 s.f3 s.f4 p.f0 p.f1 k (n:Int) (ids.map nmR) (x:Int)=_
      unfold cL
      rw [if_neg (by rw [List.length_map]; simp only [decide_eq_true_eq]; omega)]
      rfl
end
theorem aWj (l:List S64):∀ x∈oth l,nU x.f0=false:=fun x hx=>by
  have:=(List.mem_filter.1 hx).2
  simpa using this
theorem aO8 {l O:List S64} (hO:∀ x∈O,nU x.f0=false) (hp:l.Perm O):oth l=l:=aNj fun x hx=>hO x (hp.mem_iff.1 hx)
theorem aOd {kk h f:Nat} {k:Int} {p:S26} {s:S58} {l:List S47} (hs:SI kk s) (hk:kk+20000<4611686018427387904) (hon:s.f3=false) (hh:p.f0=(h:Int)) (hh1:1≤h∧h≤4096) (hf:p.f1=(f:Int)) (hf2:2≤f∧f≤16) (hg:Gd4 k l) (hl:l.length≤255) :
    ∃ out runs ps e s' n',mW ⟨s,p,k,0⟩ l=some (out,runs,ps,e,⟨s',p,k,n'⟩)∧SI (kk+10000) s'∧Kp s s'∧oth s'.f0=oth s.f0 ∧
      ((e=0∧s'.f3=false∧s'.f0=oth s.f0∧out=val (sortL bef l)∧runs=(((l.length+h - 1) / h:Nat):Int)∧∃ t,Ps f ((l.length+h - 1) / h) t∧ps=(t:Int))∨Bad (oth s.f0) l.length s' e):=by
  have hO:=aWj s.f0
  obtain⟨e1,s1,c1,c2,c3,c4,c5⟩:=aE5 hs (by omega) hon
  unfold mW
  dsimp only
  rw [c1]
  simp only [Option.bind_some]
  rcases c5 with ⟨a,b,d⟩ | ⟨a,b⟩
  · rw [if_neg (by simp [a]),hh,bF (by omega),bF ⟨by omega,by omega,by omega⟩,show ((h:Int)).toNat=h from rfl]
    have hcl:(pcs h l).length=(l.length+h - 1) / h:=aEm
    have hle:(l.length+h - 1) / h≤l.length:=by
      rcases Nat.eq_zero_or_pos l.length with q | q
      · rw [q,Nat.div_eq_of_lt (by omega)]; exact Nat.le_refl 0
      · refine Nat.div_le_of_le_mul ?_
        obtain⟨d,hd⟩:∃ d,h=d+1:=⟨h - 1,by omega⟩
        obtain⟨z,hz⟩:∃ z,l.length=z+1:=⟨l.length - 1,by omega⟩
        rw [hd,hz]
        have:=Nat.zero_le (d * z)
        have e2:(d+1) * (z+1)=d * z+d+z+1:=by rw [Nat.add_mul,Nat.mul_add]; omega
        omega
    have R0:Rst k (oth s.f0) l.length (kk+500) s1 0 []:=⟨c2,b,by rw [d]; simp,fun q hq=>(by cases hq),by simp,by simp,fun q hq=>(by cases hq),Nat.zero_le _⟩
    obtain⟨s2,n2,i1,i2,i3,i4⟩:=aHa (p:=p) hO (by omega) (pcs h l) [] (kk+500) 0 s1 R0 (by rw [hcl]; omega) (by rw [hcl]; simp only [List.length_nil]; omega) (by rw [hcl]; simp only [List.length_nil]; omega) (fun c hc=>by
      obtain⟨_,q2,q3⟩:=aEp hh1.1 l c hc
      have:c.length≤l.length:=by
        have:=uG hh1.1 l
        have h2:c.length≤(pcs h l).flatten.length:=(List.sublist_flatten_of_mem hc).length_le
        rwa [this] at h2
      exact hg.sub q3 (by omega)) (by rw [uG hh1.1]; simp [P.tot])
    rw [hh] at i4
    have e0:((0:Nat):Int)=0:=rfl
    rw [e0,List.map_nil] at i4
    rcases i4 with ⟨ids,f1,f2,f3,f4,f5⟩ | ⟨e,f1,f2⟩
    · rw [f1]
      simp only [Option.bind_some]
      unfold lM
      rw [hcl,List.length_nil,Nat.zero_add] at f3
      obtain⟨s3,n3,j1,j2,j3,j4⟩:=aK1 (p:=p) hO (by omega) hf hf2 ids.length ids _ n2 0 s2 rfl f2 (by rw [hcl]; omega) (by omega)
      rw [hh,e0] at j4
      rcases j4 with ⟨ids',t,g1,g2,g3,g4,g5⟩ | ⟨e,g1,g2⟩
      · rw [g1]
        simp only [Option.bind_some]
        unfold kV mN
        rw [f3] at g3 g4
        have hall:sortL bef (vf ids')=val (sortL bef l):=by
          rw [g5,f5, ← aBn,uG hh1.1]; rfl
        by_cases z:ids.length=0
        · rw [if_pos (by rw [List.length_map,z]; rfl)]
          have hz:l.length=0:=by
            rw [f3] at z
            rcases Nat.eq_zero_or_pos l.length with q | q
            · exact q
            · have:=Nat.div_pos (show h≤l.length+h - 1 by omega) (by omega); omega
          rw [z] at f3
          have hi0:ids'=[]:=by
            rw [← f3] at g3; exact List.length_eq_zero_iff.1 (by simpa using g3)
          have ht0:t=0:=by
            rw [← f3] at g4
            exact g4.uniq (.one (by omega))
          have hp:=g2.perm
          rw [hi0,List.map_nil,List.append_nil] at hp
          refine⟨_,_,_,_,s3,_,by rw [show (⟨⟨s3.f0,s3.f1,s3.f2,s3.f3,s3.f4⟩,⟨(h:Int),p.f1⟩,k,(n3:Int)⟩:S67)=⟨s3,p,k,(n3:Int)⟩ from by rw [← hh]]; rfl,j1.mono (by rw [hcl]; omega),Kp.trans c3 (Kp.trans i2 j2),by rw [j3,i3,c4],.inl ⟨rfl,g2.on,?_,?_,by rw [← f3,e0],0,by rw [← f3]; exact .one (by omega),rfl⟩⟩
          · rw [← aO8 hO hp,j3,i3,c4]
          · rw [List.length_eq_zero_iff.1 hz]; rfl
        · rw [if_neg (by rw [List.length_map]; simp; exact fun q=>z (by simp [q]))]
          have hi1:ids'.length=1:=by rw [g3, ← f3]; omega
          obtain⟨q,rfl⟩:∃ q,ids'=[q]:=List.length_eq_one_iff.1 hi1
          rw [show at_ (List.map nmR [q]) 0=some (gO q.1) from rfl]
          simp only [Option.bind_some]
          obtain⟨q1,q2⟩:=g2.gd q (by simp)
          have hq6:q.1<600:=by have:=g2.lt q (by simp); have:=g2.cnt; omega
          have hx:=aMt g2.si g2.perm (q:=q) (by simp)
          have hfe:=aK2 (p:=p) g2.si (by rw [hcl]; omega) g2.on hq6 hx q1 (n3:Int)
          rw [show (⟨⟨s3.f0,s3.f1,s3.f2,s3.f3,s3.f4⟩,⟨(h:Int),p.f1⟩,k,(n3:Int)⟩:S67)=⟨s3,p,k,(n3:Int)⟩ from by rw [← hh],hfe]
          simp only [Option.bind_some]
          have hdl:=g2.si.del (n:=gO q.1)
          obtain⟨kp,hc⟩:=aGc g2.si g2.on hx fun x=>del s3.f0 (gO q.1)
          have hv:q.2.map mB=val (sortL bef l):=by
            rw [← hall,aLz]
            exact (iA q2.val).symm
          rcases hc with ⟨y0,on1,l1⟩ | ⟨y9,off1,l1⟩
          · have y0':(kG s3 (gO q.1)).1=0:=y0
            have l1':(kG s3 (gO q.1)).2.f0=del s3.f0 (gO q.1):=l1
            have ho:oth (kG s3 (gO q.1)).2.f0=oth s.f0:=by rw [l1',aI1 (aAq q.1),j3,i3,c4]
            refine⟨_,_,_,_,_,_,rfl,hdl.mono (by rw [hcl]; omega),Kp.trans c3 (Kp.trans i2 (Kp.trans j2 kp)),ho,.inl ⟨y0',on1,?_,hv,by rw [List.length_map,f3],t,g4,by rw [Nat.zero_add]⟩⟩
            have hp:=(aKb g2.si.rise hx).symm.trans g2.perm
            rw [List.map_cons,List.map_nil] at hp
            have hp2:(kG s3 (gO q.1)).2.f0.Perm (oth s.f0):=by
              rw [l1']
              have:=(hp.trans (List.perm_append_singleton _ _)).cons_inv
              exact this
            rw [← aO8 hO hp2,ho]
          · have y9':(kG s3 (gO q.1)).1=9:=y9
            have l1':(kG s3 (gO q.1)).2.f0=s3.f0:=l1
            exact⟨_,_,_,_,_,_,rfl,hdl.mono (by rw [hcl]; omega),Kp.trans c3 (Kp.trans i2 (Kp.trans j2 kp)),by rw [l1',j3,i3,c4],.inr (.inr ⟨y9',off1⟩)⟩
      · rw [g1]
        exact⟨_,_,_,_,s3,_,rfl,j1.mono (by rw [hcl]; omega),Kp.trans c3 (Kp.trans i2 j2),by rw [j3,i3,c4],.inr g2⟩
    · rw [f1]
      simp only [Option.bind_some]
      unfold lT
      exact⟨_,_,_,_,s2,_,by rw [show (⟨⟨s2.f0,s2.f1,s2.f2,s2.f3,s2.f4⟩,⟨(h:Int),p.f1⟩,k,(n2:Int)⟩:S67)=⟨s2,p,k,(n2:Int)⟩ from by rw [← hh]],i1.mono (by rw [hcl]; omega),Kp.trans c3 i2,by rw [i3,c4],.inr f2⟩
  · rw [if_pos (by rw [a]; decide)]
    exact⟨_,_,_,_,s1,_,rfl,c2.mono (by omega),c3,c4,.inr (.inr ⟨a,b⟩)⟩
def aG3 (p:S26):Bool:=decide (1≤p.f0)&&(decide (p.f0≤4096)&&(decide (2≤p.f1)&&decide (p.f1≤16)))
theorem aN5 (p:S26):mS p=some (aG3 p):=by
  unfold mS aG3
  cases decide (1≤p.f0) <;> cases decide (p.f0≤4096) <;> cases decide (2≤p.f1) <;> rfl
theorem aQs (s:S58) (l:List S47) (k:Int) (p:S26):lZ (some s) l k p=kT l k p s (!aG3 p||(decide (k<1)||decide (8<k))):=by
  unfold lZ
  dsimp only
  rw [aN5]
  simp only [Option.bind_some]
  cases aG3 p <;> cases decide (k<1) <;> rfl
theorem aLt {l:List S47} (hl:l.length≤1000) (s:S58) (k:Int) (hf:∀ e∈l,jM e k=true):loop (fun q=>gX l k s q) (0:Int)=some (.inl ()):=by
  have h:=jC (b:=fun q:Int=>gX l k s q) (fun i=>(i:Int)) (t:=.inl ()) l.length (fun i hi=>by
    have hx:=List.getElem?_eq_getElem hi
    show gX l k s (i:Int)=_
    unfold gX
    rw [if_pos (by simp only [decide_eq_true_eq]; omega),aI rfl hx]
    simp only [Option.bind_some]
    rw [aJd]
    simp only [Option.bind_some]
    rw [hf _ (List.getElem_mem hi),if_neg (by simp),lt_,w64 (by omega) (by omega)]
    rfl) (by
    show gX l k s (l.length:Int)=_
    unfold gX
    rw [if_neg (by simp)])
  exact h
theorem aN9 {kk h f:Nat} {k:Int} {p:S26} {s:S58} {l:List S47} (hs:SI kk s) (hk:kk+30000<4611686018427387904) (hon:s.f3=false) (hh:p.f0=(h:Int)) (hh1:1≤h∧h≤4096) (hf:p.f1=(f:Int)) (hf2:2≤f∧f≤16) (hk8:1≤k∧k≤8) (hg:Gd4 k l) (hl:l.length≤255) :
    ∃ out runs ps e s',lZ (some s) l k p=some (out,runs,ps,e,some s')∧SI (kk+20000) s'∧Kp s s'∧oth s'.f0=oth s.f0 ∧
      ((e=0∧s'.f3=false∧s'.f0=oth s.f0∧out=val (sortL bef l)∧runs=(((l.length+h - 1) / h:Nat):Int)∧∃ t,Ps f ((l.length+h - 1) / h) t∧ps=(t:Int)) ∨
       (e=10∧out=[]∧aHp s (oth s.f0) l.length∧((s'.f3=false∧s'.f0=oth s.f0)∨s'.f3=true))∨(e=9∧out=[]∧s'.f3=true)):=by
  have hpl:aG3 p=true:=by
    unfold aG3
    simp only [Bool.and_eq_true,decide_eq_true_eq]
    omega
  rw [aQs,hpl,show (!true||(decide (k<1)||decide (8<k)))=false from by simp; omega]
  unfold kT
  rw [if_neg (by simp)]
  rw [aLt (by omega) s k hg.form]
  simp only [Option.bind_some]
  unfold pS tA
  obtain⟨out,runs,ps,e,s1,n1,i0,i1,i2,i3,i4⟩:=aOd hs (by omega) hon hh hh1 hf hf2 hg hl
  rw [i0]
  simp only [Option.bind_some]
  rcases i4 with ⟨a,b,d,o,r,t⟩ | ⟨a,b,d⟩ | ⟨a,b⟩
  · rw [if_neg (by simp [a])]
    exact⟨out,runs,ps,0,s1,rfl,i1.mono (by omega),i2,i3,.inl ⟨rfl,b,d,o,r,t⟩⟩
  · rw [if_pos (by rw [a]; decide),if_pos (by rw [a]; decide)]
    obtain⟨e2,s2,c1,c2,c3,c4,c5⟩:=aE5 i1 (by omega) b
    rw [c1]
    simp only [Option.bind_some]
    have hsh:aHp s (oth s.f0) l.length:=by
      unfold aHp at d ⊢
      rw [← i2.1]
      exact d
    refine⟨[],0,0,e,s2,rfl,c2.mono (by omega),Kp.trans i2 c3,by rw [c4,i3],.inr (.inl ⟨a,rfl,hsh,?_⟩)⟩
    rcases c5 with ⟨_,q1,q2⟩ | ⟨_,q⟩
    · exact .inl ⟨q1,by rw [q2,i3]⟩
    · exact .inr q
  · rw [if_pos (by rw [a]; decide),if_neg (by rw [a]; decide)]
    exact⟨[],0,0,e,s1,rfl,i1.mono (by omega),i2,i3,.inr (.inr ⟨a,rfl,b⟩)⟩
theorem aI4 {kk h f:Nat} {k:Int} {p:S26} {s:S58} {l:List S47} (hs:SI kk s) (hk:kk+30000<4611686018427387904) (hon:s.f3=false) (h2:s.f2=0) (hh:p.f0=(h:Int)) (hh1:1≤h∧h≤4096) (hf:p.f1=(f:Int)) (hf2:2≤f∧f≤16) (hk8:1≤k∧k≤8) (hg:Gd4 k l) (hl:l.length≤255)
    (hr:(mK (oth s.f0)+216 * l.length:Nat)≤s.f1) (hO:(oth s.f0).length<245) :
    ∃ s' t,lZ (some s) l k p=some (val (sortL bef l),(((l.length+h - 1) / h:Nat):Int),((t:Nat):Int),0,some s')∧SI (kk+20000) s'∧s'.f1=s.f1∧s'.f2=0∧s'.f3=false∧s'.f0=oth s.f0∧Ps f ((l.length+h - 1) / h) t:=by
  obtain⟨out,runs,ps,e,s',i0,i1,i2,i3,i4⟩:=aN9 hs hk hon hh hh1 hf hf2 hk8 hg hl
  rcases i4 with ⟨a,b,d,o,r,t,t1,t2⟩ | ⟨a,b,d,_⟩ | ⟨a,b,d⟩
  · exact⟨s',t,by rw [i0,a,o,r,t2],i1,i2.1,(i2.2 h2 hon).1,b,d,t1⟩
  · rcases d with d | d <;> omega
  · exact absurd d (by rw [(i2.2 h2 hon).2]; decide)
def xF (l:List S47):List S47:=(l.take 200).filter fun e=>jM e 8
theorem aKs {l:List S47} {k:Nat} (hk:k<l.length) (h:k<200):jY l ((l.take k).filter fun e=>jM e 8) (k:Int)=some (.inl ((l.take (k+1)).filter fun e=>jM e 8,((k+1:Nat):Int))):=by
  have hx:=List.getElem?_eq_getElem hk
  have hfl:((l.take k).filter fun e=>jM e 8).length≤200:=Nat.le_trans (List.length_filter_le _ _) (by rw [List.length_take]; omega)
  have e:(l.take (k+1)).filter (fun e=>jM e 8)=(l.take k).filter (fun e=>jM e 8)++(if jM l[k] 8=true then [l[k]] else []):=by
    rw [List.take_add_one,hx,List.filter_append]
    congr 1
    cases c:jM l[k] 8 <;> simp [c]
  rw [e]
  generalize (l.take k).filter (fun e=>jM e 8)=acc at hfl
  have hb2:∀ a:List S47,nZ (k:Int) a=some (.inl (a,((k+1:Nat):Int))):=fun a=>by
    unfold nZ
    rw [lt_,w64 (by omega) (by omega)]
    rfl
  unfold jY
  rw [if_pos (by simp only [decide_eq_true_eq]; omega)]
  unfold mF
  rw [if_pos (by simp only [decide_eq_true_eq]; omega),aI rfl hx]
  simp only [Option.bind_some]
  rw [aP4]
  simp only [Option.bind_some]
  by_cases c:jM l[k] 8=true
  · rw [if_pos c,if_pos c,bF (by simp only [List.length_singleton]; omega),hb2]
  · rw [if_neg c,if_neg c,hb2,List.append_nil]
theorem aOl (l:List S47):wK l=some (xF l):=by
  unfold wK
  have h:=jC (b:=fun s:List S47×Int=>jY l s.1 s.2) (fun k=>((l.take k).filter fun e=>jM e 8,(k:Int))) (t:=xF l) (min l.length 200) (fun k hk=>aKs (by omega) (by omega)) (by
    show jY l _ _=_
    unfold jY xF
    by_cases c:l.length≤200
    · rw [if_neg (by simp only [decide_eq_true_eq]; omega),Nat.min_eq_left c,List.take_length,List.take_of_length_le c]
      unfold mF
      rw [if_neg (by simp)]
    · rw [if_pos (by simp only [decide_eq_true_eq]; omega)]
      unfold mF
      rw [if_neg (by simp only [decide_eq_true_eq]; omega),Nat.min_eq_right (by omega)])
  rw [List.take_zero,List.filter_nil] at h
  rw [show (0:Int)=((0:Nat):Int) from rfl,h]
  rfl
theorem aOg {l:List S47} (h:gL 48 g47 l):Gd4 8 (xF l)∧(xF l).length≤200:=by
  have hl:(xF l).length≤200:=Nat.le_trans (List.length_filter_le _ _) (by rw [List.length_take]; omega)
  have hf:∀ e∈xF l,jM e 8=true:=fun e he=>(List.mem_filter.1 he).2
  refine⟨⟨?_,hf,by omega⟩,hl⟩
  have hg:gL 48 g47 (xF l):=⟨by have:=h.1; have h3:(xF l).length≤l.length:=Nat.le_trans (List.length_filter_le _ _) (by rw [List.length_take]; omega); omega,fun e he=>h.2 e (List.mem_of_mem_take (List.mem_filter.1 he).1)⟩
  exact aSz hg (List.all_eq_true.2 hf)
def yQ (i:Nat):S47:=⟨0,0,-(i:Int),[],0⟩
theorem aIq:loop (fun s:List S47×Int=>iC s.1 s.2) ([],0)=some ((List.range 10).map yQ):=by
  have h:=jC (b:=fun s:List S47×Int=>iC s.1 s.2) (fun k=>((List.range k).map yQ,(k:Int))) (t:=(List.range 10).map yQ) 10 (fun k hk=>by
    show iC ((List.range k).map yQ) (k:Int)=_
    unfold iC
    rw [if_pos (by simp only [decide_eq_true_eq]; omega),w64 (n:=0 - (k:Int)) (by omega) (by omega),bF (by simp only [List.length_map,List.length_range,List.length_singleton]; omega),lt_,w64 (by omega) (by omega),List.range_succ,List.map_append,show (0:Int) - (k:Int) = -(k:Int) by omega]
    rfl) (by
    show iC ((List.range 10).map yQ) ((10:Nat):Int)=_
    unfold iC
    rw [if_neg (by simp)])
  exact h
theorem aTt:Gd4 1 ((List.range 10).map yQ):=by
  refine⟨fun e he=>?_,fun e he=>?_,by simp⟩
  · obtain⟨i,hi,rfl⟩:=List.mem_map.1 he
    have:=List.mem_range.1 hi
    unfold yQ i64
    dsimp only
    exact⟨by omega,by omega,by omega,by simp,by omega⟩
  · obtain⟨i,hi,rfl⟩:=List.mem_map.1 he
    have:=List.mem_range.1 hi
    unfold yQ jM
    simp only [Bool.and_eq_true,decide_eq_true_eq,List.length_nil]
    omega
theorem aLj:uI=some true:=by
  unfold uI
  rw [aNb (by decide) (by decide)]
  simp only [Option.bind_some]
  rw [aIq]
  simp only [Option.bind_some]
  unfold pW sZ
  have h0:=aR3 (r:=65536) (by decide) (by decide)
  obtain⟨s',t,w,_,_,_,_,_,hp⟩:=aI4 (p:=⟨2,2⟩) (h:=2) (f:=2) (k:=1) h0 (by omega) rfl rfl rfl (by omega) rfl (by omega) (by omega) aTt (by simp) (by show ((_:Nat):Int)≤65536; simp [oth,onS,mK]) (by simp [oth,onS])
  dsimp only
  rw [w]
  simp only [Option.bind_some]
  have ht:t=3:=hp.uniq (.more (by decide) (.more (by decide) (.more (by decide) (.one (by decide)))))
  have hv:val (sortL bef ((List.range 10).map yQ))=[yQ 9,yQ 8,yQ 7,yQ 6,yQ 5,yQ 4,yQ 3,yQ 2,yQ 1,yQ 0]:=by rfl
  rw [hv,ht]
  rfl
theorem aNd {x:Int} (h:gI .u8 x):∃ n:Nat,x=(n:Int)∧n<256:=by
  unfold gI Lit.wf at h
  simp only [Bool.and_eq_true,decide_eq_true_eq] at h
  have h1:(0:Int)≤x:=h.1
  have h2:x<256:=Int.lt_of_le_of_lt h.2 (by decide)
  exact⟨x.toNat,by omega,by omega⟩
theorem aQo (n m:Nat):((n:Int)).tmod (m:Int)=((n % m:Nat):Int):=rfl
theorem pm {n:Nat} (hn:n<65536) (b m:Nat) (hm:0<m∧m<1000) (hb:b<1000):IntKind.i64.wrap ((b:Int)+(IntKind.i64.wrap (n:Int)).tmod (m:Int))=((b+n % m:Nat):Int):=by
  have h1:=Nat.mod_lt n hm.1
  rw [w64 (n:=(n:Int)) (by omega) (by omega),aQo,w64 (by omega) (by omega)]
  rfl
theorem SorterPlans (a0:List S47) (a1 a2 a3 a4:Int) (h0:gL 48 g47 a0) (h1:gI .u8 a1) (h2:gI .u8 a2) (h3:gI .u8 a3) (h4:gI .u8 a4):lR a0 a1 a2 a3 a4=some true:=by
  obtain⟨n1,rfl,b1⟩:=aNd h1
  obtain⟨n2,rfl,b2⟩:=aNd h2
  obtain⟨n3,rfl,b3⟩:=aNd h3
  obtain⟨n4,rfl,b4⟩:=aNd h4
  obtain⟨hg,hl⟩:=aOg h0
  unfold lR
  rw [aLj]
  simp only [Option.bind_some,lt_]
  rw [if_neg (by simp),aOl]
  simp only [Option.bind_some]
  generalize xF a0=m at hg hl
  have m1:=Nat.mod_lt n1 (show 60>0 by omega)
  have m2:=Nat.mod_lt n2 (show 60>0 by omega)
  have m3:=Nat.mod_lt n3 (show 15>0 by omega)
  have m4:=Nat.mod_lt n4 (show 15>0 by omega)
  rw [show IntKind.i64.wrap (1+(IntKind.i64.wrap (n1:Int)).tmod 60)=((1+n1 % 60:Nat):Int) from pm (by omega) 1 60 (by omega) (by omega),show IntKind.i64.wrap (1+(IntKind.i64.wrap (n2:Int)).tmod 60)=((1+n2 % 60:Nat):Int) from pm (by omega) 1 60 (by omega) (by omega),
    show IntKind.i64.wrap (2+(IntKind.i64.wrap (n3:Int)).tmod 15)=((2+n3 % 15:Nat):Int) from pm (by omega) 2 15 (by omega) (by omega),show IntKind.i64.wrap (2+(IntKind.i64.wrap (n4:Int)).tmod 15)=((2+n4 % 15:Nat):Int) from pm (by omega) 2 15 (by omega) (by omega)]
  generalize hh:1+n1 % 60=h
  generalize hh2:1+n2 % 60=h'
  generalize hf:2+n3 % 15=f
  generalize hf2:2+n4 % 15=f'
  rw [aNb (by decide) (by decide)]
  simp only [Option.bind_some]
  have S0:=aR3 (r:=8388608) (by decide) (by decide)
  obtain⟨s',t,w,i1,i2,i3,i4,i5,ip⟩:=aI4 (p:=⟨(h:Int),(f:Int)⟩) (h:=h) (f:=f) (k:=8) S0 (by omega) rfl rfl rfl (by omega) rfl (by omega) (by omega) hg (by omega) (by show ((_:Nat):Int)≤8388608; simp only [oth,onS,mK,List.filter_nil,List.map_nil,List.sum_nil]; omega) (by simp [oth,onS])
  rw [w]
  simp only [Option.bind_some]
  have O1:s'.f0=[]:=i5
  have O2:oth s'.f0=[]:=by rw [O1]; rfl
  obtain⟨s2,t2,w2,_⟩:=aI4 (p:=⟨(h':Int),(f':Int)⟩) (h:=h') (f:=f') (k:=8) i1 (by omega) i4 i3 rfl (by omega) rfl (by omega) (by omega) hg (by omega) (by rw [O2,i2]; show ((_:Nat):Int)≤8388608; simp only [mK,List.map_nil,List.sum_nil]; omega) (by rw [O2]; decide)
  rw [w2]
  simp only [Option.bind_some]
  rw [if_pos (by rfl),if_pos (by rfl),aIu _ (by rw [aEh,aQ]; omega)]
  rfl
end Go.Proofs.YtnefioccdkmegaaGreatDoor.P
