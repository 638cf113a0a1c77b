/- Texts of the claim, joined: what it uses of Sg, Sh, Tb, Tc, Tg, Ua, Ub, Uc, Ud, Ue, Uf, Ug, Uh. -/
import Derived.Test.YtnefioccdkmegaaGreatDoorZk
import Derived.Lib.ParseIntB
namespace Go.Proofs.YtnefioccdkmegaaGreatDoor.P
open Go Go.RowKit Go.Proofs.YtnefioccdkmegaaGreatDoor.E Go.Proofs.YtnefioccdkmegaaGreatDoor.M
set_option linter.unusedVariables false
set_option linter.unusedSectionVars false
def wX (s:Nat):List Int:=[((s % 256:Nat):Int),((s / 256 % 256:Nat):Int),((s / 65536 % 256:Nat):Int),((s / 16777216 % 256:Nat):Int)]
theorem aJ1 (s:Nat):Bs (wX s):=fun x hx=>by simp [wX] at hx; omega
theorem xX (s:Nat):(wX s).length=4:=rfl
theorem aHg {s:Nat} (h:s<4294967296) (r:List Int):yQ (wX s++r)=s:=by
 show yQ (((s % 256:Nat):Int)::((s / 256 % 256:Nat):Int)::((s / 65536 % 256:Nat):Int)::((s / 16777216 % 256:Nat):Int)::r)=s
 rw [aH0]; omega
def wI (kind:Int) (b:List Int):List Int:=wX b.length++[kind]++b
def uW (kind:Int) (b:List Int):List Int:=wI kind b++wX (crc (wI kind b))
theorem aCi (kind:Int) (b:List Int):(wI kind b).length=5+b.length:=by simp [wI,xX]; omega
theorem aGo (kind:Int) (b:List Int):(uW kind b).length=9+b.length:=by simp [uW,aCi,xX]; omega
theorem aJs {kind:Int} {b:List Int} (hk:0≤kind∧kind<256) (hB:Bs b):Bs (wI kind b):=((aJ1 _).app (Bs.mk hk Bs.nil)).app hB
theorem aPk {kind:Int} {b:List Int} (hk:0≤kind∧kind<256) (hB:Bs b):Bs (uW kind b):=(aJs hk hB).app (aJ1 _)
theorem aBv {s:Nat} (hs:s<4294967296):vU (s:Int)=some (wX s):=by
 unfold vU wX
 simp only [lt_]
 rw [show (8:Int)=((8:Nat):Int) from rfl,show (16:Int)=((16:Nat):Int) from rfl,show (24:Int)=((24:Nat):Int) from rfl,
  nW _ _ (by decide),nW _ _ (by decide),nW _ _ (by decide),zB,zB,zB,zB]
theorem aKu {p b:List Int} {kind:Int} (hk:0≤kind∧kind<256) (hB:Bs b) (hb:b.length<4294967000) (hp:p.length<1099511627776):yY p kind b=some (p++uW kind b):=by
 unfold yY
 rw [lt_,uD,Nat.mod_eq_of_lt (by omega),aBv (by omega)]
 simp only [Option.bind_some]
 rw [show wX b.length++[kind]++b=wI kind b from rfl]
 have hl:=aCi kind b
 have h4:=xX (crc (wI kind b))
 rw [bG (by simp [xX]),bG (by simp [xX]; omega),bG (by omega),aDa (aJs hk hB) (by omega)]
 simp only [Option.bind_some]
 rw [aBv (aLb _)]
 simp only [Option.bind_some]
 rw [bG (by simp only [List.length_append]; omega),List.append_assoc]
 rfl
theorem aLf {p b q:List Int} {kind:Int} (hb:b.length≤1048576):xR (p++uW kind b++q) (p.length:Int)=(kind,b,((p.length+(uW kind b).length:Nat):Int),0):=by
 have hv:(p++uW kind b++q).drop p.length=uW kind b++q:=by rw [List.append_assoc,List.drop_left]
 have hl:=aCi kind b
 have hpl:=aGo kind b
 have hn:yQ (uW kind b++q)=b.length:=by
  show yQ (wX b.length++[kind]++b++wX (crc (wI kind b))++q)=_
  rw [List.append_assoc,List.append_assoc,List.append_assoc,aHg (by omega)]
 have ht:(uW kind b++q).take (5+b.length)=wI kind b:=by
  show (wI kind b++wX (crc (wI kind b))++q).take (5+b.length)=_
  rw [List.append_assoc,List.take_left' hl]
 have hd:(uW kind b++q).drop (5+b.length)=wX (crc (wI kind b))++q:=by
  show (wI kind b++wX (crc (wI kind b))++q).drop (5+b.length)=_
  rw [List.append_assoc,List.drop_left' hl]
 unfold xR
 rw [if_neg (by simp only [List.length_append]; omega),Int.toNat_natCast,hv,hn,ht,hd,aHg (aLb _),if_neg (by simp only [List.length_append]; omega),if_neg (by simp only [List.length_append]; omega),if_pos rfl]
 refine Prod.ext ?_ (Prod.ext ?_ (Prod.ext ?_ rfl))
 ·rfl
 ·show (wI kind b).drop 5=b
  rfl
 ·show (p.length:Int)+(b.length:Int)+9=((p.length+(uW kind b).length:Nat):Int)
  rw [hpl]; omega
def nX (l:List S47):List Int:=l.map fun e=>IntKind.i64.wrap e.f0
def jT (l:List S47):List Int:=l.map fun e=>e.f1
def jU (l:List S47):List Int:=l.map fun e=>e.f2
def nL (l:List S47):List (List UInt8):=l.map fun e=>e.f3
def nC (l:List S47):List Nat:=l.map fun e=>e.f4
def qP (c:List Int):List Int:=uv c.length++c
def aAs (l:List S47):List Int:=qP (fG (nX l))++(qP (fG (jT l))++(qP (fG (jU l))++(qP (rI (nL l))++qP (fG (rl (nC l))))))
def aDv (l:List S47):Prop:=∀ e∈l,(0≤e.f0∧e.f0<18446744073709551616)∧i64 e.f1∧i64 e.f2∧e.f3.length≤32∧e.f4<18446744073709551616
section
variable {l:List S47} (hl:l.length≤4096) (hL:aDv l)
theorem aCb:I64 (nX l):=fun x hx=>by
 obtain⟨e,_,rfl⟩:=List.mem_map.1 hx
 exact zR _
include hL
theorem aAi:I64 (jT l):=fun x hx=>by
 obtain⟨e,he,rfl⟩:=List.mem_map.1 hx
 exact (hL e he).2.1
theorem zW:I64 (jU l):=fun x hx=>by
 obtain⟨e,he,rfl⟩:=List.mem_map.1 hx
 exact (hL e he).2.2.1
theorem aId:∀ s∈nL l,s.length≤32:=fun s hs=>by
 obtain⟨e,he,rfl⟩:=List.mem_map.1 hs
 exact (hL e he).2.2.2.1
theorem aTo:∀ x∈nC l,x<18446744073709551616:=fun x hx=>by
 obtain⟨e,he,rfl⟩:=List.mem_map.1 hx
 exact (hL e he).2.2.2.2
omit hL
theorem uL {m:List Int} (hm:m.length≤4096) (hi:I64 m):(fG m).length≤11+10 * m.length:=by
 have h1:=aRd m (w:=0) (by decide)
 have h2:=aIw hi
 have h3:=dG (n:=m.length) (by omega)
 have e:(asL 0 m).length=1+(uv m.length).length+(b0 m).length:=by
  show ((0:Int)::(uv m.length++b0 m)).length=_
  simp; omega
 omega
theorem aH1 {m:List (List UInt8)} (hm:m.length≤4096) (h32:∀ s∈m,s.length≤32):(rI m).length≤21+52 * m.length:=by
 have hq:=aIo m
 have h1:=aAb (uq m) fun s hs=>h32 s ((yU m s).1 hs)
 have h2:=dG (n:=(uq m).length) (by omega)
 have h3:=uL (m:=qK (uq m) m) (by rw [vW]; omega) (aAe (fun s hs=>(yU m s).2 hs) (by omega))
 rw [vW] at h3
 unfold rI
 simp only [List.length_append]
 omega
theorem xY {c:List Int} (h:c.length<18446744073709551616):(qP c).length≤10+c.length:=by
 have:=dG h
 unfold qP; simp; omega
theorem uC {c:List Int} (h:Bs c):Bs (qP c):=(Bs.uv _).app h
include hl hL
theorem aEq:(fG (nX l)).length≤11+10 * l.length∧(fG (jT l)).length≤11+10 * l.length∧(fG (jU l)).length≤11+10 * l.length∧(rI (nL l)).length≤21+52 * l.length∧(fG (rl (nC l))).length≤11+10 * l.length:=by
 have e0:(nX l).length=l.length:=by simp [nX]
 have e1:(jT l).length=l.length:=by simp [jT]
 have e2:(jU l).length=l.length:=by simp [jU]
 have e3:(nL l).length=l.length:=by simp [nL]
 have e4:(rl (nC l)).length=l.length:=by rw [aAk]; simp [nC]
 have h0:=uL (m:=nX l) (by omega) aCb
 have h1:=uL (m:=jT l) (by omega) (aAi hL)
 have h2:=uL (m:=jU l) (by omega) (zW hL)
 have h3:=aH1 (m:=nL l) (by omega) (aId hL)
 have h4:=uL (m:=rl (nC l)) (by omega) (aI5 _)
 rw [e0] at h0; rw [e1] at h1; rw [e2] at h2; rw [e3] at h3; rw [e4] at h4
 exact⟨h0,h1,h2,h3,h4⟩
theorem aD5:Bs (fG (nX l))∧Bs (fG (jT l))∧Bs (fG (jU l))∧Bs (rI (nL l))∧Bs (fG (rl (nC l))) :=
 ⟨zQ aCb,zQ (aAi hL),zQ (zW hL),aNy (by simp [nL]; omega),zQ (aI5 _)⟩
theorem aCy:(aAs l).length≤115+92 * l.length:=by
 obtain⟨h0,h1,h2,h3,h4⟩:=aEq hl hL
 have q0:=xY (c:=fG (nX l)) (by omega)
 have q1:=xY (c:=fG (jT l)) (by omega)
 have q2:=xY (c:=fG (jU l)) (by omega)
 have q3:=xY (c:=rI (nL l)) (by omega)
 have q4:=xY (c:=fG (rl (nC l))) (by omega)
 unfold aAs
 simp only [List.length_append]
 omega
theorem aQb:Bs (aAs l):=by
 obtain⟨h0,h1,h2,h3,h4⟩:=aD5 hl hL
 exact (uC h0).app ((uC h1).app ((uC h2).app ((uC h3).app (uC h4))))
theorem aE0 {c:List Int} (hB:Bs c) (h:c.length≤1048576) (r:List Int):pT 1048576 (qP c++r)=some (bts c,r):=by
 unfold pT qP
 rw [show IntKind.u64.wrap 1048576=1048576 from aBf (by omega) (by omega),List.append_assoc,aGm (by omega) _ (by omega)]
 simp only
 rw [if_pos (by simp only [List.length_append]; omega),Int.toNat_natCast,List.take_left' rfl,List.drop_left' rfl]
theorem aOl:pTx 5 (aAs l)=some ([bts (fG (nX l)),bts (fG (jT l)),bts (fG (jU l)),bts (rI (nL l)),bts (fG (rl (nC l)))],[]):=by
 obtain⟨h0,h1,h2,h3,h4⟩:=aEq hl hL
 obtain⟨b0,b1,b2,b3,b4⟩:=aD5 hl hL
 unfold aAs
 have e4:=aE0 hl hL b4 (by omega) []
 rw [List.append_nil] at e4
 simp only [pTx,aE0 hl hL b0 (by omega),aE0 hl hL b1 (by omega),aE0 hl hL b2 (by omega),aE0 hl hL b3 (by omega),e4]
end
def mI (e:S47):S47:=⟨e.f0,e.f1,e.f2,e.f3,mQ e.f4⟩
theorem aG7 (s:Int):∀ (l:List S47),(∀ e∈l,0≤e.f0∧e.f0<18446744073709551616) →
  aAx s (nX l) (jT l) (jU l) (nL l) ((nC l).map mQ)=if l.all (fun e=>oS e s)=true then some (l.map mI) else none
 | [],_=>rfl
 | e::l,h=>by
  have ih:=aG7 s l fun x hx=>h x (List.mem_cons_of_mem _ hx)
  have h0:=h e List.mem_cons_self
  have hw:IntKind.u64.wrap (IntKind.i64.wrap e.f0)=e.f0:=by
   rw [IntKind.wrap_u64,IntWalk.i64_left]
   unfold wrap64
   omega
  show aAx s (IntKind.i64.wrap e.f0::nX l) (e.f1::jT l) (e.f2::jU l) (e.f3::nL l) (mQ e.f4::(nC l).map mQ)=_
  unfold aAx
  rw [hw,ih,show (⟨e.f0,e.f1,e.f2,e.f3,mQ e.f4⟩:S47)=mI e from rfl,show oS (mI e) s=oS e s from rfl,List.all_cons]
  cases oS e s with
  | false=>rfl
  | true =>
   rw [if_pos rfl,Bool.true_and]
   cases l.all fun e=>oS e s <;> rfl
theorem aP1 {l:List S47} (hl:l.length≤4096) (hL:aDv l) (s:Int) :
  evL s (bts (fG (nX l))) (bts (fG (jT l))) (bts (fG (jU l))) (bts (rI (nL l))) (bts (fG (rl (nC l))))=if l.all (fun e=>oS e s)=true then some (l.map mI) else none:=by
 obtain⟨b0,b1,b2,b3,b4⟩:=aD5 hl hL
 unfold evL
 rw [zY b0,zY b1,zY b2,zY b3,zY b4,xU (by simp [nX]; omega) aCb,xU (by simp [jT]; omega) (aAi hL),xU (by simp [jU]; omega) (zW hL),
  aK3 (by simp [nL]; omega) (aId hL),show aJt (fG (rl (nC l)))=some ((nC l).map mQ) by
   unfold aJt
   rw [xU (by rw [aAk]; simp [nC]; omega) (aI5 _)]
   exact aKz (aTo hL)]
 simp only
 rw [if_pos (by simp [nX,jT,jU,nL,nC]),aG7 s l fun e he=>(hL e he).1]
theorem aQp {l:List S47} (hl:l.length≤4096) (hL:aDv l) (s:Int) (p q:List Int) :
  evR (p++uW 101 (aAs l)++q) (p.length:Int) s=if l.all (fun e=>oS e s)=true then (l.map mI,((p.length+(uW 101 (aAs l)).length:Nat):Int),0) else ([],0,3):=by
 have hb:=aCy hl hL
 unfold evR
 rw [aLf (by omega)]
 simp only
 rw [if_neg (by simp),if_neg (by simp),aOl hl hL]
 simp only
 rw [aP1 hl hL s]
 cases l.all fun e=>oS e s <;> rfl
theorem aJ3 {l:List S47} (hl:l.length≤4096):∀ (m k:Nat),k+m=l.length →
  loop (fun s:List Int×List Int×List Int×List (List UInt8)×List Nat×Int=>mD l s.1 s.2.1 s.2.2.1 s.2.2.2.1 s.2.2.2.2.1 s.2.2.2.2.2) (nX (l.take k),jT (l.take k),jU (l.take k),nL (l.take k),nC (l.take k),(k:Int))=some (nX l,jT l,jU l,nL l,nC l)
 | 0,k,hk=>by
  rw [List.take_of_length_le (by omega)]
  refine bJ ?_
  show mD l (nX l) (jT l) (jU l) (nL l) (nC l) (k:Int)=_
  unfold mD
  rw [if_neg (by simp only [decide_eq_true_eq]; omega)]
 | m+1,k,hk=>by
  have hx:=List.getElem?_eq_getElem (l:=l) (i:=k) (by omega)
  have ht:l.take (k+1)=l.take k++[l[k]'(by omega)]:=by rw [List.take_add_one,hx]; rfl
  have ih:=aJ3 hl m (k+1) (by omega)
  rw [ht] at ih
  have e0:(nX (l.take k)).length=k:=by simp [nX]; omega
  have e1:(jT (l.take k)).length=k:=by simp [jT]; omega
  have e2:(jU (l.take k)).length=k:=by simp [jU]; omega
  have e3:(nL (l.take k)).length=k:=by simp [nL]; omega
  have e4:(nC (l.take k)).length=k:=by simp [nC]; omega
  refine (dB ?_).trans ih
  show mD l (nX (l.take k)) (jT (l.take k)) (jU (l.take k)) (nL (l.take k)) (nC (l.take k)) (k:Int)=_
  unfold mD vG uX
  rw [if_pos (by simp only [decide_eq_true_eq]; omega),aI rfl hx]
  simp only [Option.bind_some,lt_]
  rw [bG (by simp; omega),bG (by simp; omega),bG (by simp; omega),bG (by simp; omega),bG (by simp; omega),w64 (n:=(k:Int)+1) (by omega) (by omega)]
  simp only [nX,jT,jU,nL,nC,List.map_append,List.map_cons,List.map_nil]
  rfl
theorem aP4 {c p:List Int} (hB:Bs c) (hc:c.length≤1048576) (hp:p.length≤100000000):pF p (bts c)=some (p++qP c):=by
 have hbl:(bts c).length=c.length:=by simp [bts]
 rw [aJ4 _ _ (by omega) (by omega),zY hB,hbl,List.append_assoc]
 rfl
theorem aIn {l:List S47} (hl:l.length≤4096) (hL:aDv l) {p:List Int} (hp:p.length<1099511627776):xZ p l=some (p++uW 101 (aAs l)):=by
 obtain⟨h0,h1,h2,h3,h4⟩:=aEq hl hL
 obtain⟨b0,b1,b2,b3,b4⟩:=aD5 hl hL
 have hb:=aCy hl hL
 unfold xZ
 have hc:=aJ3 hl l.length 0 (by omega)
 rw [show ((0:Nat):Int)=0 from rfl] at hc
 rw [show (([],[],[],[],[],0):List Int×List Int×List Int×List (List UInt8)×List Nat×Int)=(nX (l.take 0),jT (l.take 0),jU (l.take 0),nL (l.take 0),nC (l.take 0),0) from rfl,hc]
 simp only [Option.bind_some]
 unfold tC vN
 rw [zI (by simp [nX]; omega) aCb]
 simp only [Option.bind_some]
 rw [zI (by simp [jT]; omega) (aAi hL)]
 simp only [Option.bind_some]
 rw [zI (by simp [jU]; omega) (zW hL)]
 simp only [Option.bind_some]
 rw [aNr (by simp [nL]; omega) (aId hL)]
 simp only [Option.bind_some]
 rw [aOi (by simp [nC]; omega)]
 simp only [Option.bind_some]
 have eb:aAs l=qP (fG (nX l))++(qP (fG (jT l))++(qP (fG (jU l))++(qP (rI (nL l))++qP (fG (rl (nC l)))))):=rfl
 rw [eb]
 clear eb hc hb
 generalize fG (nX l)=c0 at *
 generalize fG (jT l)=c1 at *
 generalize fG (jU l)=c2 at *
 generalize rI (nL l)=c3 at *
 generalize fG (rl (nC l))=c4 at *
 have st:∀ (k:Nat) (c acc:List Int),([c0,c1,c2,c3,c4]:List (List Int))[k]?=some c→Bs c→c.length≤1048576→acc.length≤100000000→mF c0 c1 c2 c3 c4 acc (k:Int)=some (.inl (acc++qP c,((k+1:Nat):Int))):=by
  intro k c acc hg hB hcl ha
  have hk5:k<5:=by have:=(List.getElem?_eq_some_iff.1 hg).1; simpa using this
  unfold mF
  rw [if_pos (by simp only [decide_eq_true_eq,List.length_cons,List.length_nil]; omega),aI rfl hg]
  simp only [Option.bind_some]
  rw [aP4 hB hcl ha]
  simp only [Option.bind_some]
  rw [lt_,w64 (by omega) (by omega)]
  rfl
 have ol:∀ c:List Int,c.length≤1048576→(qP c).length≤1048586:=fun c h=>by have:=xY (c:=c) (by omega); omega
 have q0:=ol c0 (by omega); have q1:=ol c1 (by omega); have q2:=ol c2 (by omega); have q3:=ol c3 (by omega)
 have hlp:loop (fun s:List Int×Int=>mF c0 c1 c2 c3 c4 s.1 s.2) ([],0)=some (((([]++qP c0)++qP c1)++qP c2)++qP c3++qP c4):=by
  refine (dB (st 0 c0 [] rfl b0 (by omega) (by simp))).trans ?_
  refine (dB (st 1 c1 _ rfl b1 (by omega) (by simp; omega))).trans ?_
  refine (dB (st 2 c2 _ rfl b2 (by omega) (by simp; omega))).trans ?_
  refine (dB (st 3 c3 _ rfl b3 (by omega) (by simp; omega))).trans ?_
  refine (dB (st 4 c4 _ rfl b4 (by omega) (by simp; omega))).trans ?_
  refine bJ ?_
  show mF c0 c1 c2 c3 c4 _ ((4+1:Nat):Int)=_
  unfold mF
  rw [if_neg (by simp)]
 rw [hlp]
 simp only [Option.bind_some]
 unfold sR vE
 have hbl:((([]++qP c0)++qP c1)++qP c2)++qP c3++qP c4=qP c0++(qP c1++(qP c2++(qP c3++qP c4))):=by simp
 rw [hbl]
 have q4:=ol c4 (by omega)
 rw [aKu (by decide) ((uC b0).app ((uC b1).app ((uC b2).app ((uC b3).app (uC b4))))) (by simp only [List.length_append]; omega) hp]
 rfl
theorem aKd (x:S47) (k:Int):aB7 x k=some (oS x k):=aD8 x k
theorem aRs {l:List S47} (h:gL 48 g47 l) {k:Int} (hf:l.all (fun e=>oS e k)=true):aDv l:=fun e he=>by
 obtain⟨q0,q1,q2,q3,q4⟩:=h.2 e he
 have hk:=List.all_eq_true.1 hf e he
 unfold oS at hk
 simp only [Bool.and_eq_true,decide_eq_true_eq] at hk
 unfold gI Lit.wf at q0
 simp only [Bool.and_eq_true,decide_eq_true_eq] at q0
 refine⟨⟨q0.1,Int.lt_of_le_of_lt q0.2 (by decide)⟩,aXn q1,aXn q2,by omega,?_⟩
 unfold gF Lit.wf at q4
 simpa using q4
theorem aRu {f:List UInt8} (h:yN f=true):f.length≤32:=by
  unfold yN at h
  simp only [Bool.and_eq_true,decide_eq_true_eq] at h
  exact h.2
def Kp (s s':S58):Prop:=s'.f1=s.f1∧(s.f2=0→s.f3=false→s'.f2=0∧s'.f3=false)
theorem Kp.refl (s:S58):Kp s s:=⟨rfl,fun a b=>⟨a,b⟩⟩
theorem Kp.trans {a b c:S58} (h:Kp a b) (h':Kp b c):Kp a c:=⟨h'.1.trans h.1,fun x y=>h'.2 (h.2 x y).1 (h.2 x y).2⟩
theorem Kp.off {s s':S58} (h:Kp s s') (h2:s.f2=0) (h3:s.f3=false) (h':s'.f3=true):False:=by
  have:=(h.2 h2 h3).2
  rw [h'] at this; cases this
theorem aIu (s:S58) (l:List S64):Kp s { step s with f0:=l }:=by
  refine⟨rfl,fun h2 h3=>?_⟩
  unfold step
  rw [h2,h3]
  exact⟨rfl,rfl⟩
theorem aIe {s:S58} {n:List UInt8} (hn:yN n=true) (h:s.f3=false):wA s n=0:=by unfold wA; rw [if_pos hn,h]; rfl
theorem aRj {kk:Nat} {s:S58} (h:SI kk s) {n:List UInt8} {x:S64} (hx:get s.f0 n=some x):yN n=true:=by
  obtain⟨h1,rfl⟩:=aIb hx
  exact h.form x h1
theorem aFk {kk:Nat} {s:S58} (h:SI kk s) (hon:s.f3=false) {n:List UInt8} {x:S64} (hx:get s.f0 n=some x) (f:S64→List S64) :
    Kp s (aDt s n f).2∧(((aDt s n f).1=0∧(aDt s n f).2.f3=false∧(aDt s n f).2.f0=f x)∨((aDt s n f).1=9∧(aDt s n f).2.f3=true∧(aDt s n f).2.f0=s.f0)):=by
  unfold aDt
  rw [if_pos (aIe (aRj h hx) hon),hx]
  dsimp only
  split
  · rename_i c
    exact⟨aIu s s.f0,.inr ⟨rfl,c,rfl⟩⟩
  · rename_i c
    exact⟨aIu s (f x),.inl ⟨rfl,by simpa using c,rfl⟩⟩
theorem aO6 {kk:Nat} {s:S58} (h:SI kk s) (hon:s.f3=false) {n:List UInt8} (hn:yN n=true) (p:List Int) :
    Kp s (yS s n p).2∧(((yS s n p).1=10∧(yS s n p).2=s∧(s.f1 - nJ s.f0<p.length∨500≤s.f0.length)) ∨
      (((yS s n p).1=0∧(yS s n p).2.f3=false∨(yS s n p).1=9∧(yS s n p).2.f3=true)∧(yS s n p).2.f0=put s.f0 ⟨n,((get s.f0 n).getD ⟨n,[],0⟩).f1++p,((get s.f0 n).getD ⟨n,[],0⟩).f2⟩)):=by
  unfold yS
  rw [if_pos (aIe hn hon)]
  split
  · rename_i c
    exact⟨Kp.refl s,.inl ⟨rfl,rfl,c.elim .inl fun c=>.inr c.2⟩⟩
  · refine⟨aIu s _,.inr ⟨?_,rfl⟩⟩
    dsimp only
    split
    · rename_i c
      exact .inr ⟨rfl,c⟩
    · rename_i c
      exact .inl ⟨rfl,by simpa using c⟩
theorem aC2:∀ {l:List S64},mG l→(l.map S64.f0).Nodup
  | [],_=>List.nodup_nil
  | x::l,h=>by
    obtain⟨h1,h2⟩:=List.pairwise_cons.1 h
    refine List.nodup_cons.2 ⟨fun hm=>?_,aC2 h2⟩
    obtain⟨y,hy,e⟩:=List.mem_map.1 hm
    have:=h1 y hy
    rw [e,vZ] at this
    cases this
theorem aHv:∀ {l:List S64},mG l→∀ {x:S64},x∈l→get l x.f0=some x
  | [],_,x,hx=>by cases hx
  | y::l,h,x,hx=>by
    obtain⟨h1,h2⟩:=List.pairwise_cons.1 h
    rcases List.mem_cons.1 hx with rfl | hx
    · simp [get]
    · have hne:(y.f0==x.f0)=false:=by
        rw [beq_eq_false_iff_ne]
        intro e
        have:=h1 x hx
        rw [e,vZ] at this
        cases this
      have:=aHv h2 hx
      unfold get at this ⊢
      rw [List.find?_cons_of_neg (by simp [hne])]
      exact this
def aK8 (n:Nat):List UInt8:=if n<10 then [UInt8.ofNat (48+n)] else if n<100 then [UInt8.ofNat (48+n / 10),UInt8.ofNat (48+n % 10)] else [UInt8.ofNat (48+n / 10 / 10),UInt8.ofNat (48+n / 10 % 10),UInt8.ofNat (48+n % 10)]
def preR:List UInt8:=[114,117,110,46]
def gU (n:Nat):List UInt8:=preR++aK8 n
def nY (f:List UInt8):Bool:=decide (4≤f.length)&&(f.take 4==preR)
theorem aFe {u:Nat} (h:u<10):Lib.decDigits u=[UInt8.ofNat (48+u)]:=by rw [Lib.decDigits,dif_pos h]
theorem aPg {u:Nat} (h:¬ u<10):Lib.decDigits u=Lib.decDigits (u / 10)++[UInt8.ofNat (48+u % 10)]:=by rw [Lib.decDigits,dif_neg h]
theorem aOx {n:Nat} (h:n<1000):Lib.itoa (n:Int)=aK8 n:=by
  unfold Lib.itoa aK8
  rw [if_neg (by omega),show ((n:Int)).toNat=n from rfl]
  by_cases h1:n<10
  · rw [if_pos h1,aFe h1]
  · rw [if_neg h1,aPg h1]
    by_cases h2:n<100
    · rw [if_pos h2,aFe (by omega)]; rfl
    · rw [if_neg h2,aPg (by omega),aFe (by omega)]; rfl
theorem aP6 {n:Nat} (h:n<1000):strconv_Itoa (n:Int)=some (aK8 n):=by
  unfold strconv_Itoa
  rw [bG ⟨by omega,by omega⟩,aOx h]
theorem aJr (n:Nat):(aK8 n).length≤3:=by unfold aK8; split <;> (try split) <;> simp
theorem aKi:∀ n<600,yN (gU n)=true:=by decide +kernel
def bAa (l:List UInt8):Nat:=l.foldl (fun a c=>10 * a+(c.toNat - 48)) 0
theorem aMh:∀ n<600,bAa ((gU n).drop 4)=n:=by decide +kernel
theorem aOr {m n:Nat} (hm:m<600) (hn:n<600) (h:gU m=gU n):m=n:=by
  have:=aMh m hm
  rw [h,aMh n hn] at this
  exact this.symm
theorem zZ (n:Nat):nY (gU n)=true:=by simp [nY,gU,preR]
theorem aJo (n:Nat):(gU n).length≤7:=by have:=aJr n; simp only [gU,preR,List.length_append,List.length_cons,List.length_nil]; omega
theorem aNt (f:List UInt8) (hf:f.length<4611686018427387904):lU f preR=some (nY f):=by
  unfold lU lI nY
  rw [show ((preR.length:Nat):Int)=4 from rfl]
  by_cases h:4≤f.length
  · rw [if_pos (by simp only [decide_eq_true_eq]; omega),show (4:Int)=((4:Nat):Int) from rfl,show (0:Int)=((0:Nat):Int) from rfl,wV (by omega) h]
    simp [h]
  · rw [if_neg (by simp only [decide_eq_true_eq]; omega)]
    simp [h]
def oth (l:List S64):List S64:=l.filter fun x => !nY x.f0
theorem aHp {n:List UInt8} (hn:nY n=true) (l:List S64):oth (del l n)=oth l:=by
  unfold oth P.del
  rw [List.filter_filter]
  refine List.filter_congr fun x _=>?_
  cases c:nY x.f0 with
  | true=>rfl
  | false =>
    have:(x.f0==n)=false:=by
      rw [beq_eq_false_iff_ne]
      intro e
      rw [e,hn] at c
      cases c
    rw [this]; rfl
theorem aS2 {l:List S64} (h:mG l) {y:S64} (hy:nY y.f0=true):oth (put l y)=oth l:=by
  unfold oth
  rcases zT h y.f0 with ⟨P,x,D,rfl,hx⟩ | ⟨P,D,rfl,hP,hD⟩
  · rw [aB4 hx h,List.filter_append,List.filter_append,List.filter_cons_of_neg (by simp [hy]),List.filter_cons_of_neg (by simp [hx,hy])]
  · rw [aAa hP hD,List.filter_append,List.filter_append,List.filter_cons_of_neg (by simp [hy])]
theorem aO8 {l:List S64} (h:mG l) {y:S64} (hy:get l y.f0=none):(put l y).Perm (y::l):=by
  rcases zT h y.f0 with ⟨P,x,D,rfl,hx⟩ | ⟨P,D,rfl,hP,hD⟩
  · rw [vF hx h] at hy; cases hy
  · rw [aAa hP hD]; exact List.perm_middle
theorem aJk {l:List S64} (h:mG l) {n:List UInt8} {x:S64} (hx:get l n=some x):l.Perm (x::del l n):=by
  rcases zT h n with ⟨P,y,D,rfl,hy⟩ | ⟨P,D,rfl,hP,hD⟩
  · rw [vF hy h] at hx
    cases hx
    rw [aEb hy h]; exact List.perm_middle
  · rw [wQ hP hD] at hx; cases hx
theorem aOg {l m:List S64} (h:l.Perm m):nJ l=nJ m:=(h.map _).sum_nat
def cln:List (List UInt8)→S58→Int×S58
  | [],s=>(0,s)
  | f::r,s=>if nY f=true then (if (kT s f).1=0 then cln r (kT s f).2 else kT s f) else cln r s
theorem aOf {kk:Nat} {s:S58} (h:SI kk s) (hk:kk<4611686018427387904) {L:List (List UInt8)} {i:Nat} {f:List UInt8} (hf:L[i]?=some f) (hl:f.length≤32) (hL:L.length≤500) :
    eF L s.f0 s.f1 s.f2 s.f3 s.f4 (i:Int)=if nY f=true then (if (kT s f).1=0 then some (.inl ((kT s f).2.f0,(kT s f).2.f1,(kT s f).2.f2,(kT s f).2.f3,(kT s f).2.f4,((i+1:Nat):Int))) else some (.inr (.inr ((kT s f).1,some (kT s f).2)))) else some (.inl (s.f0,s.f1,s.f2,s.f3,s.f4,((i+1:Nat):Int))):=by
  have hi:=(List.getElem?_eq_some_iff.1 hf).1
  have hb2:∀ (l:List S64) (a b:Int) (c:Bool) (d:Int),lR (i:Int) l a b c d=some (.inl (l,a,b,c,d,((i+1:Nat):Int))):=by
    intro l a b c d
    unfold lR
    rw [lt_,w64 (by omega) (by omega)]
    rfl
  unfold eF
  rw [if_pos (by simp only [decide_eq_true_eq]; omega),aI rfl hf]
  simp only [Option.bind_some]
  rw [show ([114,117,110,46]:List UInt8)=preR from rfl,aNt f (by omega)]
  simp only [Option.bind_some]
  by_cases c:nY f=true
  · rw [if_pos c,if_pos c,show (⟨s.f0,s.f1,s.f2,s.f3,s.f4⟩:S58)=s from rfl,h.Delete hk (by omega)]
    simp only [Option.bind_some]
    by_cases c2:(kT s f).1=0
    · rw [if_neg (by simp [c2]),if_pos c2,hb2]
    · rw [if_pos (by simpa using c2),if_neg c2]
  · rw [if_neg c,if_neg c,hb2]
theorem aF1 {L:List (List UInt8)} (hL:L.length≤500) (h32:∀ f∈L,f.length≤32):∀ (m i kk:Nat) (s:S58),i+m=L.length→SI kk s→kk+m<4611686018427387904 →
    ((loop (fun q:List S64×Int×Int×Bool×Int×Int=>eF L q.1 q.2.1 q.2.2.1 q.2.2.2.1 q.2.2.2.2.1 q.2.2.2.2.2) (s.f0,s.f1,s.f2,s.f3,s.f4,(i:Int))).bind fun t=>match t with | (.inl t)=>oL t.1 t.2.1 t.2.2.1 t.2.2.2.1 t.2.2.2.2 | (.inr t)=>some t)=some ((cln (L.drop i) s).1,some (cln (L.drop i) s).2)
  | 0,i,kk,s,hi,h,hk=>by
    rw [bJ (b:=fun q:List S64×Int×Int×Bool×Int×Int=>eF L q.1 q.2.1 q.2.2.1 q.2.2.2.1 q.2.2.2.2.1 q.2.2.2.2.2) (t:=.inl (s.f0,s.f1,s.f2,s.f3,s.f4)) (by
      show eF L s.f0 s.f1 s.f2 s.f3 s.f4 (i:Int)=_
      unfold eF
      rw [if_neg (by simp only [decide_eq_true_eq]; omega)]),List.drop_of_length_le (by omega)]
    rfl
  | m+1,i,kk,s,hi,h,hk=>by
    have hx:=List.getElem?_eq_getElem (l:=L) (i:=i) (by omega)
    have hr:=aOf h (by omega) hx (h32 _ (List.getElem_mem (by omega))) hL
    rw [List.drop_eq_getElem_cons (by omega)]
    unfold cln
    by_cases c:nY L[i]=true
    · rw [if_pos c] at hr ⊢
      by_cases c2:(kT s L[i]).1=0
      · rw [if_pos c2] at hr ⊢
        rw [dB (b:=fun q:List S64×Int×Int×Bool×Int×Int=>eF L q.1 q.2.1 q.2.2.1 q.2.2.2.1 q.2.2.2.2.1 q.2.2.2.2.2) hr]
        exact aF1 hL h32 m (i+1) (kk+1) _ (by omega) (h.del (n:=L[i])) (by omega)
      · rw [if_neg c2] at hr ⊢
        rw [bJ (b:=fun q:List S64×Int×Int×Bool×Int×Int=>eF L q.1 q.2.1 q.2.2.1 q.2.2.2.1 q.2.2.2.2.1 q.2.2.2.2.2) hr]
        rfl
    · rw [if_neg c] at hr ⊢
      rw [dB (b:=fun q:List S64×Int×Int×Bool×Int×Int=>eF L q.1 q.2.1 q.2.2.1 q.2.2.2.1 q.2.2.2.2.1 q.2.2.2.2.2) hr]
      exact aF1 hL h32 m (i+1) kk _ (by omega) h (by omega)
theorem aRa {kk:Nat} {s:S58} (h:SI kk s) (hk:kk+500<4611686018427387904):jF (some s)=some ((cln (s.f0.map S64.f0) s).1,some (cln (s.f0.map S64.f0) s).2):=by
  have hl:=h.len
  unfold jF
  dsimp only
  rw [h.Names]
  simp only [Option.bind_some]
  have:=aF1 (L:=s.f0.map S64.f0) (by simpa using hl) (fun f hf=>by
    obtain⟨x,hx,rfl⟩:=List.mem_map.1 hf
    exact aRu (h.form x hx)) s.f0.length 0 kk s (by simp) h (by omega)
  rw [List.drop_zero] at this
  exact this
theorem aF6:∀ (L:List (List UInt8)) (s:S58) (kk:Nat),SI kk s→s.f3=false→L.Nodup→(∀ f∈L,∃ x,get s.f0 f=some x)→(∀ x∈s.f0,nY x.f0=true→x.f0∈L) →
    SI (kk+L.length) (cln L s).2∧Kp s (cln L s).2∧oth (cln L s).2.f0=oth s.f0 ∧
      (((cln L s).1=0∧(cln L s).2.f3=false∧∀ x∈(cln L s).2.f0,nY x.f0=false)∨((cln L s).1=9∧(cln L s).2.f3=true))
  | [],s,kk,h,hon,hnd,hL,hR=>⟨h,Kp.refl s,rfl,.inl ⟨rfl,hon,fun x hx=>by
      cases c:nY x.f0 with
      | false=>rfl
      | true=>cases hR x hx c⟩⟩
  | f::L,s,kk,h,hon,hnd,hL,hR=>by
    obtain⟨hf,hnd'⟩:=List.nodup_cons.1 hnd
    unfold cln
    by_cases c:nY f=true
    · rw [if_pos c]
      obtain⟨x,hx⟩:=hL f List.mem_cons_self
      have h1:=h.del (n:=f)
      obtain⟨kp,hd⟩:=aFk h hon hx fun x=>del s.f0 f
      rcases hd with ⟨e0,on1,l1⟩ | ⟨e9,off1,l1⟩
      · have e0':(kT s f).1=0:=e0
        have l1':(kT s f).2.f0=del s.f0 f:=l1
        rw [if_pos e0']
        have hL':∀ g∈L,∃ x,get (kT s f).2.f0 g=some x:=fun g hg=>by
          obtain⟨y,hy⟩:=hL g (List.mem_cons_of_mem _ hg)
          refine⟨y,?_⟩
          rw [l1',aSe h.rise,if_neg (fun e=>hf (by rw [e]; exact hg))]
          exact hy
        obtain⟨i1,i2,i3,i4⟩:=aF6 L (kT s f).2 (kk+1) h1 on1 hnd' hL' fun y hy cy=>by
          rw [l1'] at hy
          have hne:y.f0≠f:=fun e=>by
            have:=(List.mem_filter.1 hy).2
            simp [e] at this
          rcases List.mem_cons.1 (hR y (aEa hy) cy) with e | e
          · exact absurd e hne
          · exact e
        exact⟨by rw [List.length_cons,show kk+(L.length+1)=kk+1+L.length by omega]; exact i1,Kp.trans kp i2,by rw [i3,l1',aHp c],i4⟩
      · have e9':(kT s f).1=9:=e9
        have l1':(kT s f).2.f0=s.f0:=l1
        rw [if_neg (by rw [e9']; decide)]
        exact⟨h1.mono (by rw [List.length_cons]; omega),kp,by rw [l1'],.inr ⟨e9',off1⟩⟩
    · rw [if_neg c]
      obtain⟨i1,i2,i3,i4⟩:=aF6 L s kk h hon hnd' (fun g hg=>hL g (List.mem_cons_of_mem _ hg)) fun y hy cy=>by
        rcases List.mem_cons.1 (hR y hy cy) with e | e
        · rw [e] at cy; exact absurd cy c
        · exact e
      exact⟨i1.mono (by rw [List.length_cons]; omega),i2,i3,i4⟩
theorem aMt {l:List S64} (h:∀ x∈l,nY x.f0=false):oth l=l:=List.filter_eq_self.2 fun x hx=>by rw [h x hx]; rfl
theorem aBb {kk:Nat} {s:S58} (h:SI kk s) (hk:kk+500<4611686018427387904) (hon:s.f3=false) :
    ∃ e s',jF (some s)=some (e,some s')∧SI (kk+500) s'∧Kp s s'∧oth s'.f0=oth s.f0∧((e=0∧s'.f3=false∧s'.f0=oth s.f0)∨(e=9∧s'.f3=true)):=by
  obtain⟨i1,i2,i3,i4⟩:=aF6 (s.f0.map S64.f0) s kk h hon (aC2 h.rise) (fun f hf=>by
    obtain⟨x,hx,rfl⟩:=List.mem_map.1 hf
    exact⟨x,aHv h.rise hx⟩) fun x hx _=>List.mem_map.2 ⟨x,hx,rfl⟩
  refine⟨_,_,aRa h hk,i1.mono (by have:=h.len; rw [List.length_map]; omega),i2,i3,?_⟩
  rcases i4 with ⟨a,b,d⟩ | q
  · exact .inl ⟨a,b,by rw [← i3,aMt d]⟩
  · exact .inr q
section
variable {α:Type} {q:Nat}
theorem aMz (hq:1≤q):pcs q ([]:List α)=[]:=by
  unfold pcs
  rw [show (([]:List α).length+q - 1) / q=0 from by rw [Nat.div_eq_zero_iff]; simp only [List.length_nil]; omega]
  rfl
theorem aKl (hq:1≤q) {xs:List α} (h:xs≠[]):pcs q xs=xs.take q::pcs q (xs.drop q):=by
  have hl:0<xs.length:=List.length_pos_iff.2 h
  have e:(xs.length+q - 1) / q=((xs.drop q).length+q - 1) / q+1:=by
    rw [List.length_drop]
    by_cases c:q≤xs.length
    · rw [show xs.length+q - 1=xs.length - q+q - 1+q by omega,Nat.add_div_right _ (by omega)]
    · rw [show xs.length - q+q - 1=q - 1 by omega,Nat.div_eq_of_lt (show q - 1<q by omega)]
      exact Nat.div_eq_of_lt_le (by omega) (by omega)
  unfold pcs
  rw [e,List.range_succ_eq_map,List.map_cons,List.map_map]
  congr 1
  · rw [Nat.zero_mul,List.drop_zero]
  · refine List.map_congr_left fun k _=>?_
    show (xs.drop ((k+1) * q)).take q=((xs.drop q).drop (k * q)).take q
    rw [List.drop_drop,Nat.add_mul,Nat.one_mul,Nat.add_comm]
theorem aNb (hq:1≤q) {p:List α→Prop} (h0:p []) (hs:∀ xs,xs≠[]→p (xs.drop q)→p xs) (xs:List α):p xs:=by
  generalize hn:xs.length=n
  induction n using Nat.strongRecOn generalizing xs with
  | _ n ih =>
    by_cases c:xs=[]
    · rw [c]; exact h0
    · have hl:0<xs.length:=List.length_pos_iff.2 c
      exact hs xs c (ih (xs.drop q).length (by rw [List.length_drop]; omega) _ rfl)
theorem aD9 (hq:1≤q):∀ (xs:List α),∀ c∈pcs q xs,c≠[]∧c.length≤q∧∀ x∈c,x∈xs:=by
  refine aNb hq (fun c hc=>by rw [aMz hq] at hc; cases hc) fun xs h ih c hc=>?_
  rw [aKl hq h] at hc
  rcases List.mem_cons.1 hc with rfl | hc
  · refine⟨fun e=>?_,by simp; omega,fun x hx=>List.mem_of_mem_take hx⟩
    have hl:0<xs.length:=List.length_pos_iff.2 h
    have:=congrArg List.length e
    rw [List.length_take,List.length_nil] at this
    omega
  · obtain⟨a,b,d⟩:=ih c hc
    exact⟨a,b,fun x hx=>List.mem_of_mem_drop (d x hx)⟩
theorem uJ (hq:1≤q):∀ (xs:List α),(pcs q xs).flatten=xs:=by
  refine aNb hq (by rw [aMz hq]; rfl) fun xs h ih=>?_
  rw [aKl hq h,List.flatten_cons,ih,List.take_append_drop]
end
def pgB (c:List S47):List Int:=uW 101 (aAs c)
def pgs (r:List S47):List Int:=((pcs 64 r).map pgB).flatten
structure Gd4 (k:Int) (r:List S47):Prop where
  laid:aDv r
  form:∀ e∈r,oS e k=true
  len:r.length≤1000
theorem Gd4.sub {k:Int} {r c:List S47} (h:Gd4 k r) (hc:∀ x∈c,x∈r) (hl:c.length≤1000):Gd4 k c:=⟨fun e he=>h.laid e (hc e he),fun e he=>h.form e (hc e he),hl⟩
theorem aM4 {c:List S47} (hl:c.length≤64) (hL:aDv c) (h0:c≠[]):(pgB c).length≤216 * c.length∧9≤(pgB c).length:=by
  have h1:=aCy (by omega) hL
  have h2:0<c.length:=List.length_pos_iff.2 h0
  unfold pgB
  rw [aGo]
  omega
theorem aVz {c:List S47} (hl:c.length≤64) (hL:aDv c):Bs (pgB c):=aPk (by decide) (aQb (by omega) hL)
theorem aO2 {cs:List (List S47)} (h:∀ c∈cs,c≠[]∧c.length≤64∧aDv c):((cs.map pgB).flatten).length≤216 * cs.flatten.length:=by
  induction cs with
  | nil=>exact Nat.le_refl _
  | cons c cs ih =>
    have h1:=ih fun x hx=>h x (List.mem_cons_of_mem _ hx)
    obtain⟨a,b,d⟩:=h c List.mem_cons_self
    have h2:=aM4 b d a
    simp only [List.map_cons,List.flatten_cons,List.length_append]
    omega
section
variable {k:Int} {r:List S47} (hg:Gd4 k r)
include hg
theorem aEc:∀ c∈pcs 64 r,c≠[]∧c.length≤64∧aDv c:=fun c hc=>by
  obtain⟨a,b,d⟩:=aD9 (by decide) r c hc
  exact⟨a,b,fun e he=>hg.laid e (d e he)⟩
theorem aD0:(pgs r).length≤216 * r.length:=by
  have:=aO2 (aEc hg)
  rwa [uJ (by decide)] at this
theorem aPl:Bs (pgs r):=fun b hb=>by
  obtain⟨p,hp,hb⟩:=List.mem_flatten.1 hb
  obtain⟨c,hc,rfl⟩:=List.mem_map.1 hp
  obtain⟨_,h2,h3⟩:=aEc hg c hc
  exact aVz h2 h3 b hb
end
theorem aKq:∀ (cs:List (List S47)) (acc:List Int),(∀ c∈cs,c≠[]∧c.length≤64∧aDv c)→acc.length+((cs.map pgB).flatten).length<1099511627776 →
    cs.foldlM (fun s l=>jL s l) acc=some (acc++(cs.map pgB).flatten)
  | [],acc,_,_=>by simp
  | c::cs,acc,h,hl=>by
    obtain⟨a,b,d⟩:=h c List.mem_cons_self
    simp only [List.map_cons,List.flatten_cons,List.length_append] at hl
    rw [List.foldlM_cons]
    unfold jL
    rw [aIn (by omega) d (by omega)]
    simp only [Option.bind_some,Option.bind_eq_bind]
    have:=aKq cs (acc++pgB c) (fun x hx=>h x (List.mem_cons_of_mem _ hx)) (by rw [List.length_append]; omega)
    rw [List.map_cons,List.flatten_cons, ← List.append_assoc]
    exact this
def rf (q:Nat×List S47):S64:=⟨gU q.1,pgs q.2,0⟩
theorem aRl {l:List S64} {n:List UInt8} (h:∀ x∈l,x.f0≠n):get l n=none:=List.find?_eq_none.2 fun x hx=>by simpa using h x hx
section
variable {kk n:Nat} {s:S58} {p:S26} {k:Int} {r:List S47} {O:List S64} {ns:List (Nat×List S47)}
theorem aOe (hp:s.f0.Perm (O++ns.map rf)) (hO:∀ x∈O,nY x.f0=false) (hlt:∀ q∈ns,q.1<n) (hn:n<600):get s.f0 (gU n)=none:=by
  refine aRl fun x hx e=>?_
  rcases List.mem_append.1 (hp.mem_iff.1 hx) with h | h
  · have:=hO x h
    rw [e,zZ] at this
    cases this
  · obtain⟨q,hq,rfl⟩:=List.mem_map.1 h
    have h1:=hlt q hq
    have:=aOr (by omega) hn e
    omega
theorem aFg (h:SI kk s) (hk:kk<4611686018427387904) (hon:s.f3=false) (hp:s.f0.Perm (O++ns.map rf)) (hO:∀ x∈O,nY x.f0=false) (hlt:∀ q∈ns,q.1<n) (hn:n<600) (hg:Gd4 k r) :
    ∃ e s',jO ⟨s,p,k,(n:Int)⟩ r=some (gU n,e,⟨s',p,k,((n+1:Nat):Int)⟩)∧SI (kk+1) s'∧Kp s s'∧oth s'.f0=oth s.f0 ∧
      ((e=0∧s'.f3=false∧s'.f0.Perm (O++(ns++[(n,r)]).map rf))∨(e=10∧s'=s∧(s.f1 - nJ s.f0<(pgs r).length∨500≤s.f0.length))∨(e=9∧s'.f3=true)):=by
  have hgn:=aOe hp hO hlt hn
  have hlen:=aD0 hg
  have hgl:=hg.len
  obtain⟨kp,hd⟩:=aO6 h hon (aKi n hn) (pgs r)
  refine⟨(yS s (gU n) (pgs r)).1,(yS s (gU n) (pgs r)).2,?_,h.app (aPl hg),kp,?_,?_⟩
  · unfold jO
    rw [aP6 (by omega)]
    simp only [Option.bind_some,lt_]
    have hd3:=aJr n
    rw [bG (by simp only [List.length_cons,List.length_nil,maxLen]; omega),w64 (n:=(n:Int)+1) (by omega) (by omega),bG (by omega),aKq _ _ (aEc hg) (by rw [List.length_nil]; unfold pgs at hlen; omega)]
    simp only [Option.bind_some,List.nil_append]
    unfold lH
    rw [show ((pcs 64 r).map pgB).flatten=pgs r from rfl,show ([114,117,110,46]:List UInt8)++aK8 n=gU n from rfl,h.Append hk (by have:=aJo n; omega)]
    rfl
  · rcases hd with ⟨_,e,_⟩ | ⟨_,e⟩
    · rw [e]
    · rw [e]
      exact aS2 h.rise (zZ n)
  · rw [hgn] at hd
    rcases hd with ⟨a,b,c⟩ | ⟨a | a,e⟩
    · exact .inr (.inl ⟨a,b,c⟩)
    · refine .inl ⟨a.1,a.2,?_⟩
      rw [e]
      refine (aO8 h.rise (by exact hgn)).trans ?_
      rw [List.map_append, ← List.append_assoc]
      exact (List.Perm.cons _ hp).trans (List.perm_append_singleton _ _).symm
    · exact .inr (.inr a)
end
theorem aEt {s:S58} {p:S26} {k:Int} {n:Int} {y:List Int×Int} (hB:Bs y.1) (hl:y.1.length<1099511627776):∀ (cs:List (List S47)) (P:List Int) (out:List S47),y.1=P++(cs.map pgB).flatten →
    (∀ c∈cs,(c≠[]∧c.length≤64∧aDv c)∧∀ e∈c,oS e k=true)→out.length+cs.flatten.length≤10000 →
    loop (fun q:Int×List S47×Int=>cW ⟨s,p,k,n⟩ y q.1 q.2.1 q.2.2) (0,out,(P.length:Int))=some (0,out++cs.flatten.map mI)
  | [],P,out,hy,_,_=>by
    refine bJ (b:=fun q:Int×List S47×Int=>cW ⟨s,p,k,n⟩ y q.1 q.2.1 q.2.2) ?_
    show cW ⟨s,p,k,n⟩ y 0 out (P.length:Int)=_
    unfold cW gR
    rw [if_pos (by rfl),if_neg (by rw [hy]; simp)]
    simp
  | c::cs,P,out,hy,h,hlo=>by
    obtain⟨⟨a,b,d⟩,f⟩:=h c List.mem_cons_self
    have hpl:=aM4 b d a
    rw [List.map_cons,List.flatten_cons] at hy
    rw [List.flatten_cons,List.length_append] at hlo
    have hr:rK y.1 (P.length:Int) k=some (c.map mI,((P.length+(pgB c).length:Nat):Int),0):=by
      rw [aGc hB hl,hy, ← List.append_assoc]
      unfold pgB
      rw [aQp (by omega) d,if_pos (List.all_eq_true.2 f)]
    rw [dB (b:=fun q:Int×List S47×Int=>cW ⟨s,p,k,n⟩ y q.1 q.2.1 q.2.2) (s':=(0,out++c.map mI,((P.length+(pgB c).length:Nat):Int))) (by
      show cW ⟨s,p,k,n⟩ y 0 out (P.length:Int)=_
      unfold cW gR
      rw [if_pos (by rfl),if_pos (by rw [hy]; simp only [decide_eq_true_eq,List.length_append]; omega)]
      show (rK y.1 (P.length:Int) k).bind _=_
      rw [hr]
      simp only [Option.bind_some]
      rw [bG (by simp only [List.length_map]; omega)])]
    have:=aEt (s:=s) (p:=p) (n:=n) hB hl cs (P++pgB c) (out++c.map mI) (by rw [hy,List.append_assoc]) (fun x hx=>h x (List.mem_cons_of_mem _ hx)) (by simp only [List.length_append,List.length_map]; omega)
    rw [List.length_append] at this
    rw [this,List.flatten_cons,List.map_append,List.append_assoc]
section
variable {kk n j:Nat} {s:S58} {p:S26} {k:Int} {r:List S47}
theorem aJe (h:SI kk s) (hk:kk<4611686018427387904) (hon:s.f3=false) (hj:j<600) (hx:get s.f0 (gU j)=some (rf (j,r))) (hg:Gd4 k r) (m:Int) :
    jQ ⟨s,p,k,m⟩ (gU j)=some (r.map mI,(kT s (gU j)).1,⟨(kT s (gU j)).2,p,k,m⟩):=by
  have hlen:=aD0 hg
  have hgl:=hg.len
  have hnl:=aJo j
  unfold jQ
  dsimp only
  rw [h.Read (by omega)]
  simp only [Option.bind_some]
  have hrd:aM8 s (gU j)=(pgs r,0):=by
    unfold aM8
    rw [if_pos (aIe (aKi j hj) hon),hx]
    rfl
  rw [hrd]
  have:=aEt (s:=s) (p:=p) (n:=m) (y:=(pgs r,0)) (k:=k) (aPl hg) (by dsimp only; omega) (pcs 64 r) [] [] rfl (fun c hc=>⟨aEc hg c hc,fun e he=>hg.form e ((aD9 (by decide) r c hc).2.2 e he)⟩) (by rw [uJ (by decide)]; simp only [List.length_nil]; omega)
  rw [uJ (by decide),List.nil_append,show ((([]:List Int).length:Nat):Int)=0 from rfl] at this
  rw [this]
  simp only [Option.bind_some]
  unfold kD mA
  rw [if_neg (by simp),h.Delete hk (by omega)]
  rfl
end
section
variable {α:Type} {lt:α→α→Bool}
theorem yE (h:SWO lt) {a a' b b':List α} (ha:sortL lt a=sortL lt a') (hb:sortL lt b=sortL lt b'):sortL lt (a++b)=sortL lt (a'++b'):=by
  rw [← aAn h a b,ha,hb,aAn h]
theorem aC3 (h:SWO lt) (a:List α):sortL lt (sortL lt a)=sortL lt a:=iH (oA h a)
end
def val (r:List S47):List S47:=r.map mI
theorem aJl (x:S47):∀ l:List S47,ins bef (mI x) (l.map mI)=(ins bef x l).map mI
  | []=>rfl
  | y::l=>by
    have ih:=aJl x l
    show (if bef x y=true then mI x::mI y::l.map mI else mI y::ins bef (mI x) (l.map mI))=List.map mI (if bef x y=true then x::y::l else y::ins bef x l)
    split
    · rfl
    · rw [ih]; rfl
theorem aE4:∀ (l acc:List S47),(l.map mI).foldl (fun acc x=>ins bef x acc) (acc.map mI)=(l.foldl (fun acc x=>ins bef x acc) acc).map mI
  | [],_=>rfl
  | x::l,acc=>by
    rw [List.map_cons,List.foldl_cons,List.foldl_cons,aJl]
    exact aE4 l _
theorem aA9 (l:List S47):sortL bef (val l)=val (sortL bef l):=aE4 l []
theorem aN7 (e:S47):mI (mI e)=mI e:=by unfold mI; rw [wT]
theorem aTw (r:List S47):val (val r)=val r:=by
  unfold val
  rw [List.map_map]
  exact List.map_congr_left fun e _=>aN7 e
theorem aEd (r:List S47):(val r).length=r.length:=by unfold val; rw [List.length_map]
theorem aTf (a b:List S47):val (a++b)=val a++val b:=by unfold val; rw [List.map_append]
theorem Srt.val {r:List S47} (h:Srt bef r):Srt bef (val r):=by
  unfold Srt P.val at *
  rw [List.pairwise_map]
  exact h
theorem Gd4.val {k:Int} {r:List S47} (h:Gd4 k r):Gd4 k (val r):=by
  refine⟨fun e he=>?_,fun e he=>?_,by rw [aEd]; exact h.len⟩
  · obtain⟨x,hx,rfl⟩:=List.mem_map.1 he
    obtain⟨a,b,c,d,f⟩:=h.laid x hx
    exact⟨a,b,c,d,aKk f⟩
  · obtain⟨x,hx,rfl⟩:=List.mem_map.1 he
    exact h.form x hx
theorem Gd4.sort {k:Int} {r:List S47} (h:Gd4 k r):Gd4 k (sortL bef r):=h.sub (fun x hx=>(aNq x r).1 hx) (by rw [aP]; exact h.len)
def tot (ns:List (Nat×List S47)):Nat:=(ns.map fun q=>q.2.length).sum
theorem aEf (a b:List (Nat×List S47)):tot (a++b)=tot a+tot b:=by simp [tot]
theorem aJf (q:Nat×List S47) (b:List (Nat×List S47)):tot (q::b)=q.2.length+tot b:=by simp [tot]
theorem yZ:∀ (ns:List (Nat×List S47)),((ns.map fun q=>val q.2).flatten).length=tot ns
  | []=>rfl
  | q::ns=>by rw [List.map_cons,List.flatten_cons,List.length_append,yZ ns,aJf,aEd]
theorem aL8 {k:Int}:∀ (ns:List (Nat×List S47)),(∀ q∈ns,Gd4 k q.2)→nJ (ns.map rf)≤216 * tot ns
  | [],_=>Nat.le_refl _
  | q::ns,h=>by
    have h1:=aL8 ns fun x hx=>h x (List.mem_cons_of_mem _ hx)
    have h2:=aD0 (h q List.mem_cons_self)
    rw [List.map_cons,vV,aJf]
    show (pgs q.2).length+_≤_
    omega
def aHe (s:S58) (O:List S64) (N:Nat):Prop:=s.f1<(nJ O+216 * N:Nat)∨245≤O.length
theorem aKf {k:Int} {s:S58} {O:List S64} {ns:List (Nat×List S47)} {r:List S47} {N:Nat} (hp:s.f0.Perm (O++ns.map rf)) (hns:∀ q∈ns,Gd4 k q.2) (hr:Gd4 k r) (hN:tot ns+r.length≤N) (hl:ns.length≤255)
    (h:s.f1 - nJ s.f0<(pgs r).length∨500≤s.f0.length):aHe s O N:=by
  have h1:=aL8 ns hns
  have h2:=aD0 hr
  have h3:=aOg hp
  have h4:=hp.length_eq
  rw [rT] at h3
  rw [List.length_append,List.length_map] at h4
  rcases h with h | h
  · left; omega
  · right; omega
section
variable {k:Int} {p:S26} {O:List S64} {R:List (Nat×List S47)}
theorem aMb {kk:Nat} {s:S58} (h:SI kk s) {ns:List (Nat×List S47)} (hp:s.f0.Perm (O++ns.map rf)) {q:Nat×List S47} (hq:q∈ns):get s.f0 (gU q.1)=some (rf q) :=
  aHv h.rise (x:=rf q) (hp.mem_iff.2 (List.mem_append.2 (.inr (List.mem_map.2 ⟨q,hq,rfl⟩))))
noncomputable abbrev aHc (A:List (List UInt8)) (s:S58) (p:S26) (k m:Int) (all:List (List S47)) (i:Int) :=
  loop (fun s=>fA A s.1 s.2.1 s.2.2.1 s.2.2.2.1 s.2.2.2.2.1 s.2.2.2.2.2.1 s.2.2.2.2.2.2.1 s.2.2.2.2.2.2.2.1 s.2.2.2.2.2.2.2.2.1 s.2.2.2.2.2.2.2.2.2.1 s.2.2.2.2.2.2.2.2.2.2) (s.f0,s.f1,s.f2,s.f3,s.f4,p.f0,p.f1,k,m,all,i)
theorem aHm {A:List (List UInt8)} {m:Int} (hA:A.length≤1000):∀ (G:List (Nat×List S47)) (i kk:Nat) (s:S58) (acc:List (List S47)),A.drop i=G.map (fun q=>gU q.1)→SI kk s→kk+G.length<4611686018427387904→s.f3=false →
    s.f0.Perm (O++(G++R).map rf)→(∀ q∈G,q.1<600∧Gd4 k q.2)→(∀ x∈O,nY x.f0=false)→i≤A.length→acc.length≤i →
    ∃ s',SI (kk+G.length) s'∧Kp s s'∧oth s'.f0=oth s.f0 ∧
      ((s'.f3=false∧s'.f0.Perm (O++R.map rf)∧aHc A s p k m acc (i:Int)=some (.inl (s'.f0,s'.f1,s'.f2,s'.f3,s'.f4,p.f0,p.f1,k,m,acc++G.map fun q=>val q.2))) ∨
        (s'.f3=true∧aHc A s p k m acc (i:Int)=some (.inr ([],9,⟨s',p,k,m⟩))))
  | [],i,kk,s,acc,hd,h,hk,hon,hp,hG,hO,hi,ha=>by
    have hl:A.length≤i:=by
      have:=congrArg List.length hd
      rw [List.length_drop] at this
      simp at this
      omega
    refine⟨s,h,Kp.refl s,rfl,.inl ⟨hon,hp,?_⟩⟩
    refine bJ ?_
    show fA A s.f0 s.f1 s.f2 s.f3 s.f4 p.f0 p.f1 k m acc (i:Int)=_
    unfold fA
    rw [if_neg (by simp only [decide_eq_true_eq]; omega)]
    simp
  | q::G,i,kk,s,acc,hd,h,hk,hon,hp,hG,hO,hi,ha=>by
    rw [List.length_cons] at hk
    have hil:i<A.length:=by
      have:=congrArg List.length hd
      rw [List.length_drop,List.length_map,List.length_cons] at this
      omega
    have hAi:A[i]?=some (gU q.1):=by
      have:=congrArg (fun l=>l[0]?) hd
      simpa using this
    have hd':A.drop (i+1)=G.map fun q=>gU q.1:=by
      have:=congrArg (List.drop 1) hd
      rw [List.drop_drop] at this
      simpa using this
    obtain⟨hq6,hqg⟩:=hG q List.mem_cons_self
    have hx:=aMb h hp (q:=q) (by simp)
    have hf:=aJe (p:=p) h (by omega) hon hq6 hx hqg m
    have hdl:=h.del (n:=gU q.1)
    obtain⟨kp,hc⟩:=aFk h hon hx fun x=>del s.f0 (gU q.1)
    have step:fA A s.f0 s.f1 s.f2 s.f3 s.f4 p.f0 p.f1 k m acc (i:Int)=if (kT s (gU q.1)).1=0 then some (.inl ((kT s (gU q.1)).2.f0,(kT s (gU q.1)).2.f1,(kT s (gU q.1)).2.f2,(kT s (gU q.1)).2.f3,(kT s (gU q.1)).2.f4,p.f0,p.f1,k,m,acc++[val q.2],((i+1:Nat):Int))) else some (.inr (.inr ([],(kT s (gU q.1)).1,⟨(kT s (gU q.1)).2,p,k,m⟩))):=by
      unfold fA
      rw [if_pos (by simp only [decide_eq_true_eq]; omega),aI rfl hAi]
      simp only [Option.bind_some]
      rw [show (⟨⟨s.f0,s.f1,s.f2,s.f3,s.f4⟩,⟨p.f0,p.f1⟩,k,m⟩:S67)=⟨s,p,k,m⟩ from rfl,hf]
      simp only [Option.bind_some]
      by_cases c:(kT s (gU q.1)).1=0
      · rw [if_neg (by simp [c]),if_pos c,bG (by simp only [List.length_cons,List.length_nil]; omega),lt_,w64 (by omega) (by omega)]
        rfl
      · rw [if_pos (by simpa using c),if_neg c]
    rcases hc with ⟨e0,on1,l1⟩ | ⟨e9,off1,l1⟩
    · have e0':(kT s (gU q.1)).1=0:=e0
      have l1':(kT s (gU q.1)).2.f0=del s.f0 (gU q.1):=l1
      rw [if_pos e0'] at step
      have hp':(kT s (gU q.1)).2.f0.Perm (O++(G++R).map rf):=by
        rw [l1']
        have h1:=(aJk h.rise hx).symm.trans hp
        rw [List.cons_append,List.map_cons] at h1
        exact (h1.trans List.perm_middle).cons_inv
      obtain⟨s',i1,i2,i3,i4⟩:=aHm (m:=m) hA G (i+1) (kk+1) (kT s (gU q.1)).2 (acc++[val q.2]) hd' hdl (by omega) on1 hp' (fun x hx=>hG x (List.mem_cons_of_mem _ hx)) hO (by omega) (by rw [List.length_append]; simp; omega)
      have hj:aHc A s p k m acc (i:Int)=aHc A (kT s (gU q.1)).2 p k m (acc++[val q.2]) ((i+1:Nat):Int):=dB step
      refine⟨s',by rw [List.length_cons,show kk+(G.length+1)=kk+1+G.length by omega]; exact i1,Kp.trans kp i2,by rw [i3,l1',aHp (zZ q.1)],?_⟩
      rw [hj]
      rcases i4 with ⟨a,b,c⟩ | c
      · exact .inl ⟨a,b,by rw [c,List.map_cons,List.append_assoc]; rfl⟩
      · exact .inr c
    · have e9':(kT s (gU q.1)).1=9:=e9
      have l1':(kT s (gU q.1)).2.f0=s.f0:=l1
      rw [if_neg (by rw [e9']; decide),e9'] at step
      exact⟨(kT s (gU q.1)).2,hdl.mono (by rw [List.length_cons]; omega),kp,by rw [l1'],.inr ⟨off1,bJ step⟩⟩
theorem aOb {kk n N:Nat} {s:S58} {G:List (Nat×List S47)} (h:SI kk s) (hk:kk+1000<4611686018427387904) (hon:s.f3=false) (hp:s.f0.Perm (O++(G++R).map rf)) (hO:∀ x∈O,nY x.f0=false)
    (hlt:∀ q∈G++R,q.1<n) (hn:n+(G++R).length≤510) (hl:(G++R).length≤255) (hG0:G≠[]) (z:G.length≤16) (hgd:∀ q∈G++R,Gd4 k q.2∧Srt bef q.2) (hN:tot (G++R)≤N) (hN2:N≤1000) :
    ∃ nm e s' n',mW ⟨s,p,k,(n:Int)⟩ (G.map fun q=>gU q.1)=some (nm,e,⟨s',p,k,((n':Nat):Int)⟩)∧SI (kk+G.length+1) s'∧Kp s s'∧oth s'.f0=oth s.f0 ∧
      ((e=0∧s'.f3=false∧∃ q:Nat×List S47,nm=gU q.1∧s'.f0.Perm (O++(q::R).map rf)∧q.1<n'∧n≤n'∧n'+(q::R).length≤510∧Gd4 k q.2∧Srt bef q.2∧val q.2=sortL bef (G.map fun q=>val q.2).flatten∧q.2.length=tot G) ∨
        (e=10∧s'.f3=false∧aHe s' O N)∨(e=9∧s'.f3=true)):=by
  have hGl:0<G.length:=List.length_pos_iff.2 hG0
  rw [List.length_append] at hn hl
  rw [aEf] at hN
  unfold mW
  by_cases c1:G.length=1
  · obtain⟨q,rfl⟩:∃ q,G=[q]:=List.length_eq_one_iff.1 c1
    rw [if_pos (by simp),show at_ (List.map (fun q:Nat×List S47=>gU q.1) [q]) 0=some (gU q.1) from rfl]
    simp only [Option.bind_some]
    obtain⟨g1,g2⟩:=hgd q (by simp)
    refine⟨_,_,s,n,rfl,h.mono (by omega),Kp.refl s,rfl,.inl ⟨rfl,hon,q,rfl,hp,hlt q (by simp),Nat.le_refl _,by rw [List.length_cons] at hn ⊢; simp only [List.length_nil] at hn; omega,g1,g2,?_,by simp [tot]⟩⟩
    rw [List.map_cons,List.map_nil,List.flatten_cons,List.flatten_nil,List.append_nil]
    exact (iH g2.val).symm
  · rw [if_neg (by rw [List.length_map]; simp; omega)]
    obtain⟨s1,i1,i2,i3,i4⟩:=aHm (A:=G.map fun q=>gU q.1) (p:=p) (m:=(n:Int)) (R:=R) (by rw [List.length_map]; omega) G 0 kk s [] (by rw [List.drop_zero]) h (by omega) hon hp (fun q hq=>⟨by have:=hlt q (List.mem_append.2 (.inl hq)); omega,(hgd q (List.mem_append.2 (.inl hq))).1⟩) hO (Nat.zero_le _) (Nat.le_refl _)
    dsimp only
    rcases i4 with ⟨on1,hp1,hj⟩ | ⟨off1,hj⟩
    · have hj':=hj
      rw [show (((0:Nat):Int))=0 from rfl] at hj'
      unfold aHc at hj'
      rw [hj']
      simp only [Option.bind_some,List.nil_append]
      unfold lK mV
      have hvl:∀ r∈G.map (fun q=>val q.2),r.length<2 ^ 60:=fun r hr=>by
        obtain⟨q,hq,rfl⟩:=List.mem_map.1 hr
        have:=(hgd q (List.mem_append.2 (.inl hq))).1.len
        rw [aEd]; omega
      have hvo:Ok (G.map fun q=>val q.2):=fun r hr=>by
        obtain⟨q,hq,rfl⟩:=List.mem_map.1 hr
        exact (hgd q (List.mem_append.2 (.inl hq))).2.val
      have hm:rO (G.map fun q=>val q.2)=some (sortL bef (G.map fun q=>val q.2).flatten,0):=by
        rcases aWw (G.map fun q=>val q.2) hvl (by rw [List.length_map]; omega) (by rw [yZ]; omega) with ⟨a,_⟩ | ⟨_,_,a,_⟩ | ⟨_,_,_,a⟩
        · rw [List.length_map] at a; omega
        · exact absurd hvo a
        · exact a
      rw [hm]
      simp only [Option.bind_some]
      rw [if_neg (by simp)]
      have hgv:Gd4 k (sortL bef (G.map fun q=>val q.2).flatten):=by
        refine Gd4.sort ⟨fun e he=>?_,fun e he=>?_,by rw [yZ]; omega⟩
        · obtain⟨r,hr,he⟩:=List.mem_flatten.1 he
          obtain⟨q,hq,rfl⟩:=List.mem_map.1 hr
          exact (hgd q (List.mem_append.2 (.inl hq))).1.val.laid e he
        · obtain⟨r,hr,he⟩:=List.mem_flatten.1 he
          obtain⟨q,hq,rfl⟩:=List.mem_map.1 hr
          exact (hgd q (List.mem_append.2 (.inl hq))).1.val.form e he
      obtain⟨e,s2,j1,j2,j3,j4,j5⟩:=aFg (p:=p) i1 (by omega) on1 hp1 hO (fun q hq=>hlt q (List.mem_append.2 (.inr hq))) (by omega) hgv
      rw [show (⟨⟨s1.f0,s1.f1,s1.f2,s1.f3,s1.f4⟩,⟨p.f0,p.f1⟩,k,(n:Int)⟩:S67)=⟨s1,p,k,(n:Int)⟩ from rfl,j1]
      refine⟨_,_,s2,n+1,rfl,j2,Kp.trans i2 j3,by rw [j4,i3],?_⟩
      have hvv:val (sortL bef (G.map fun q=>val q.2).flatten)=sortL bef (G.map fun q=>val q.2).flatten:=by
        rw [← aA9]
        congr 1
        unfold val
        rw [List.map_flatten,List.map_map]
        congr 1
        exact List.map_congr_left fun q _=>aTw q.2
      rcases j5 with ⟨a,b,c⟩ | ⟨a,b,c⟩ | a
      · refine .inl ⟨a,b,(n,sortL bef (G.map fun q=>val q.2).flatten),rfl,?_,by omega,by omega,by rw [List.length_cons]; omega,hgv,oA bef_swo _,hvv,by rw [aP,yZ]⟩
        refine c.trans ?_
        rw [List.map_append,List.map_cons]
        exact (List.perm_append_singleton _ _).append_left O
      · exact .inr (.inl ⟨a,by rw [b]; exact on1,by rw [b]; exact aKf hp1 (fun q hq=>(hgd q (List.mem_append.2 (.inr hq))).1) hgv (by rw [aP,yZ]; omega) (by omega) c⟩)
      · exact .inr (.inr a)
    · have hj':=hj
      rw [show (((0:Nat):Int))=0 from rfl] at hj'
      unfold aHc at hj'
      rw [hj']
      exact⟨_,_,s1,n,rfl,i1.mono (by omega),i2,i3,.inr (.inr ⟨rfl,off1⟩)⟩
end
section
variable {σ β τ:Type} {φ:σ→β→Option (σ⊕τ)} {x:β} {xs:List β} {s s':σ} {t:τ}
theorem aMl (h:φ s x=some (.inl s')):oP φ (x::xs) s=oP φ xs s':=by simp only [oP,h]
theorem aD3 (h:φ s x=some (.inr t)):oP φ (x::xs) s=some (.inr t):=by simp only [oP,h]
end
def nmR (q:Nat×List S47):List UInt8:=gU q.1
def vf (ids:List (Nat×List S47)):List S47:=(ids.map fun q=>val q.2).flatten
theorem aQk (a b:List (Nat×List S47)):vf (a++b)=vf a++vf b:=by simp [vf]
theorem aLm (q:Nat×List S47):vf [q]=val q.2:=by simp [vf]
structure Rst (k:Int) (O:List S64) (N kk:Nat) (s:S58) (n:Nat) (ids:List (Nat×List S47)):Prop where
  si:SI kk s
  on:s.f3=false
  perm:s.f0.Perm (O++ids.map rf)
  lt:∀ q∈ids,q.1<n
  cnt:n+ids.length≤510
  len:ids.length≤255
  gd:∀ q∈ids,Gd4 k q.2∧Srt bef q.2
  tot:tot ids≤N
def Bad (O:List S64) (N:Nat) (s:S58) (e:Int):Prop:=(e=10∧s.f3=false∧aHe s O N)∨(e=9∧s.f3=true)
section
variable {k:Int} {p:S26} {O:List S64} {N:Nat} (hO:∀ x∈O,nY x.f0=false) (hN:N≤1000)
include hO hN
theorem aHf:∀ (cs:List (List S47)) (done:List (Nat×List S47)) (kk n:Nat) (s:S58),Rst k O N kk s n done→kk+cs.length+1000<4611686018427387904→n+done.length+2 * cs.length≤510→done.length+cs.length≤255 →
    (∀ c∈cs,Gd4 k c)→P.tot done+cs.flatten.length≤N →
    ∃ s' n',SI (kk+cs.length) s'∧Kp s s'∧oth s'.f0=oth s.f0 ∧
      ((∃ ids,oP (fun s l=>fV s.1 s.2.1 s.2.2.1 s.2.2.2.1 s.2.2.2.2.1 s.2.2.2.2.2.1 s.2.2.2.2.2.2.1 s.2.2.2.2.2.2.2.1 s.2.2.2.2.2.2.2.2.1 s.2.2.2.2.2.2.2.2.2 l) cs (s.f0,s.f1,s.f2,s.f3,s.f4,p.f0,p.f1,k,(n:Int),done.map nmR)=some (.inl (s'.f0,s'.f1,s'.f2,s'.f3,s'.f4,p.f0,p.f1,k,((n':Nat):Int),ids.map nmR)) ∧
        Rst k O N (kk+cs.length) s' n' ids∧ids.length=done.length+cs.length∧P.tot ids=P.tot done+cs.flatten.length∧sortL bef (vf ids)=sortL bef (vf done++val cs.flatten)) ∨
       ∃ e,oP (fun s l=>fV s.1 s.2.1 s.2.2.1 s.2.2.2.1 s.2.2.2.2.1 s.2.2.2.2.2.1 s.2.2.2.2.2.2.1 s.2.2.2.2.2.2.2.1 s.2.2.2.2.2.2.2.2.1 s.2.2.2.2.2.2.2.2.2 l) cs (s.f0,s.f1,s.f2,s.f3,s.f4,p.f0,p.f1,k,(n:Int),done.map nmR)=some (.inr (s'.f0,s'.f1,s'.f2,s'.f3,s'.f4,p.f0,p.f1,k,((n':Nat):Int),e))∧Bad O N s' e)
  | [],done,kk,n,s,h,hk,hn,hl,hc,ht=>⟨s,n,h.si,Kp.refl s,rfl,.inl ⟨done,rfl,h,rfl,by simp,by simp [val]⟩⟩
  | c::cs,done,kk,n,s,h,hk,hn,hl,hc,ht=>by
    rw [List.length_cons] at hn hl hk
    rw [List.flatten_cons,List.length_append] at ht
    have hcg:=hc c List.mem_cons_self
    obtain⟨e,s1,j1,j2,j3,j4,j5⟩:=aFg (p:=p) h.si (by omega) h.on h.perm hO h.lt (by omega) hcg.sort
    have hr:fV s.f0 s.f1 s.f2 s.f3 s.f4 p.f0 p.f1 k (n:Int) (done.map nmR) c=if e=0 then some (.inl (s1.f0,s1.f1,s1.f2,s1.f3,s1.f4,p.f0,p.f1,k,((n+1:Nat):Int),(done++[(n,sortL bef c)]).map nmR)) else some (.inr (s1.f0,s1.f1,s1.f2,s1.f3,s1.f4,p.f0,p.f1,k,((n+1:Nat):Int),e)):=by
      unfold fV
      rw [aN5 c (by have:=hcg.len; omega)]
      simp only [Option.bind_some]
      rw [show (⟨⟨s.f0,s.f1,s.f2,s.f3,s.f4⟩,⟨p.f0,p.f1⟩,k,(n:Int)⟩:S67)=⟨s,p,k,(n:Int)⟩ from rfl,j1]
      simp only [Option.bind_some]
      by_cases c0:e=0
      · rw [if_neg (by simp [c0]),if_pos c0,bG (by simp only [List.length_map,List.length_cons,List.length_nil]; omega),List.map_append]
        rfl
      · rw [if_pos (by simpa using c0),if_neg c0]
    rcases j5 with ⟨a,b,d⟩ | ⟨a,b,d⟩ | ⟨a,b⟩
    · rw [if_pos a] at hr
      have t1:P.tot (done++[(n,sortL bef c)])=P.tot done+c.length:=by rw [aEf]; simp [P.tot,aP]
      have h1:Rst k O N (kk+1) s1 (n+1) (done++[(n,sortL bef c)]):=by
        refine⟨j2,b,d,fun q hq=>?_,by rw [List.length_append,List.length_singleton]; omega,by rw [List.length_append,List.length_singleton]; omega,fun q hq=>?_,by rw [t1]; omega⟩
        · rcases List.mem_append.1 hq with hq | hq
          · have:=h.lt q hq; omega
          · cases List.mem_singleton.1 hq; exact Nat.lt_succ_self n
        · rcases List.mem_append.1 hq with hq | hq
          · exact h.gd q hq
          · cases List.mem_singleton.1 hq; exact⟨hcg.sort,oA bef_swo c⟩
      obtain⟨s',n',i1,i2,i3,i4⟩:=aHf cs (done++[(n,sortL bef c)]) (kk+1) (n+1) s1 h1 (by omega) (by rw [List.length_append,List.length_singleton]; omega) (by rw [List.length_append,List.length_singleton]; omega) (fun x hx=>hc x (List.mem_cons_of_mem _ hx)) (by rw [t1]; omega)
      refine⟨s',n',by rw [List.length_cons,show kk+(cs.length+1)=kk+1+cs.length by omega]; exact i1,Kp.trans j3 i2,by rw [i3,j4],?_⟩
      rw [aMl hr]
      rcases i4 with ⟨ids,f1,f2,f3,f4,f5⟩ | ⟨e,f1,f2⟩
      · refine .inl ⟨ids,f1,by rw [List.length_cons,show kk+(cs.length+1)=kk+1+cs.length by omega]; exact f2,by rw [f3,List.length_append,List.length_singleton,List.length_cons]; omega,by rw [f4,t1,List.flatten_cons,List.length_append]; omega,?_⟩
        rw [f5,aQk,aLm,List.flatten_cons,aTf, ← List.append_assoc]
        refine yE bef_swo (yE bef_swo rfl ?_) rfl
        show sortL bef (val (sortL bef c))=_
        rw [← aA9,aC3 bef_swo]
      · exact .inr ⟨e,f1,f2⟩
    · rw [if_neg (by rw [a]; decide)] at hr
      refine⟨s1,n+1,j2.mono (by rw [List.length_cons]; omega),j3,j4,.inr ⟨e,aD3 hr,.inl ⟨a,by rw [b]; exact h.on,?_⟩⟩⟩
      rw [b]
      exact aKf h.perm (fun q hq=>(h.gd q hq).1) hcg.sort (by rw [aP]; omega) (by omega) d
    · rw [if_neg (by rw [a]; decide)] at hr
      exact⟨s1,n+1,j2.mono (by rw [List.length_cons]; omega),j3,j4,.inr ⟨e,aD3 hr,.inr ⟨a,b⟩⟩⟩
theorem aGv:∀ (gs:List (List (Nat×List S47))) (done:List (Nat×List S47)) (kk n:Nat) (s:S58),Rst k O N kk s n (done++gs.flatten)→kk+17 * gs.length+1000<4611686018427387904→(∀ g∈gs,g≠[]∧g.length≤16) →
    ∃ s' n',SI (kk+17 * gs.length) s'∧Kp s s'∧oth s'.f0=oth s.f0 ∧
      ((∃ ids,oP (fun s l=>eZ s.1 s.2.1 s.2.2.1 s.2.2.2.1 s.2.2.2.2.1 s.2.2.2.2.2.1 s.2.2.2.2.2.2.1 s.2.2.2.2.2.2.2.1 s.2.2.2.2.2.2.2.2.1 s.2.2.2.2.2.2.2.2.2 l) (gs.map (List.map nmR)) (s.f0,s.f1,s.f2,s.f3,s.f4,p.f0,p.f1,k,(n:Int),done.map nmR)=some (.inl (s'.f0,s'.f1,s'.f2,s'.f3,s'.f4,p.f0,p.f1,k,((n':Nat):Int),ids.map nmR)) ∧
        Rst k O N (kk+17 * gs.length) s' n' ids∧ids.length=done.length+gs.length∧sortL bef (vf ids)=sortL bef (vf (done++gs.flatten))) ∨
       ∃ e,oP (fun s l=>eZ s.1 s.2.1 s.2.2.1 s.2.2.2.1 s.2.2.2.2.1 s.2.2.2.2.2.1 s.2.2.2.2.2.2.1 s.2.2.2.2.2.2.2.1 s.2.2.2.2.2.2.2.2.1 s.2.2.2.2.2.2.2.2.2 l) (gs.map (List.map nmR)) (s.f0,s.f1,s.f2,s.f3,s.f4,p.f0,p.f1,k,(n:Int),done.map nmR)=some (.inr (s'.f0,s'.f1,s'.f2,s'.f3,s'.f4,p.f0,p.f1,k,((n':Nat):Int),e))∧Bad O N s' e)
  | [],done,kk,n,s,h,hk,hg=>by
    rw [List.flatten_nil,List.append_nil] at h
    exact⟨s,n,h.si,Kp.refl s,rfl,.inl ⟨done,rfl,h,rfl,by rw [List.flatten_nil,List.append_nil]⟩⟩
  | g::gs,done,kk,n,s,h,hk,hg=>by
    rw [List.length_cons] at hk
    obtain⟨g0,C⟩:=hg g List.mem_cons_self
    rw [List.flatten_cons] at h
    have hpm:(done++(g++gs.flatten)).Perm (g++(done++gs.flatten)):=by
      rw [← List.append_assoc, ← List.append_assoc]
      exact List.perm_append_comm.append_right _
    have hmem:∀ q∈g++(done++gs.flatten),q∈done++(g++gs.flatten):=fun q hq=>hpm.mem_iff.2 hq
    have htt:P.tot (g++(done++gs.flatten))=P.tot (done++(g++gs.flatten)):=by simp only [aEf]; omega
    obtain⟨nm,e,s1,n1,j1,j2,j3,j4,j5⟩:=aOb (p:=p) h.si (by omega) h.on (h.perm.trans ((hpm.map rf).append_left O)) hO (fun q hq=>h.lt q (hmem q hq)) (by rw [← hpm.length_eq]; exact h.cnt) (by rw [← hpm.length_eq]; exact h.len) g0 C (fun q hq=>h.gd q (hmem q hq)) (by rw [htt]; exact h.tot) hN
    have hr:eZ s.f0 s.f1 s.f2 s.f3 s.f4 p.f0 p.f1 k (n:Int) (done.map nmR) (g.map nmR)=if e=0 then some (.inl (s1.f0,s1.f1,s1.f2,s1.f3,s1.f4,p.f0,p.f1,k,((n1:Nat):Int),done.map nmR++[nm])) else some (.inr (s1.f0,s1.f1,s1.f2,s1.f3,s1.f4,p.f0,p.f1,k,((n1:Nat):Int),e)):=by
      have hdl:done.length≤255:=by have:=h.len; rw [List.length_append] at this; omega
      unfold eZ
      rw [show (⟨⟨s.f0,s.f1,s.f2,s.f3,s.f4⟩,⟨p.f0,p.f1⟩,k,(n:Int)⟩:S67)=⟨s,p,k,(n:Int)⟩ from rfl,show g.map nmR=g.map (fun q=>gU q.1) from rfl,j1]
      simp only [Option.bind_some]
      by_cases c0:e=0
      · rw [if_neg (by simp [c0]),if_pos c0,bG (by simp only [List.length_map,List.length_cons,List.length_nil]; omega)]
      · rw [if_pos (by simpa using c0),if_neg c0]
    rw [List.map_cons]
    rcases j5 with ⟨a,b,q,q1,q2,q3,q4,q5,q6,q7,q8,q9⟩ | ⟨a,b,d⟩ | ⟨a,b⟩
    · rw [if_pos a] at hr
      have hpm2:(q::(done++gs.flatten)).Perm ((done++[q])++gs.flatten):=by
        rw [List.append_assoc,List.singleton_append]
        exact List.perm_middle.symm
      have h1:Rst k O N (kk+17) s1 n1 ((done++[q])++gs.flatten):=by
        refine⟨j2.mono (by omega),b,q2.trans ((hpm2.map rf).append_left O),fun z hz=>?_,by rw [← hpm2.length_eq]; exact q5,?_,fun z hz=>?_,?_⟩
        · rcases List.mem_cons.1 (hpm2.mem_iff.2 hz) with rfl | hz
          · exact q3
          · have:=h.lt z (hmem z (List.mem_append.2 (.inr hz))); omega
        · have h2:=h.len
          have h3:0<g.length:=List.length_pos_iff.2 g0
          simp only [List.length_append,List.length_singleton] at h2 ⊢
          omega
        · rcases List.mem_cons.1 (hpm2.mem_iff.2 hz) with rfl | hz
          · exact⟨q6,q7⟩
          · exact h.gd z (hmem z (List.mem_append.2 (.inr hz)))
        · have h2:=h.tot
          simp only [aEf] at h2 ⊢
          have:P.tot [q]=q.2.length:=by simp [P.tot]
          omega
      obtain⟨s',n',i1,i2,i3,i4⟩:=aGv gs (done++[q]) (kk+17) n1 s1 h1 (by omega) fun x hx=>hg x (List.mem_cons_of_mem _ hx)
      rw [show kk+17+17 * gs.length=kk+17 * (g::gs).length by rw [List.length_cons]; omega] at i1 i4
      refine⟨s',n',i1,Kp.trans j3 i2,by rw [i3,j4],?_⟩
      rw [aMl hr,q1,show done.map nmR++[gU q.1]=(done++[q]).map nmR from by rw [List.map_append]; rfl]
      rcases i4 with ⟨ids,f1,f2,f3,f5⟩ | ⟨e,f1,f2⟩
      · refine .inl ⟨ids,f1,f2,by rw [f3,List.length_append,List.length_singleton,List.length_cons]; omega,?_⟩
        rw [f5,List.flatten_cons]
        simp only [aQk,aLm,List.append_assoc]
        refine yE bef_swo rfl (yE bef_swo ?_ rfl)
        rw [q8,aC3 bef_swo]
        rfl
      · exact .inr ⟨e,f1,f2⟩
    · rw [if_neg (by rw [a]; decide)] at hr
      exact⟨s1,n1,j2.mono (by rw [List.length_cons]; omega),j3,j4,.inr ⟨e,aD3 hr,.inl ⟨a,b,d⟩⟩⟩
    · rw [if_neg (by rw [a]; decide)] at hr
      exact⟨s1,n1,j2.mono (by rw [List.length_cons]; omega),j3,j4,.inr ⟨e,aD3 hr,.inr ⟨a,b⟩⟩⟩
end
theorem aTt {α β:Type} {q:Nat} (g:α→β) (xs:List α):pcs q (xs.map g)=(pcs q xs).map (List.map g):=by
  unfold pcs
  rw [List.length_map,List.map_map]
  refine List.map_congr_left fun k _=>?_
  show ((xs.map g).drop (k * q)).take q=((xs.drop (k * q)).take q).map g
  rw [List.map_take,List.map_drop]
inductive Ps (f:Nat):Nat→Nat→Prop
  | one {m:Nat} (h:m≤1):Ps f m 0
  | more {m t:Nat} (h:1<m) (ht:Ps f ((m+f - 1) / f) t):Ps f m (t+1)
theorem Ps.uniq {f m t t':Nat} (h:Ps f m t):Ps f m t'→t=t':=by
  induction h generalizing t' with
  | one h1 =>
    intro h'
    cases h' with
    | one _=>rfl
    | more h2 _=>omega
  | more h1 _ ih =>
    intro h'
    cases h' with
    | one h2=>omega
    | more _ h3=>rw [ih h3]
theorem aT0 {m f:Nat} (hm:1<m) (hf:2≤f):(m+f - 1) / f<m∧51 * ((m+f - 1) / f)≤34 * m∧0<(m+f - 1) / f:=by
  have h1:(m+f - 1) / f≤(m+1) / 2:=by
    rw [Nat.le_div_iff_mul_le (by omega)]
    have h3:=Nat.div_mul_le_self (m+f - 1) f
    generalize (m+f - 1) / f=c at *
    by_cases hc:c≤1
    · omega
    · obtain⟨d,rfl⟩:∃ d,c=d+1:=⟨c - 1,by omega⟩
      have h4:d * 2≤d * f:=Nat.mul_le_mul_left d hf
      rw [Nat.add_mul,Nat.one_mul] at h3
      omega
  have h2:0<(m+f - 1) / f:=Nat.div_pos (by omega) (by omega)
  omega
section
variable {k:Int} {p:S26} {O:List S64} {N f:Nat} (hO:∀ x∈O,nY x.f0=false) (hN:N≤1000) (hf:p.f1=(f:Int)) (hf2:2≤f∧f≤16)
include hO hN hf hf2
theorem aJ8:∀ (m:Nat) (ids:List (Nat×List S47)) (kk n x:Nat) (s:S58),ids.length=m→Rst k O N kk s n ids→kk+34 * m+2000<4611686018427387904→x+m≤1000 →
    ∃ s' n',SI (kk+34 * m) s'∧Kp s s'∧oth s'.f0=oth s.f0 ∧
      ((∃ ids' t,loop (fun s=>cK s.1 s.2.1 s.2.2.1 s.2.2.2.1 s.2.2.2.2.1 s.2.2.2.2.2.1 s.2.2.2.2.2.2.1 s.2.2.2.2.2.2.2.1 s.2.2.2.2.2.2.2.2.1 s.2.2.2.2.2.2.2.2.2.1 s.2.2.2.2.2.2.2.2.2.2) (s.f0,s.f1,s.f2,s.f3,s.f4,p.f0,p.f1,k,(n:Int),ids.map nmR,(x:Int))=some (.inl (s'.f0,s'.f1,s'.f2,s'.f3,s'.f4,p.f0,p.f1,k,((n':Nat):Int),ids'.map nmR,((x+t:Nat):Int))) ∧
        Rst k O N (kk+34 * m) s' n' ids'∧ids'.length=min m 1∧Ps f m t∧sortL bef (vf ids')=sortL bef (vf ids)) ∨
       ∃ e,loop (fun s=>cK s.1 s.2.1 s.2.2.1 s.2.2.2.1 s.2.2.2.2.1 s.2.2.2.2.2.1 s.2.2.2.2.2.2.1 s.2.2.2.2.2.2.2.1 s.2.2.2.2.2.2.2.2.1 s.2.2.2.2.2.2.2.2.2.1 s.2.2.2.2.2.2.2.2.2.2) (s.f0,s.f1,s.f2,s.f3,s.f4,p.f0,p.f1,k,(n:Int),ids.map nmR,(x:Int))=some (.inr ([],0,0,e,⟨s',p,k,((n':Nat):Int)⟩))∧Bad O N s' e):=by
  intro m
  induction m using Nat.strongRecOn with
  | _ m ih =>
    intro ids kk n x s hm h hk hx
    have hl:=h.len
    by_cases c:1<m
    · obtain⟨c1,c2,c3⟩:=aT0 c hf2.1
      have hgl:(pcs f ids).length=(m+f - 1) / f:=by rw [aEe,hm]
      obtain⟨s1,n1,i1,i2,i3,i4⟩:=aGv (p:=p) hO hN (pcs f ids) [] kk n s (by rw [List.nil_append,uJ (by omega)]; exact h) (by rw [hgl]; omega) fun g hg=>by
        obtain⟨a,b,_⟩:=aD9 (by omega) ids g hg
        exact⟨a,by omega⟩
      have hr:∀ o,oP (fun s l=>eZ s.1 s.2.1 s.2.2.1 s.2.2.2.1 s.2.2.2.2.1 s.2.2.2.2.2.1 s.2.2.2.2.2.2.1 s.2.2.2.2.2.2.2.1 s.2.2.2.2.2.2.2.2.1 s.2.2.2.2.2.2.2.2.2 l) ((pcs f ids).map (List.map nmR)) (s.f0,s.f1,s.f2,s.f3,s.f4,p.f0,p.f1,k,(n:Int),([]:List (Nat×List S47)).map nmR)=some o →
          cK s.f0 s.f1 s.f2 s.f3 s.f4 p.f0 p.f1 k (n:Int) (ids.map nmR) (x:Int)=match o with | .inl t=>jK (x:Int) t.1 t.2.1 t.2.2.1 t.2.2.2.1 t.2.2.2.2.1 t.2.2.2.2.2.1 t.2.2.2.2.2.2.1 t.2.2.2.2.2.2.2.1 t.2.2.2.2.2.2.2.2.1 t.2.2.2.2.2.2.2.2.2 | .inr t=>jH t.1 t.2.1 t.2.2.1 t.2.2.2.1 t.2.2.2.2.1 t.2.2.2.2.2.1 t.2.2.2.2.2.2.1 t.2.2.2.2.2.2.2.1 t.2.2.2.2.2.2.2.2.1 t.2.2.2.2.2.2.2.2.2:=by
        intro o ho
        unfold cK
        rw [if_pos (by rw [List.length_map]; simp only [decide_eq_true_eq]; omega),bG (by omega),bG ⟨by rw [List.length_map]; omega,by omega,by omega⟩,show p.f1.toNat=f from by omega,aTt]
        have ho':=ho
        rw [List.map_nil] at ho'
        rw [ho']
        rfl
      rcases i4 with ⟨ids1,f1,f2,f3,f5⟩ | ⟨e,f1,f2⟩
      · have hs:=hr _ f1
        dsimp only at hs
        unfold jK at hs
        rw [lt_,w64 (by omega) (by omega),show ((x:Int)+1)=((x+1:Nat):Int) from rfl] at hs
        rw [hgl] at f2 i1
        rw [hgl,List.length_nil,Nat.zero_add] at f3
        obtain⟨s',n',j1,j2,j3,j4⟩:=ih _ c1 ids1 _ n1 (x+1) s1 f3 f2 (by omega) (by omega)
        refine⟨s',n',j1.mono (by omega),Kp.trans i2 j2,by rw [j3,i3],?_⟩
        rw [dB (b:=fun s:List S64×Int×Int×Bool×Int×Int×Int×Int×Int×List (List UInt8)×Int=>cK s.1 s.2.1 s.2.2.1 s.2.2.2.1 s.2.2.2.2.1 s.2.2.2.2.2.1 s.2.2.2.2.2.2.1 s.2.2.2.2.2.2.2.1 s.2.2.2.2.2.2.2.2.1 s.2.2.2.2.2.2.2.2.2.1 s.2.2.2.2.2.2.2.2.2.2) hs]
        rcases j4 with ⟨ids',t,g1,g2,g3,g4,g5⟩ | ⟨e,g1,g2⟩
        · refine .inl ⟨ids',t+1,by rw [g1,show x+1+t=x+(t+1) by omega],⟨g2.si.mono (by omega),g2.on,g2.perm,g2.lt,g2.cnt,g2.len,g2.gd,g2.tot⟩,by rw [g3]; omega,.more c g4,?_⟩
          rw [g5,f5,List.nil_append,uJ (by omega)]
        · exact .inr ⟨e,g1,g2⟩
      · have hs:=hr _ f1
        dsimp only at hs
        unfold jH at hs
        exact⟨s1,n1,i1.mono (by rw [hgl]; omega),i2,i3,.inr ⟨e,bJ (b:=fun s:List S64×Int×Int×Bool×Int×Int×Int×Int×Int×List (List UInt8)×Int=>cK s.1 s.2.1 s.2.2.1 s.2.2.2.1 s.2.2.2.2.1 s.2.2.2.2.2.1 s.2.2.2.2.2.2.1 s.2.2.2.2.2.2.2.1 s.2.2.2.2.2.2.2.2.1 s.2.2.2.2.2.2.2.2.2.1 s.2.2.2.2.2.2.2.2.2.2) hs,f2⟩⟩
    · refine⟨s,n,h.si.mono (by omega),Kp.refl s,rfl,.inl ⟨ids,0,bJ ?_,⟨h.si.mono (by omega),h.on,h.perm,h.lt,h.cnt,h.len,h.gd,h.tot⟩,by omega,.one (by omega),rfl⟩⟩
      show cK s.f0 s.f1 s.f2 s.f3 s.f4 p.f0 p.f1 k (n:Int) (ids.map nmR) (x:Int)=_
      unfold cK
      rw [if_neg (by rw [List.length_map]; simp only [decide_eq_true_eq]; omega)]
      rfl
end
theorem aWi (l:List S64):∀ x∈oth l,nY x.f0=false:=fun x hx=>by
  have:=(List.mem_filter.1 hx).2
  simpa using this
theorem aQi {l O:List S64} (hO:∀ x∈O,nY x.f0=false) (hp:l.Perm O):oth l=l:=aMt fun x hx=>hO x (hp.mem_iff.1 hx)
theorem aNp {kk h f:Nat} {k:Int} {p:S26} {s:S58} {l:List S47} (hs:SI kk s) (hk:kk+20000<4611686018427387904) (hon:s.f3=false) (hh:p.f0=(h:Int)) (hh1:1≤h∧h≤4096) (hf:p.f1=(f:Int)) (hf2:2≤f∧f≤16) (hg:Gd4 k l) (hl:l.length≤255) :
    ∃ out runs ps e s' n',nF ⟨s,p,k,0⟩ l=some (out,runs,ps,e,⟨s',p,k,n'⟩)∧SI (kk+10000) s'∧Kp s s'∧oth s'.f0=oth s.f0 ∧
      ((e=0∧s'.f3=false∧s'.f0=oth s.f0∧out=val (sortL bef l)∧runs=(((l.length+h - 1) / h:Nat):Int)∧∃ t,Ps f ((l.length+h - 1) / h) t∧ps=(t:Int))∨Bad (oth s.f0) l.length s' e):=by
  have hO:=aWi s.f0
  obtain⟨e1,s1,c1,c2,c3,c4,c5⟩:=aBb hs (by omega) hon
  unfold nF
  dsimp only
  rw [c1]
  simp only [Option.bind_some]
  rcases c5 with ⟨a,b,d⟩ | ⟨a,b⟩
  · rw [if_neg (by simp [a]),hh,bG (by omega),bG ⟨by omega,by omega,by omega⟩,show ((h:Int)).toNat=h from rfl]
    have hcl:(pcs h l).length=(l.length+h - 1) / h:=aEe
    have hle:(l.length+h - 1) / h≤l.length:=by
      rcases Nat.eq_zero_or_pos l.length with q | q
      · rw [q,Nat.div_eq_of_lt (by omega)]; exact Nat.le_refl 0
      · refine Nat.div_le_of_le_mul ?_
        obtain⟨d,hd⟩:∃ d,h=d+1:=⟨h - 1,by omega⟩
        obtain⟨z,hz⟩:∃ z,l.length=z+1:=⟨l.length - 1,by omega⟩
        rw [hd,hz]
        have:=Nat.zero_le (d * z)
        have e2:(d+1) * (z+1)=d * z+d+z+1:=by rw [Nat.add_mul,Nat.mul_add]; omega
        omega
    have R0:Rst k (oth s.f0) l.length (kk+500) s1 0 []:=⟨c2,b,by rw [d]; simp,fun q hq=>(by cases hq),by simp,by simp,fun q hq=>(by cases hq),Nat.zero_le _⟩
    obtain⟨s2,n2,i1,i2,i3,i4⟩:=aHf (p:=p) hO (by omega) (pcs h l) [] (kk+500) 0 s1 R0 (by rw [hcl]; omega) (by rw [hcl]; simp only [List.length_nil]; omega) (by rw [hcl]; simp only [List.length_nil]; omega) (fun c hc=>by
      obtain⟨_,q2,q3⟩:=aD9 hh1.1 l c hc
      have:c.length≤l.length:=by
        have:=uJ hh1.1 l
        have h2:c.length≤(pcs h l).flatten.length:=(List.sublist_flatten_of_mem hc).length_le
        rwa [this] at h2
      exact hg.sub q3 (by omega)) (by rw [uJ hh1.1]; simp [P.tot])
    rw [hh] at i4
    have e0:((0:Nat):Int)=0:=rfl
    rw [e0,List.map_nil] at i4
    rcases i4 with ⟨ids,f1,f2,f3,f4,f5⟩ | ⟨e,f1,f2⟩
    · rw [f1]
      simp only [Option.bind_some]
      unfold lX
      rw [hcl,List.length_nil,Nat.zero_add] at f3
      obtain⟨s3,n3,j1,j2,j3,j4⟩:=aJ8 (p:=p) hO (by omega) hf hf2 ids.length ids _ n2 0 s2 rfl f2 (by rw [hcl]; omega) (by omega)
      rw [hh,e0] at j4
      rcases j4 with ⟨ids',t,g1,g2,g3,g4,g5⟩ | ⟨e,g1,g2⟩
      · rw [g1]
        simp only [Option.bind_some]
        unfold lE mU
        rw [f3] at g3 g4
        have hall:sortL bef (vf ids')=val (sortL bef l):=by
          rw [g5,f5, ← aA9,uJ hh1.1]; rfl
        by_cases z:ids.length=0
        · rw [if_pos (by rw [List.length_map,z]; rfl)]
          have hz:l.length=0:=by
            rw [f3] at z
            rcases Nat.eq_zero_or_pos l.length with q | q
            · exact q
            · have:=Nat.div_pos (show h≤l.length+h - 1 by omega) (by omega); omega
          rw [z] at f3
          have hi0:ids'=[]:=by
            rw [← f3] at g3; exact List.length_eq_zero_iff.1 (by simpa using g3)
          have ht0:t=0:=by
            rw [← f3] at g4
            exact g4.uniq (.one (by omega))
          have hp:=g2.perm
          rw [hi0,List.map_nil,List.append_nil] at hp
          refine⟨_,_,_,_,s3,_,by rw [show (⟨⟨s3.f0,s3.f1,s3.f2,s3.f3,s3.f4⟩,⟨(h:Int),p.f1⟩,k,(n3:Int)⟩:S67)=⟨s3,p,k,(n3:Int)⟩ from by rw [← hh]]; rfl,j1.mono (by rw [hcl]; omega),Kp.trans c3 (Kp.trans i2 j2),by rw [j3,i3,c4],.inl ⟨rfl,g2.on,?_,?_,by rw [← f3,e0],0,by rw [← f3]; exact .one (by omega),rfl⟩⟩
          · rw [← aQi hO hp,j3,i3,c4]
          · rw [List.length_eq_zero_iff.1 hz]; rfl
        · rw [if_neg (by rw [List.length_map]; simp; exact fun q=>z (by simp [q]))]
          have hi1:ids'.length=1:=by rw [g3, ← f3]; omega
          obtain⟨q,rfl⟩:∃ q,ids'=[q]:=List.length_eq_one_iff.1 hi1
          rw [show at_ (List.map nmR [q]) 0=some (gU q.1) from rfl]
          simp only [Option.bind_some]
          obtain⟨q1,q2⟩:=g2.gd q (by simp)
          have hq6:q.1<600:=by have:=g2.lt q (by simp); have:=g2.cnt; omega
          have hx:=aMb g2.si g2.perm (q:=q) (by simp)
          have hfe:=aJe (p:=p) g2.si (by rw [hcl]; omega) g2.on hq6 hx q1 (n3:Int)
          rw [show (⟨⟨s3.f0,s3.f1,s3.f2,s3.f3,s3.f4⟩,⟨(h:Int),p.f1⟩,k,(n3:Int)⟩:S67)=⟨s3,p,k,(n3:Int)⟩ from by rw [← hh],hfe]
          simp only [Option.bind_some]
          have hdl:=g2.si.del (n:=gU q.1)
          obtain⟨kp,hc⟩:=aFk g2.si g2.on hx fun x=>del s3.f0 (gU q.1)
          have hv:q.2.map mI=val (sortL bef l):=by
            rw [← hall,aLm]
            exact (iH q2.val).symm
          rcases hc with ⟨y0,on1,l1⟩ | ⟨y9,off1,l1⟩
          · have y0':(kT s3 (gU q.1)).1=0:=y0
            have l1':(kT s3 (gU q.1)).2.f0=del s3.f0 (gU q.1):=l1
            have ho:oth (kT s3 (gU q.1)).2.f0=oth s.f0:=by rw [l1',aHp (zZ q.1),j3,i3,c4]
            refine⟨_,_,_,_,_,_,rfl,hdl.mono (by rw [hcl]; omega),Kp.trans c3 (Kp.trans i2 (Kp.trans j2 kp)),ho,.inl ⟨y0',on1,?_,hv,by rw [List.length_map,f3],t,g4,by rw [Nat.zero_add]⟩⟩
            have hp:=(aJk g2.si.rise hx).symm.trans g2.perm
            rw [List.map_cons,List.map_nil] at hp
            have hp2:(kT s3 (gU q.1)).2.f0.Perm (oth s.f0):=by
              rw [l1']
              have:=(hp.trans (List.perm_append_singleton _ _)).cons_inv
              exact this
            rw [← aQi hO hp2,ho]
          · have y9':(kT s3 (gU q.1)).1=9:=y9
            have l1':(kT s3 (gU q.1)).2.f0=s3.f0:=l1
            exact⟨_,_,_,_,_,_,rfl,hdl.mono (by rw [hcl]; omega),Kp.trans c3 (Kp.trans i2 (Kp.trans j2 kp)),by rw [l1',j3,i3,c4],.inr (.inr ⟨y9',off1⟩)⟩
      · rw [g1]
        exact⟨_,_,_,_,s3,_,rfl,j1.mono (by rw [hcl]; omega),Kp.trans c3 (Kp.trans i2 j2),by rw [j3,i3,c4],.inr g2⟩
    · rw [f1]
      simp only [Option.bind_some]
      unfold mJ
      exact⟨_,_,_,_,s2,_,by rw [show (⟨⟨s2.f0,s2.f1,s2.f2,s2.f3,s2.f4⟩,⟨(h:Int),p.f1⟩,k,(n2:Int)⟩:S67)=⟨s2,p,k,(n2:Int)⟩ from by rw [← hh]],i1.mono (by rw [hcl]; omega),Kp.trans c3 i2,by rw [i3,c4],.inr f2⟩
  · rw [if_pos (by rw [a]; decide)]
    exact⟨_,_,_,_,s1,_,rfl,c2.mono (by omega),c3,c4,.inr (.inr ⟨a,b⟩)⟩
def rP (p:S26):Bool:=decide (1≤p.f0)&&(decide (p.f0≤4096)&&(decide (2≤p.f1)&&decide (p.f1≤16)))
theorem aG8 (p:S26):jA p=some (rP p):=by
  unfold jA rP
  cases decide (1≤p.f0) <;> cases decide (p.f0≤4096) <;> cases decide (2≤p.f1) <;> rfl
theorem aF3 (s:S58) (l:List S47) (k:Int) (p:S26):iM (some s) l k p=jJ l k p s (!rP p||(decide (k<1)||decide (8<k))):=by
  unfold iM
  dsimp only
  rw [aG8]
  simp only [Option.bind_some]
  cases rP p <;> cases decide (k<1) <;> rfl
theorem aO1 (s:S58) (l:List S47) (k:Int) (p:S26) (h:(!rP p||(decide (k<1)||decide (8<k)))=true):iM (some s) l k p=some ([],0,0,1,some s):=by
  rw [aF3,h]; rfl
theorem aLa {l:List S47} (hl:l.length≤1000) (s:S58) (k:Int) (hf:∀ e∈l,oS e k=true):loop (fun q=>fF l k s q) (0:Int)=some (.inl ()):=by
  have h:=lJ (b:=fun q:Int=>fF l k s q) (fun i=>(i:Int)) (t:=.inl ()) l.length (fun i hi=>by
    have hx:=List.getElem?_eq_getElem hi
    show fF l k s (i:Int)=_
    unfold fF
    rw [if_pos (by simp only [decide_eq_true_eq]; omega),aI rfl hx]
    simp only [Option.bind_some]
    rw [aD8]
    simp only [Option.bind_some]
    rw [hf _ (List.getElem_mem hi),if_neg (by simp),lt_,w64 (by omega) (by omega)]
    rfl) (by
    show fF l k s (l.length:Int)=_
    unfold fF
    rw [if_neg (by simp)])
  exact h
theorem aNz (s:S58) (e:S47) (k:Int) (p:S26) (hp:rP p=true) (hk:1≤k∧k≤8) (hf:oS e k=false):iM (some s) [e] k p=some ([],0,0,3,some s):=by
  rw [aF3,hp,show (!true||(decide (k<1)||decide (8<k)))=false from by simp; omega]
  unfold jJ
  rw [if_neg (by simp),bJ (b:=fun q=>fF [e] k s q) (t:=.inr ([],0,0,3,some s)) (by
    unfold fF
    rw [if_pos (by simp),show at_ [e] 0=some e from rfl]
    simp only [Option.bind_some]
    rw [aD8]
    simp only [Option.bind_some]
    rw [hf,if_pos (by rfl)])]
  rfl
theorem aNs {kk h f:Nat} {k:Int} {p:S26} {s:S58} {l:List S47} (hs:SI kk s) (hk:kk+30000<4611686018427387904) (hon:s.f3=false) (hh:p.f0=(h:Int)) (hh1:1≤h∧h≤4096) (hf:p.f1=(f:Int)) (hf2:2≤f∧f≤16) (hk8:1≤k∧k≤8) (hg:Gd4 k l) (hl:l.length≤255) :
    ∃ out runs ps e s',iM (some s) l k p=some (out,runs,ps,e,some s')∧SI (kk+20000) s'∧Kp s s'∧oth s'.f0=oth s.f0 ∧
      ((e=0∧s'.f3=false∧s'.f0=oth s.f0∧out=val (sortL bef l)∧runs=(((l.length+h - 1) / h:Nat):Int)∧∃ t,Ps f ((l.length+h - 1) / h) t∧ps=(t:Int)) ∨
       (e=10∧out=[]∧aHe s (oth s.f0) l.length∧((s'.f3=false∧s'.f0=oth s.f0)∨s'.f3=true))∨(e=9∧out=[]∧s'.f3=true)):=by
  have hpl:rP p=true:=by
    unfold rP
    simp only [Bool.and_eq_true,decide_eq_true_eq]
    omega
  rw [aF3,hpl,show (!true||(decide (k<1)||decide (8<k)))=false from by simp; omega]
  unfold jJ
  rw [if_neg (by simp)]
  rw [aLa (by omega) s k hg.form]
  simp only [Option.bind_some]
  unfold qG tA
  obtain⟨out,runs,ps,e,s1,n1,i0,i1,i2,i3,i4⟩:=aNp hs (by omega) hon hh hh1 hf hf2 hg hl
  rw [i0]
  simp only [Option.bind_some]
  rcases i4 with ⟨a,b,d,o,r,t⟩ | ⟨a,b,d⟩ | ⟨a,b⟩
  · rw [if_neg (by simp [a])]
    exact⟨out,runs,ps,0,s1,rfl,i1.mono (by omega),i2,i3,.inl ⟨rfl,b,d,o,r,t⟩⟩
  · rw [if_pos (by rw [a]; decide),if_pos (by rw [a]; decide)]
    obtain⟨e2,s2,c1,c2,c3,c4,c5⟩:=aBb i1 (by omega) b
    rw [c1]
    simp only [Option.bind_some]
    have hsh:aHe s (oth s.f0) l.length:=by
      unfold aHe at d ⊢
      rw [← i2.1]
      exact d
    refine⟨[],0,0,e,s2,rfl,c2.mono (by omega),Kp.trans i2 c3,by rw [c4,i3],.inr (.inl ⟨a,rfl,hsh,?_⟩)⟩
    rcases c5 with ⟨_,q1,q2⟩ | ⟨_,q⟩
    · exact .inl ⟨q1,by rw [q2,i3]⟩
    · exact .inr q
  · rw [if_pos (by rw [a]; decide),if_neg (by rw [a]; decide)]
    exact⟨[],0,0,e,s1,rfl,i1.mono (by omega),i2,i3,.inr (.inr ⟨a,rfl,b⟩)⟩
theorem aMk {kk h f:Nat} {k:Int} {p:S26} {s:S58} {l:List S47} (hs:SI kk s) (hk:kk+30000<4611686018427387904) (hon:s.f3=false) (h2:s.f2=0) (hh:p.f0=(h:Int)) (hh1:1≤h∧h≤4096) (hf:p.f1=(f:Int)) (hf2:2≤f∧f≤16) (hk8:1≤k∧k≤8) (hg:Gd4 k l) (hl:l.length≤255)
    (hr:(nJ (oth s.f0)+216 * l.length:Nat)≤s.f1) (hO:(oth s.f0).length<245) :
    ∃ s' t,iM (some s) l k p=some (val (sortL bef l),(((l.length+h - 1) / h:Nat):Int),((t:Nat):Int),0,some s')∧SI (kk+20000) s'∧s'.f1=s.f1∧s'.f2=0∧s'.f3=false∧s'.f0=oth s.f0∧Ps f ((l.length+h - 1) / h) t:=by
  obtain⟨out,runs,ps,e,s',i0,i1,i2,i3,i4⟩:=aNs hs hk hon hh hh1 hf hf2 hk8 hg hl
  rcases i4 with ⟨a,b,d,o,r,t,t1,t2⟩ | ⟨a,b,d,_⟩ | ⟨a,b,d⟩
  · exact⟨s',t,by rw [i0,a,o,r,t2],i1,i2.1,(i2.2 h2 hon).1,b,d,t1⟩
  · rcases d with d | d <;> omega
  · exact absurd d (by rw [(i2.2 h2 hon).2]; decide)
def yF (i:Nat):S47:=⟨0,0,-(i:Int),[],0⟩
theorem aI4:loop (fun s:List S47×Int=>gZ s.1 s.2) ([],0)=some ((List.range 10).map yF):=by
  have h:=lJ (b:=fun s:List S47×Int=>gZ s.1 s.2) (fun k=>((List.range k).map yF,(k:Int))) (t:=(List.range 10).map yF) 10 (fun k hk=>by
    show gZ ((List.range k).map yF) (k:Int)=_
    unfold gZ
    rw [if_pos (by simp only [decide_eq_true_eq]; omega),w64 (n:=0 - (k:Int)) (by omega) (by omega),bG (by simp only [List.length_map,List.length_range,List.length_singleton]; omega),lt_,w64 (by omega) (by omega),List.range_succ,List.map_append,show (0:Int) - (k:Int) = -(k:Int) by omega]
    rfl) (by
    show gZ ((List.range 10).map yF) ((10:Nat):Int)=_
    unfold gZ
    rw [if_neg (by simp)])
  exact h
theorem aS7:Gd4 1 ((List.range 10).map yF):=by
  refine⟨fun e he=>?_,fun e he=>?_,by simp⟩
  · obtain⟨i,hi,rfl⟩:=List.mem_map.1 he
    have:=List.mem_range.1 hi
    unfold yF i64
    dsimp only
    exact⟨by omega,by omega,by omega,by simp,by omega⟩
  · obtain⟨i,hi,rfl⟩:=List.mem_map.1 he
    have:=List.mem_range.1 hi
    unfold yF oS
    simp only [Bool.and_eq_true,decide_eq_true_eq,List.length_nil]
    omega
theorem aLn:uG=some true:=by
  unfold uG
  rw [aM5 (by decide) (by decide)]
  simp only [Option.bind_some]
  rw [aI4]
  simp only [Option.bind_some]
  unfold pX rZ
  have h0:=aP0 (r:=65536) (by decide) (by decide)
  obtain⟨s',t,w,_,_,_,_,_,hp⟩:=aMk (p:=⟨2,2⟩) (h:=2) (f:=2) (k:=1) h0 (by omega) rfl rfl rfl (by omega) rfl (by omega) (by omega) aS7 (by simp) (by show ((_:Nat):Int)≤65536; simp [oth,onS,nJ]) (by simp [oth,onS])
  dsimp only
  rw [w]
  simp only [Option.bind_some]
  have ht:t=3:=hp.uniq (.more (by decide) (.more (by decide) (.more (by decide) (.one (by decide)))))
  have hv:val (sortL bef ((List.range 10).map yF))=[yF 9,yF 8,yF 7,yF 6,yF 5,yF 4,yF 3,yF 2,yF 1,yF 0]:=by rfl
  rw [hv,ht]
  rfl
def aFw:List UInt8:=[114,117,110,46,49]
def aJ0:List UInt8:=[114,117,110,103]
theorem aIp {kk:Nat} {s:S58} (h:SI kk s) (hk:kk≤100000) (h0:s.f0=[]) (h1:s.f1=1048576) (h2:s.f2=0) (h3:s.f3=false) (a:List S47) (b c d:Int):fU (a,b,c,d,some s)=some true:=by
  have hs:s=onS [] 1048576 s.f4:=by
    obtain⟨f0,f1,f2,f3,f4⟩:=s
    dsimp only at h0 h1 h2 h3
    subst h0 h1 h2 h3
    rfl
  rw [hs] at h ⊢
  generalize s.f4=op at h
  unfold fU
  dsimp only
  have A1:=h.Append (n:=aFw) (by omega) (by decide) []
  have S1:=h.app (n:=aFw) (p:=[]) (fun b hb=>by cases hb)
  rw [show ([114,117,110,46,49]:List UInt8)=aFw from rfl,A1]
  simp only [Option.bind_some]
  have E1:(yS (onS [] 1048576 op) aFw []).2=onS [⟨aFw,[],0⟩] 1048576 (op+1):=rfl
  rw [E1] at S1 ⊢
  have A2:=S1.Append (n:=aJ0) (by omega) (by decide) []
  have S2:=S1.app (n:=aJ0) (p:=[]) (fun b hb=>by cases hb)
  rw [show ([114,117,110,103]:List UInt8)=aJ0 from rfl,A2]
  simp only [Option.bind_some]
  have E2:(yS (onS [⟨aFw,[],0⟩] 1048576 (op+1)) aJ0 []).2=onS [⟨aFw,[],0⟩,⟨aJ0,[],0⟩] 1048576 (op+1+1):=rfl
  rw [E2] at S2 ⊢
  rw [show jF none=some (5,none) from rfl]
  simp only [Option.bind_some]
  rw [if_pos (by rfl)]
  obtain⟨e,s',c1,c2,c3,c4,c5⟩:=aBb S2 (by omega) rfl
  rw [c1]
  simp only [Option.bind_some]
  rcases c5 with ⟨q1,q2,q3⟩ | ⟨_,q⟩
  · rw [if_pos (by rw [q1]; rfl),c2.Names]
    simp only [Option.bind_some]
    rw [q3]
    rfl
  · rw [(c3.2 rfl rfl).2] at q; cases q
theorem SorterErrs (a0:S26) (a1:Int) (a2:S47) (h0:g26 a0) (h1:gI .i64 a1) (h2:g47 a2):mZ a0 a1 a2=some true:=by
  unfold mZ
  rw [aLn]
  simp only [Option.bind_some]
  rw [if_neg (by simp)]
  have hj:(if (decide (1≤a0.f0))=true then (if (decide (a0.f0≤4096))=true then (if (decide (2≤a0.f1))=true then (cH a0 a1 a2 (decide (a0.f1≤16))) else (cH a0 a1 a2 false)) else (cH a0 a1 a2 false)) else (cH a0 a1 a2 false))=cH a0 a1 a2 (rP a0):=by
    unfold rP
    cases decide (1≤a0.f0) <;> cases decide (a0.f0≤4096) <;> cases decide (2≤a0.f1) <;> rfl
  rw [hj]
  unfold cH
  rw [aM5 (by decide) (by decide)]
  simp only [Option.bind_some]
  rw [show iM none [] a1 a0=some ([],0,0,5,none) from rfl]
  simp only [Option.bind_some]
  have S0:=aP0 (r:=1048576) (by decide) (by decide)
  have fin:∀ (y:List S47×Int×Int×Int×Option S58),eE a1 a2 y (!rP a0||(decide (a1<1)||decide (8<a1)))=some true→((jA a0).bind fun z=>(if (!(z==rP a0))=true then (fW a1 a2 (rP a0) y true) else (fW a1 a2 (rP a0) y (((5:Int)) != 5))))=some true:=by
    intro y hy
    rw [aG8]
    simp only [Option.bind_some]
    rw [if_neg (by simp)]
    unfold fW
    rw [if_neg (by decide), ← hy]
    cases rP a0 <;> cases decide (a1<1) <;> rfl
  by_cases c:(!rP a0||(decide (a1<1)||decide (8<a1)))=true
  · rw [aO1 _ _ _ _ c]
    simp only [Option.bind_some]
    refine fin _ ?_
    rw [c]
    unfold eE
    rw [if_pos rfl,if_neg (by decide)]
    exact aIp S0 (by omega) rfl rfl rfl rfl _ _ _ _
  · have c':rP a0=true∧¬ a1<1∧¬ 8<a1:=by
      simp only [Bool.or_eq_true,Bool.not_eq_true',decide_eq_true_eq,not_or] at c
      exact⟨by simpa using c.1,c.2.1,c.2.2⟩
    obtain⟨cp,c1,c2⟩:=c'
    by_cases cf:oS a2 a1=true
    · have hp:=cp
      unfold rP at hp
      simp only [Bool.and_eq_true,decide_eq_true_eq] at hp
      obtain⟨h,hh⟩:∃ h:Nat,a0.f0=(h:Int):=⟨a0.f0.toNat,by omega⟩
      obtain⟨f,hf⟩:∃ f:Nat,a0.f1=(f:Int):=⟨a0.f1.toNat,by omega⟩
      have hg:Gd4 a1 [a2]:=⟨aRs (l:=[a2]) (k:=a1) ⟨by show (_:Nat)≤reachBytes; unfold reachBytes; simp,fun e he=>by cases List.mem_singleton.1 he; exact h2⟩ (by simp [cf]),fun e he=>by cases List.mem_singleton.1 he; exact cf,by simp⟩
      obtain⟨s',t,w,i1,i2,i3,i4,i5,ip⟩:=aMk (p:=a0) (h:=h) (f:=f) (k:=a1) S0 (by omega) rfl rfl hh (by omega) hf (by omega) (by omega) hg (by simp) (by show ((0+216 * 1:Nat):Int)≤1048576; decide) (by decide)
      rw [w]
      simp only [Option.bind_some]
      refine fin _ ?_
      rw [show (!rP a0||(decide (a1<1)||decide (8<a1)))=false by simpa using c]
      unfold eE
      rw [if_neg (by simp),aKd]
      simp only [Option.bind_some]
      have hc1:([a2].length+h - 1) / h=1:=by
        rw [show [a2].length+h - 1=h by simp only [List.length_singleton]; omega]
        exact Nat.div_self (by omega)
      rw [hc1] at ip ⊢
      have ht:t=0:=ip.uniq (.one (Nat.le_refl 1))
      rw [cf,ht,if_neg (by simp),if_neg (by decide),if_neg (by rw [aEd,aP]; simp),if_neg (by decide)]
      unfold fY
      rw [if_neg (by decide)]
      exact aIp i1 (by omega) i5 i2 i3 i4 _ _ _ _
    · have cf':oS a2 a1=false:=by simpa using cf
      rw [aNz _ _ _ _ cp (by omega) cf']
      simp only [Option.bind_some]
      refine fin _ ?_
      rw [show (!rP a0||(decide (a1<1)||decide (8<a1)))=false by simpa using c]
      unfold eE
      rw [if_neg (by simp),aKd]
      simp only [Option.bind_some]
      rw [cf',if_pos (by rfl),if_neg (by decide)]
      exact aIp S0 (by omega) rfl rfl rfl rfl _ _ _ _
end Go.Proofs.YtnefioccdkmegaaGreatDoor.P
