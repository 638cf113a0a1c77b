/- Texts of the claim, joined: what it uses of Sg, Sh, Tb, Tc, Tg, Ua, Ub, Uc, Ud, Ue, Uf, Ug, Uh. -/
import Derived.Test.YtnefioccdkmegaaGreatDoorZl
import Derived.Lib.ParseIntB
namespace Go.Proofs.YtnefioccdkmegaaGreatDoor.P
open Go Go.RowKit Go.Proofs.YtnefioccdkmegaaGreatDoor.E Go.Proofs.YtnefioccdkmegaaGreatDoor.M
set_option linter.unusedVariables false
set_option linter.unusedSectionVars false
def xG (s:Nat):List Int:=[((s % 256:Nat):Int),((s / 256 % 256:Nat):Int),((s / 65536 % 256:Nat):Int),((s / 16777216 % 256:Nat):Int)]
theorem aJp (s:Nat):Bs (xG s):=fun x hx=>by simp [xG] at hx; omega
theorem yE (s:Nat):(xG s).length=4:=rfl
theorem aHp {s:Nat} (h:s<4294967296) (r:List Int):zA (xG s++r)=s:=by
 show zA (((s % 256:Nat):Int)::((s / 256 % 256:Nat):Int)::((s / 65536 % 256:Nat):Int)::((s / 16777216 % 256:Nat):Int)::r)=s
 rw [aI5]; omega
def wW (kind:Int) (b:List Int):List Int:=xG b.length++[kind]++b
def vD (kind:Int) (b:List Int):List Int:=wW kind b++xG (crc (wW kind b))
theorem aDa (kind:Int) (b:List Int):(wW kind b).length=5+b.length:=by simp [wW,yE]; omega
theorem aHw (kind:Int) (b:List Int):(vD kind b).length=9+b.length:=by simp [vD,aDa,yE]; omega
theorem aJx {kind:Int} {b:List Int} (hk:0≤kind∧kind<256) (hB:Bs b):Bs (wW kind b):=((aJp _).app (Bs.mk hk Bs.nil)).app hB
theorem aRr {kind:Int} {b:List Int} (hk:0≤kind∧kind<256) (hB:Bs b):Bs (vD kind b):=(aJx hk hB).app (aJp _)
theorem aB2 {s:Nat} (hs:s<4294967296):wF (s:Int)=some (xG s):=by
 unfold wF xG
 simp only [lt_]
 rw [show (8:Int)=((8:Nat):Int) from rfl,show (16:Int)=((16:Nat):Int) from rfl,show (24:Int)=((24:Nat):Int) from rfl,
  nA _ _ (by decide),nA _ _ (by decide),nA _ _ (by decide),aAa,aAa,aAa,aAa]
theorem aJr {p b:List Int} {kind:Int} (hk:0≤kind∧kind<256) (hB:Bs b) (hb:b.length<4294967000) (hp:p.length<1099511627776):zB p kind b=some (p++vD kind b):=by
 unfold zB
 rw [lt_,uG,Nat.mod_eq_of_lt (by omega),aB2 (by omega)]
 simp only [Option.bind_some]
 rw [show xG b.length++[kind]++b=wW kind b from rfl]
 have hl:=aDa kind b
 have h4:=yE (crc (wW kind b))
 rw [aW (by simp [yE]),aW (by simp [yE]; omega),aW (by omega),aDv (aJx hk hB) (by omega)]
 simp only [Option.bind_some]
 rw [aB2 (aL2 _)]
 simp only [Option.bind_some]
 rw [aW (by simp only [List.length_append]; omega),List.append_assoc]
 rfl
theorem aLd {p b q:List Int} {kind:Int} (hb:b.length≤1048576):yC (p++vD kind b++q) (p.length:Int)=(kind,b,((p.length+(vD kind b).length:Nat):Int),0):=by
 have hv:(p++vD kind b++q).drop p.length=vD kind b++q:=by rw [List.append_assoc,List.drop_left]
 have hl:=aDa kind b
 have hpl:=aHw kind b
 have hn:zA (vD kind b++q)=b.length:=by
  show zA (xG b.length++[kind]++b++xG (crc (wW kind b))++q)=_
  rw [List.append_assoc,List.append_assoc,List.append_assoc,aHp (by omega)]
 have ht:(vD kind b++q).take (5+b.length)=wW kind b:=by
  show (wW kind b++xG (crc (wW kind b))++q).take (5+b.length)=_
  rw [List.append_assoc,List.take_left' hl]
 have hd:(vD kind b++q).drop (5+b.length)=xG (crc (wW kind b))++q:=by
  show (wW kind b++xG (crc (wW kind b))++q).drop (5+b.length)=_
  rw [List.append_assoc,List.drop_left' hl]
 unfold yC
 rw [if_neg (by simp only [List.length_append]; omega),Int.toNat_natCast,hv,hn,ht,hd,aHp (aL2 _),if_neg (by simp only [List.length_append]; omega),if_neg (by simp only [List.length_append]; omega),if_pos rfl]
 refine Prod.ext ?_ (Prod.ext ?_ (Prod.ext ?_ rfl))
 ·rfl
 ·show (wW kind b).drop 5=b
  rfl
 ·show (p.length:Int)+(b.length:Int)+9=((p.length+(vD kind b).length:Nat):Int)
  rw [hpl]; omega
def oE (l:List S47):List Int:=l.map fun e=>IntKind.i64.wrap e.f0
def jM (l:List S47):List Int:=l.map fun e=>e.f1
def jP (l:List S47):List Int:=l.map fun e=>e.f2
def nM (l:List S47):List (List UInt8):=l.map fun e=>e.f3
def mS (l:List S47):List Nat:=l.map fun e=>e.f4
def qO (c:List Int):List Int:=uv c.length++c
def aBd (l:List S47):List Int:=qO (fL (oE l))++(qO (fL (jM l))++(qO (fL (jP l))++(qO (rK (nM l))++qO (fL (rl (mS l))))))
def aE3 (l:List S47):Prop:=∀ e∈l,(0≤e.f0∧e.f0<18446744073709551616)∧i64 e.f1∧i64 e.f2∧e.f3.length≤32∧e.f4<18446744073709551616
section
variable {l:List S47} (hl:l.length≤4096) (hL:aE3 l)
theorem aCt:I64 (oE l):=fun x hx=>by
 obtain⟨e,_,rfl⟩:=List.mem_map.1 hx
 exact zN _
include hL
theorem aAx:I64 (jM l):=fun x hx=>by
 obtain⟨e,he,rfl⟩:=List.mem_map.1 hx
 exact (hL e he).2.1
theorem aAh:I64 (jP l):=fun x hx=>by
 obtain⟨e,he,rfl⟩:=List.mem_map.1 hx
 exact (hL e he).2.2.1
theorem aIo:∀ s∈nM l,s.length≤32:=fun s hs=>by
 obtain⟨e,he,rfl⟩:=List.mem_map.1 hs
 exact (hL e he).2.2.2.1
theorem aSz:∀ x∈mS l,x<18446744073709551616:=fun x hx=>by
 obtain⟨e,he,rfl⟩:=List.mem_map.1 hx
 exact (hL e he).2.2.2.2
omit hL
theorem uN {m:List Int} (hm:m.length≤4096) (hi:I64 m):(fL m).length≤11+10 * m.length:=by
 have h1:=aPw m (w:=0) (by decide)
 have h2:=aIx hi
 have h3:=dG (n:=m.length) (by omega)
 have e:(asL 0 m).length=1+(uv m.length).length+(b0 m).length:=by
  show ((0:Int)::(uv m.length++b0 m)).length=_
  simp; omega
 omega
theorem aH5 {m:List (List UInt8)} (hm:m.length≤4096) (h32:∀ s∈m,s.length≤32):(rK m).length≤21+52 * m.length:=by
 have hq:=aI3 m
 have h1:=aAu (uq m) fun s hs=>h32 s ((zZ m s).1 hs)
 have h2:=dG (n:=(uq m).length) (by omega)
 have h3:=uN (m:=qK (uq m) m) (by rw [wA]; omega) (aAi (fun s hs=>(zZ m s).2 hs) (by omega))
 rw [wA] at h3
 unfold rK
 simp only [List.length_append]
 omega
theorem yF {c:List Int} (h:c.length<18446744073709551616):(qO c).length≤10+c.length:=by
 have:=dG h
 unfold qO; simp; omega
theorem uH {c:List Int} (h:Bs c):Bs (qO c):=(Bs.uv _).app h
include hl hL
theorem aF0:(fL (oE l)).length≤11+10 * l.length∧(fL (jM l)).length≤11+10 * l.length∧(fL (jP l)).length≤11+10 * l.length∧(rK (nM l)).length≤21+52 * l.length∧(fL (rl (mS l))).length≤11+10 * l.length:=by
 have e0:(oE l).length=l.length:=by simp [oE]
 have e1:(jM l).length=l.length:=by simp [jM]
 have e2:(jP l).length=l.length:=by simp [jP]
 have e3:(nM l).length=l.length:=by simp [nM]
 have e4:(rl (mS l)).length=l.length:=by rw [aAr]; simp [mS]
 have h0:=uN (m:=oE l) (by omega) aCt
 have h1:=uN (m:=jM l) (by omega) (aAx hL)
 have h2:=uN (m:=jP l) (by omega) (aAh hL)
 have h3:=aH5 (m:=nM l) (by omega) (aIo hL)
 have h4:=uN (m:=rl (mS l)) (by omega) (aJc _)
 rw [e0] at h0; rw [e1] at h1; rw [e2] at h2; rw [e3] at h3; rw [e4] at h4
 exact⟨h0,h1,h2,h3,h4⟩
theorem aEn:Bs (fL (oE l))∧Bs (fL (jM l))∧Bs (fL (jP l))∧Bs (rK (nM l))∧Bs (fL (rl (mS l))) :=
 ⟨zI aCt,zI (aAx hL),zI (aAh hL),aN6 (by simp [nM]; omega),zI (aJc _)⟩
theorem aC7:(aBd l).length≤115+92 * l.length:=by
 obtain⟨h0,h1,h2,h3,h4⟩:=aF0 hl hL
 have q0:=yF (c:=fL (oE l)) (by omega)
 have q1:=yF (c:=fL (jM l)) (by omega)
 have q2:=yF (c:=fL (jP l)) (by omega)
 have q3:=yF (c:=rK (nM l)) (by omega)
 have q4:=yF (c:=fL (rl (mS l))) (by omega)
 unfold aBd
 simp only [List.length_append]
 omega
theorem aP9:Bs (aBd l):=by
 obtain⟨h0,h1,h2,h3,h4⟩:=aEn hl hL
 exact (uH h0).app ((uH h1).app ((uH h2).app ((uH h3).app (uH h4))))
theorem aGi {c:List Int} (hB:Bs c) (h:c.length≤1048576) (r:List Int):pT 1048576 (qO c++r)=some (bts c,r):=by
 unfold pT qO
 rw [show IntKind.u64.wrap 1048576=1048576 from aA2 (by omega) (by omega),List.append_assoc,aHg (by omega) _ (by omega)]
 simp only
 rw [if_pos (by simp only [List.length_append]; omega),Int.toNat_natCast,List.take_left' rfl,List.drop_left' rfl]
theorem aPa:pTx 5 (aBd l)=some ([bts (fL (oE l)),bts (fL (jM l)),bts (fL (jP l)),bts (rK (nM l)),bts (fL (rl (mS l)))],[]):=by
 obtain⟨h0,h1,h2,h3,h4⟩:=aF0 hl hL
 obtain⟨b0,b1,b2,b3,b4⟩:=aEn hl hL
 unfold aBd
 have e4:=aGi hl hL b4 (by omega) []
 rw [List.append_nil] at e4
 simp only [pTx,aGi hl hL b0 (by omega),aGi hl hL b1 (by omega),aGi hl hL b2 (by omega),aGi hl hL b3 (by omega),e4]
end
def jE (e:S47):S47:=⟨e.f0,e.f1,e.f2,e.f3,kG e.f4⟩
theorem aHx (s:Int):∀ (l:List S47),(∀ e∈l,0≤e.f0∧e.f0<18446744073709551616) →
  aA5 s (oE l) (jM l) (jP l) (nM l) ((mS l).map kG)=if l.all (fun e=>tB e s)=true then some (l.map jE) else none
 | [],_=>rfl
 | e::l,h=>by
  have ih:=aHx s l fun x hx=>h x (List.mem_cons_of_mem _ hx)
  have h0:=h e List.mem_cons_self
  have hw:IntKind.u64.wrap (IntKind.i64.wrap e.f0)=e.f0:=by
   rw [IntKind.wrap_u64,IntWalk.i64_left]
   unfold wrap64
   omega
  show aA5 s (IntKind.i64.wrap e.f0::oE l) (e.f1::jM l) (e.f2::jP l) (e.f3::nM l) (kG e.f4::(mS l).map kG)=_
  unfold aA5
  rw [hw,ih,show (⟨e.f0,e.f1,e.f2,e.f3,kG e.f4⟩:S47)=jE e from rfl,show tB (jE e) s=tB e s from rfl,List.all_cons]
  cases tB e s with
  | false=>rfl
  | true =>
   rw [if_pos rfl,Bool.true_and]
   cases l.all fun e=>tB e s <;> rfl
theorem aRv {l:List S47} (hl:l.length≤4096) (hL:aE3 l) (s:Int) :
  evL s (bts (fL (oE l))) (bts (fL (jM l))) (bts (fL (jP l))) (bts (rK (nM l))) (bts (fL (rl (mS l))))=if l.all (fun e=>tB e s)=true then some (l.map jE) else none:=by
 obtain⟨b0,b1,b2,b3,b4⟩:=aEn hl hL
 unfold evL
 rw [aAm b0,aAm b1,aAm b2,aAm b3,aAm b4,xX (by simp [oE]; omega) aCt,xX (by simp [jM]; omega) (aAx hL),xX (by simp [jP]; omega) (aAh hL),
  aLr (by simp [nM]; omega) (aIo hL),show aKf (fL (rl (mS l)))=some ((mS l).map kG) by
   unfold aKf
   rw [xX (by rw [aAr]; simp [mS]; omega) (aJc _)]
   exact aMd (aSz hL)]
 simp only
 rw [if_pos (by simp [oE,jM,jP,nM,mS]),aHx s l fun e he=>(hL e he).1]
theorem aQt {l:List S47} (hl:l.length≤4096) (hL:aE3 l) (s:Int) (p q:List Int) :
  evR (p++vD 101 (aBd l)++q) (p.length:Int) s=if l.all (fun e=>tB e s)=true then (l.map jE,((p.length+(vD 101 (aBd l)).length:Nat):Int),0) else ([],0,3):=by
 have hb:=aC7 hl hL
 unfold evR
 rw [aLd (by omega)]
 simp only
 rw [if_neg (by simp),if_neg (by simp),aPa hl hL]
 simp only
 rw [aRv hl hL s]
 cases l.all fun e=>tB e s <;> rfl
theorem aKj {l:List S47} (hl:l.length≤4096):∀ (m k:Nat),k+m=l.length →
  loop (fun s:List Int×List Int×List Int×List (List UInt8)×List Nat×Int=>lM l s.1 s.2.1 s.2.2.1 s.2.2.2.1 s.2.2.2.2.1 s.2.2.2.2.2) (oE (l.take k),jM (l.take k),jP (l.take k),nM (l.take k),mS (l.take k),(k:Int))=some (oE l,jM l,jP l,nM l,mS l)
 | 0,k,hk=>by
  rw [List.take_of_length_le (by omega)]
  refine bJ ?_
  show lM l (oE l) (jM l) (jP l) (nM l) (mS l) (k:Int)=_
  unfold lM
  rw [if_neg (by simp only [decide_eq_true_eq]; omega)]
 | m+1,k,hk=>by
  have hx:=List.getElem?_eq_getElem (l:=l) (i:=k) (by omega)
  have ht:l.take (k+1)=l.take k++[l[k]'(by omega)]:=by rw [List.take_add_one,hx]; rfl
  have ih:=aKj hl m (k+1) (by omega)
  rw [ht] at ih
  have e0:(oE (l.take k)).length=k:=by simp [oE]; omega
  have e1:(jM (l.take k)).length=k:=by simp [jM]; omega
  have e2:(jP (l.take k)).length=k:=by simp [jP]; omega
  have e3:(nM (l.take k)).length=k:=by simp [nM]; omega
  have e4:(mS (l.take k)).length=k:=by simp [mS]; omega
  refine (dD ?_).trans ih
  show lM l (oE (l.take k)) (jM (l.take k)) (jP (l.take k)) (nM (l.take k)) (mS (l.take k)) (k:Int)=_
  unfold lM vN vH
  rw [if_pos (by simp only [decide_eq_true_eq]; omega),aH rfl hx]
  simp only [Option.bind_some,lt_]
  rw [aW (by simp; omega),aW (by simp; omega),aW (by simp; omega),aW (by simp; omega),aW (by simp; omega),w64 (n:=(k:Int)+1) (by omega) (by omega)]
  simp only [oE,jM,jP,nM,mS,List.map_append,List.map_cons,List.map_nil]
  rfl
theorem aRz {c p:List Int} (hB:Bs c) (hc:c.length≤1048576) (hp:p.length≤100000000):pA p (bts c)=some (p++qO c):=by
 have hbl:(bts c).length=c.length:=by simp [bts]
 rw [aJ8 _ _ (by omega) (by omega),aAm hB,hbl,List.append_assoc]
 rfl
theorem aIn {l:List S47} (hl:l.length≤4096) (hL:aE3 l) {p:List Int} (hp:p.length<1099511627776):yH p l=some (p++vD 101 (aBd l)):=by
 obtain⟨h0,h1,h2,h3,h4⟩:=aF0 hl hL
 obtain⟨b0,b1,b2,b3,b4⟩:=aEn hl hL
 have hb:=aC7 hl hL
 unfold yH
 have hc:=aKj hl l.length 0 (by omega)
 rw [show ((0:Nat):Int)=0 from rfl] at hc
 rw [show (([],[],[],[],[],0):List Int×List Int×List Int×List (List UInt8)×List Nat×Int)=(oE (l.take 0),jM (l.take 0),jP (l.take 0),nM (l.take 0),mS (l.take 0),0) from rfl,hc]
 simp only [Option.bind_some]
 unfold sQ vW
 rw [zS (by simp [oE]; omega) aCt]
 simp only [Option.bind_some]
 rw [zS (by simp [jM]; omega) (aAx hL)]
 simp only [Option.bind_some]
 rw [zS (by simp [jP]; omega) (aAh hL)]
 simp only [Option.bind_some]
 rw [aN2 (by simp [nM]; omega) (aIo hL)]
 simp only [Option.bind_some]
 rw [aOo (by simp [mS]; omega)]
 simp only [Option.bind_some]
 have eb:aBd l=qO (fL (oE l))++(qO (fL (jM l))++(qO (fL (jP l))++(qO (rK (nM l))++qO (fL (rl (mS l)))))):=rfl
 rw [eb]
 clear eb hc hb
 generalize fL (oE l)=c0 at *
 generalize fL (jM l)=c1 at *
 generalize fL (jP l)=c2 at *
 generalize rK (nM l)=c3 at *
 generalize fL (rl (mS l))=c4 at *
 have st:∀ (k:Nat) (c acc:List Int),([c0,c1,c2,c3,c4]:List (List Int))[k]?=some c→Bs c→c.length≤1048576→acc.length≤100000000→lR c0 c1 c2 c3 c4 acc (k:Int)=some (.inl (acc++qO c,((k+1:Nat):Int))):=by
  intro k c acc hg hB hcl ha
  have hk5:k<5:=by have:=(List.getElem?_eq_some_iff.1 hg).1; simpa using this
  unfold lR
  rw [if_pos (by simp only [decide_eq_true_eq,List.length_cons,List.length_nil]; omega),aH rfl hg]
  simp only [Option.bind_some]
  rw [aRz hB hcl ha]
  simp only [Option.bind_some]
  rw [lt_,w64 (by omega) (by omega)]
  rfl
 have ol:∀ c:List Int,c.length≤1048576→(qO c).length≤1048586:=fun c h=>by have:=yF (c:=c) (by omega); omega
 have q0:=ol c0 (by omega); have q1:=ol c1 (by omega); have q2:=ol c2 (by omega); have q3:=ol c3 (by omega)
 have hlp:loop (fun s:List Int×Int=>lR c0 c1 c2 c3 c4 s.1 s.2) ([],0)=some (((([]++qO c0)++qO c1)++qO c2)++qO c3++qO c4):=by
  refine (dD (st 0 c0 [] rfl b0 (by omega) (by simp))).trans ?_
  refine (dD (st 1 c1 _ rfl b1 (by omega) (by simp; omega))).trans ?_
  refine (dD (st 2 c2 _ rfl b2 (by omega) (by simp; omega))).trans ?_
  refine (dD (st 3 c3 _ rfl b3 (by omega) (by simp; omega))).trans ?_
  refine (dD (st 4 c4 _ rfl b4 (by omega) (by simp; omega))).trans ?_
  refine bJ ?_
  show lR c0 c1 c2 c3 c4 _ ((4+1:Nat):Int)=_
  unfold lR
  rw [if_neg (by simp)]
 rw [hlp]
 simp only [Option.bind_some]
 unfold sN vF
 have hbl:((([]++qO c0)++qO c1)++qO c2)++qO c3++qO c4=qO c0++(qO c1++(qO c2++(qO c3++qO c4))):=by simp
 rw [hbl]
 have q4:=ol c4 (by omega)
 rw [aJr (by decide) ((uH b0).app ((uH b1).app ((uH b2).app ((uH b3).app (uH b4))))) (by simp only [List.length_append]; omega) hp]
 rfl
theorem aOp (e:S47):wU (jE e) e=some true:=by
 unfold wU jE
 simp only [beq_self_eq_true,if_true]
 rw [aRs,uI]
 simp
theorem aJg (l:List S47) (h:l.length<2 ^ 62):lO (l.map jE) l=some true:=by
 unfold lO
 rw [if_neg (by simp)]
 have:=iO (b:=fun s=>iE (l.map jE) l s) (fun k=>(k:Int)) (t:=.inl ()) l.length (fun k hk=>by
  have hx:l[k]?=some (l[k]'hk):=List.getElem?_eq_getElem hk
  have hy:(l.map jE)[k]?=some (jE (l[k]'hk)):=by rw [List.getElem?_map,hx]; rfl
  unfold iE
  rw [if_pos (by simp; omega),aH rfl hy,aH rfl hx]
  simp only [Option.bind_some,aOp]
  rw [if_neg (by simp),w64 (by omega) (by omega)]
  rfl) (by
  unfold iE
  rw [if_neg (by simp)])
 rw [show (0:Int)=((0:Nat):Int) from rfl,this]
 rfl
theorem aSg {f:List UInt8} (h:yW f=true):f.length≤32:=by
  unfold yW at h
  simp only [Bool.and_eq_true,decide_eq_true_eq] at h
  exact h.2
def Kp (s s':S58):Prop:=s'.f1=s.f1∧(s.f2=0→s.f3=false→s'.f2=0∧s'.f3=false)
theorem Kp.refl (s:S58):Kp s s:=⟨rfl,fun a b=>⟨a,b⟩⟩
theorem Kp.trans {a b c:S58} (h:Kp a b) (h':Kp b c):Kp a c:=⟨h'.1.trans h.1,fun x y=>h'.2 (h.2 x y).1 (h.2 x y).2⟩
theorem Kp.off {s s':S58} (h:Kp s s') (h2:s.f2=0) (h3:s.f3=false) (h':s'.f3=true):False:=by
  have:=(h.2 h2 h3).2
  rw [h'] at this; cases this
theorem aIw (s:S58) (l:List S64):Kp s { step s with f0:=l }:=by
  refine⟨rfl,fun h2 h3=>?_⟩
  unfold step
  rw [h2,h3]
  exact⟨rfl,rfl⟩
theorem aIy {s:S58} {n:List UInt8} (hn:yW n=true) (h:s.f3=false):wP s n=0:=by unfold wP; rw [if_pos hn,h]; rfl
theorem aSb {kk:Nat} {s:S58} (h:SI kk s) {n:List UInt8} {x:S64} (hx:get s.f0 n=some x):yW n=true:=by
  obtain⟨h1,rfl⟩:=aIl hx
  exact h.form x h1
theorem aE1 {kk:Nat} {s:S58} (h:SI kk s) (hon:s.f3=false) {n:List UInt8} {x:S64} (hx:get s.f0 n=some x) (f:S64→List S64) :
    Kp s (aEc s n f).2∧(((aEc s n f).1=0∧(aEc s n f).2.f3=false∧(aEc s n f).2.f0=f x)∨((aEc s n f).1=9∧(aEc s n f).2.f3=true∧(aEc s n f).2.f0=s.f0)):=by
  unfold aEc
  rw [if_pos (aIy (aSb h hx) hon),hx]
  dsimp only
  split
  · rename_i c
    exact⟨aIw s s.f0,.inr ⟨rfl,c,rfl⟩⟩
  · rename_i c
    exact⟨aIw s (f x),.inl ⟨rfl,by simpa using c,rfl⟩⟩
theorem aPt {kk:Nat} {s:S58} (h:SI kk s) (hon:s.f3=false) {n:List UInt8} (hn:yW n=true) (p:List Int) :
    Kp s (aA1 s n p).2∧(((aA1 s n p).1=10∧(aA1 s n p).2=s∧(s.f1 - nH s.f0<p.length∨500≤s.f0.length)) ∨
      (((aA1 s n p).1=0∧(aA1 s n p).2.f3=false∨(aA1 s n p).1=9∧(aA1 s n p).2.f3=true)∧(aA1 s n p).2.f0=put s.f0 ⟨n,((get s.f0 n).getD ⟨n,[],0⟩).f1++p,((get s.f0 n).getD ⟨n,[],0⟩).f2⟩)):=by
  unfold aA1
  rw [if_pos (aIy hn hon)]
  split
  · rename_i c
    exact⟨Kp.refl s,.inl ⟨rfl,rfl,c.elim .inl fun c=>.inr c.2⟩⟩
  · refine⟨aIw s _,.inr ⟨?_,rfl⟩⟩
    dsimp only
    split
    · rename_i c
      exact .inr ⟨rfl,c⟩
    · rename_i c
      exact .inl ⟨rfl,by simpa using c⟩
theorem aDj:∀ {l:List S64},mC l→(l.map S64.f0).Nodup
  | [],_=>List.nodup_nil
  | x::l,h=>by
    obtain⟨h1,h2⟩:=List.pairwise_cons.1 h
    refine List.nodup_cons.2 ⟨fun hm=>?_,aDj h2⟩
    obtain⟨y,hy,e⟩:=List.mem_map.1 hm
    have:=h1 y hy
    rw [e,wL] at this
    cases this
theorem aI2:∀ {l:List S64},mC l→∀ {x:S64},x∈l→get l x.f0=some x
  | [],_,x,hx=>by cases hx
  | y::l,h,x,hx=>by
    obtain⟨h1,h2⟩:=List.pairwise_cons.1 h
    rcases List.mem_cons.1 hx with rfl | hx
    · simp [get]
    · have hne:(y.f0==x.f0)=false:=by
        rw [beq_eq_false_iff_ne]
        intro e
        have:=h1 x hx
        rw [e,wL] at this
        cases this
      have:=aI2 h2 hx
      unfold get at this ⊢
      rw [List.find?_cons_of_neg (by simp [hne])]
      exact this
def aLq (n:Nat):List UInt8:=if n<10 then [UInt8.ofNat (48+n)] else if n<100 then [UInt8.ofNat (48+n / 10),UInt8.ofNat (48+n % 10)] else [UInt8.ofNat (48+n / 10 / 10),UInt8.ofNat (48+n / 10 % 10),UInt8.ofNat (48+n % 10)]
def preR:List UInt8:=[114,117,110,46]
def gR (n:Nat):List UInt8:=preR++aLq n
def oB (f:List UInt8):Bool:=decide (4≤f.length)&&(f.take 4==preR)
theorem aF6 {u:Nat} (h:u<10):Lib.decDigits u=[UInt8.ofNat (48+u)]:=by rw [Lib.decDigits,dif_pos h]
theorem aR9 {u:Nat} (h:¬ u<10):Lib.decDigits u=Lib.decDigits (u / 10)++[UInt8.ofNat (48+u % 10)]:=by rw [Lib.decDigits,dif_neg h]
theorem aQf {n:Nat} (h:n<1000):Lib.itoa (n:Int)=aLq n:=by
  unfold Lib.itoa aLq
  rw [if_neg (by omega),show ((n:Int)).toNat=n from rfl]
  by_cases h1:n<10
  · rw [if_pos h1,aF6 h1]
  · rw [if_neg h1,aR9 h1]
    by_cases h2:n<100
    · rw [if_pos h2,aF6 (by omega)]; rfl
    · rw [if_neg h2,aR9 (by omega),aF6 (by omega)]; rfl
theorem aRm {n:Nat} (h:n<1000):strconv_Itoa (n:Int)=some (aLq n):=by
  unfold strconv_Itoa
  rw [aW ⟨by omega,by omega⟩,aQf h]
theorem aLa (n:Nat):(aLq n).length≤3:=by unfold aLq; split <;> (try split) <;> simp
theorem aKy:∀ n<600,yW (gR n)=true:=by decide +kernel
def bBo (l:List UInt8):Nat:=l.foldl (fun a c=>10 * a+(c.toNat - 48)) 0
theorem aNs:∀ n<600,bBo ((gR n).drop 4)=n:=by decide +kernel
theorem aQa {m n:Nat} (hm:m<600) (hn:n<600) (h:gR m=gR n):m=n:=by
  have:=aNs m hm
  rw [h,aNs n hn] at this
  exact this.symm
theorem aAl (n:Nat):oB (gR n)=true:=by simp [oB,gR,preR]
theorem aKb (n:Nat):(gR n).length≤7:=by have:=aLa n; simp only [gR,preR,List.length_append,List.length_cons,List.length_nil]; omega
theorem aO1 (f:List UInt8) (hf:f.length<4611686018427387904):mE f preR=some (oB f):=by
  unfold mE lA oB
  rw [show ((preR.length:Nat):Int)=4 from rfl]
  by_cases h:4≤f.length
  · rw [if_pos (by simp only [decide_eq_true_eq]; omega),show (4:Int)=((4:Nat):Int) from rfl,show (0:Int)=((0:Nat):Int) from rfl,uF (by omega) h]
    simp [h]
  · rw [if_neg (by simp only [decide_eq_true_eq]; omega)]
    simp [h]
def oth (l:List S64):List S64:=l.filter fun x => !oB x.f0
theorem aH2 {n:List UInt8} (hn:oB n=true) (l:List S64):oth (del l n)=oth l:=by
  unfold oth P.del
  rw [List.filter_filter]
  refine List.filter_congr fun x _=>?_
  cases c:oB x.f0 with
  | true=>rfl
  | false =>
    have:(x.f0==n)=false:=by
      rw [beq_eq_false_iff_ne]
      intro e
      rw [e,hn] at c
      cases c
    rw [this]; rfl
theorem aUk {l:List S64} (h:mC l) {y:S64} (hy:oB y.f0=true):oth (put l y)=oth l:=by
  unfold oth
  rcases zV h y.f0 with ⟨P,x,D,rfl,hx⟩ | ⟨P,D,rfl,hP,hD⟩
  · rw [aBz hx h,List.filter_append,List.filter_append,List.filter_cons_of_neg (by simp [hy]),List.filter_cons_of_neg (by simp [hx,hy])]
  · rw [aAn hP hD,List.filter_append,List.filter_append,List.filter_cons_of_neg (by simp [hy])]
theorem aRl {l:List S64} (h:mC l) {y:S64} (hy:get l y.f0=none):(put l y).Perm (y::l):=by
  rcases zV h y.f0 with ⟨P,x,D,rfl,hx⟩ | ⟨P,D,rfl,hP,hD⟩
  · rw [vR hx h] at hy; cases hy
  · rw [aAn hP hD]; exact List.perm_middle
theorem aK8 {l:List S64} (h:mC l) {n:List UInt8} {x:S64} (hx:get l n=some x):l.Perm (x::del l n):=by
  rcases zV h n with ⟨P,y,D,rfl,hy⟩ | ⟨P,D,rfl,hP,hD⟩
  · rw [vR hy h] at hx
    cases hx
    rw [aEu hy h]; exact List.perm_middle
  · rw [xA hP hD] at hx; cases hx
theorem aN5 {l m:List S64} (h:l.Perm m):nH l=nH m:=(h.map _).sum_nat
def cln:List (List UInt8)→S58→Int×S58
  | [],s=>(0,s)
  | f::r,s=>if oB f=true then (if (kN s f).1=0 then cln r (kN s f).2 else kN s f) else cln r s
theorem aOv {kk:Nat} {s:S58} (h:SI kk s) (hk:kk<4611686018427387904) {L:List (List UInt8)} {i:Nat} {f:List UInt8} (hf:L[i]?=some f) (hl:f.length≤32) (hL:L.length≤500) :
    eE L s.f0 s.f1 s.f2 s.f3 s.f4 (i:Int)=if oB f=true then (if (kN s f).1=0 then some (.inl ((kN s f).2.f0,(kN s f).2.f1,(kN s f).2.f2,(kN s f).2.f3,(kN s f).2.f4,((i+1:Nat):Int))) else some (.inr (.inr ((kN s f).1,some (kN s f).2)))) else some (.inl (s.f0,s.f1,s.f2,s.f3,s.f4,((i+1:Nat):Int))):=by
  have hi:=(List.getElem?_eq_some_iff.1 hf).1
  have hb2:∀ (l:List S64) (a b:Int) (c:Bool) (d:Int),lJ (i:Int) l a b c d=some (.inl (l,a,b,c,d,((i+1:Nat):Int))):=by
    intro l a b c d
    unfold lJ
    rw [lt_,w64 (by omega) (by omega)]
    rfl
  unfold eE
  rw [if_pos (by simp only [decide_eq_true_eq]; omega),aH rfl hf]
  simp only [Option.bind_some]
  rw [show ([114,117,110,46]:List UInt8)=preR from rfl,aO1 f (by omega)]
  simp only [Option.bind_some]
  by_cases c:oB f=true
  · rw [if_pos c,if_pos c,show (⟨s.f0,s.f1,s.f2,s.f3,s.f4⟩:S58)=s from rfl,h.Delete hk (by omega)]
    simp only [Option.bind_some]
    by_cases c2:(kN s f).1=0
    · rw [if_neg (by simp [c2]),if_pos c2,hb2]
    · rw [if_pos (by simpa using c2),if_neg c2]
  · rw [if_neg c,if_neg c,hb2]
theorem aE4 {L:List (List UInt8)} (hL:L.length≤500) (h32:∀ f∈L,f.length≤32):∀ (m i kk:Nat) (s:S58),i+m=L.length→SI kk s→kk+m<4611686018427387904 →
    ((loop (fun q:List S64×Int×Int×Bool×Int×Int=>eE L q.1 q.2.1 q.2.2.1 q.2.2.2.1 q.2.2.2.2.1 q.2.2.2.2.2) (s.f0,s.f1,s.f2,s.f3,s.f4,(i:Int))).bind fun t=>match t with | (.inl t)=>oV t.1 t.2.1 t.2.2.1 t.2.2.2.1 t.2.2.2.2 | (.inr t)=>some t)=some ((cln (L.drop i) s).1,some (cln (L.drop i) s).2)
  | 0,i,kk,s,hi,h,hk=>by
    rw [bJ (b:=fun q:List S64×Int×Int×Bool×Int×Int=>eE L q.1 q.2.1 q.2.2.1 q.2.2.2.1 q.2.2.2.2.1 q.2.2.2.2.2) (t:=.inl (s.f0,s.f1,s.f2,s.f3,s.f4)) (by
      show eE L s.f0 s.f1 s.f2 s.f3 s.f4 (i:Int)=_
      unfold eE
      rw [if_neg (by simp only [decide_eq_true_eq]; omega)]),List.drop_of_length_le (by omega)]
    rfl
  | m+1,i,kk,s,hi,h,hk=>by
    have hx:=List.getElem?_eq_getElem (l:=L) (i:=i) (by omega)
    have hr:=aOv h (by omega) hx (h32 _ (List.getElem_mem (by omega))) hL
    rw [List.drop_eq_getElem_cons (by omega)]
    unfold cln
    by_cases c:oB L[i]=true
    · rw [if_pos c] at hr ⊢
      by_cases c2:(kN s L[i]).1=0
      · rw [if_pos c2] at hr ⊢
        rw [dD (b:=fun q:List S64×Int×Int×Bool×Int×Int=>eE L q.1 q.2.1 q.2.2.1 q.2.2.2.1 q.2.2.2.2.1 q.2.2.2.2.2) hr]
        exact aE4 hL h32 m (i+1) (kk+1) _ (by omega) (h.del (n:=L[i])) (by omega)
      · rw [if_neg c2] at hr ⊢
        rw [bJ (b:=fun q:List S64×Int×Int×Bool×Int×Int=>eE L q.1 q.2.1 q.2.2.1 q.2.2.2.1 q.2.2.2.2.1 q.2.2.2.2.2) hr]
        rfl
    · rw [if_neg c] at hr ⊢
      rw [dD (b:=fun q:List S64×Int×Int×Bool×Int×Int=>eE L q.1 q.2.1 q.2.2.1 q.2.2.2.1 q.2.2.2.2.1 q.2.2.2.2.2) hr]
      exact aE4 hL h32 m (i+1) kk _ (by omega) h (by omega)
theorem aQ7 {kk:Nat} {s:S58} (h:SI kk s) (hk:kk+500<4611686018427387904):nS (some s)=some ((cln (s.f0.map S64.f0) s).1,some (cln (s.f0.map S64.f0) s).2):=by
  have hl:=h.len
  unfold nS
  dsimp only
  rw [h.Names]
  simp only [Option.bind_some]
  have:=aE4 (L:=s.f0.map S64.f0) (by simpa using hl) (fun f hf=>by
    obtain⟨x,hx,rfl⟩:=List.mem_map.1 hf
    exact aSg (h.form x hx)) s.f0.length 0 kk s (by simp) h (by omega)
  rw [List.drop_zero] at this
  exact this
theorem aF9:∀ (L:List (List UInt8)) (s:S58) (kk:Nat),SI kk s→s.f3=false→L.Nodup→(∀ f∈L,∃ x,get s.f0 f=some x)→(∀ x∈s.f0,oB x.f0=true→x.f0∈L) →
    SI (kk+L.length) (cln L s).2∧Kp s (cln L s).2∧oth (cln L s).2.f0=oth s.f0 ∧
      (((cln L s).1=0∧(cln L s).2.f3=false∧∀ x∈(cln L s).2.f0,oB x.f0=false)∨((cln L s).1=9∧(cln L s).2.f3=true))
  | [],s,kk,h,hon,hnd,hL,hR=>⟨h,Kp.refl s,rfl,.inl ⟨rfl,hon,fun x hx=>by
      cases c:oB x.f0 with
      | false=>rfl
      | true=>cases hR x hx c⟩⟩
  | f::L,s,kk,h,hon,hnd,hL,hR=>by
    obtain⟨hf,hnd'⟩:=List.nodup_cons.1 hnd
    unfold cln
    by_cases c:oB f=true
    · rw [if_pos c]
      obtain⟨x,hx⟩:=hL f List.mem_cons_self
      have h1:=h.del (n:=f)
      obtain⟨kp,hd⟩:=aE1 h hon hx fun x=>del s.f0 f
      rcases hd with ⟨e0,on1,l1⟩ | ⟨e9,off1,l1⟩
      · have e0':(kN s f).1=0:=e0
        have l1':(kN s f).2.f0=del s.f0 f:=l1
        rw [if_pos e0']
        have hL':∀ g∈L,∃ x,get (kN s f).2.f0 g=some x:=fun g hg=>by
          obtain⟨y,hy⟩:=hL g (List.mem_cons_of_mem _ hg)
          refine⟨y,?_⟩
          rw [l1',aSk h.rise,if_neg (fun e=>hf (by rw [e]; exact hg))]
          exact hy
        obtain⟨i1,i2,i3,i4⟩:=aF9 L (kN s f).2 (kk+1) h1 on1 hnd' hL' fun y hy cy=>by
          rw [l1'] at hy
          have hne:y.f0≠f:=fun e=>by
            have:=(List.mem_filter.1 hy).2
            simp [e] at this
          rcases List.mem_cons.1 (hR y (aEk hy) cy) with e | e
          · exact absurd e hne
          · exact e
        exact⟨by rw [List.length_cons,show kk+(L.length+1)=kk+1+L.length by omega]; exact i1,Kp.trans kp i2,by rw [i3,l1',aH2 c],i4⟩
      · have e9':(kN s f).1=9:=e9
        have l1':(kN s f).2.f0=s.f0:=l1
        rw [if_neg (by rw [e9']; decide)]
        exact⟨h1.mono (by rw [List.length_cons]; omega),kp,by rw [l1'],.inr ⟨e9',off1⟩⟩
    · rw [if_neg c]
      obtain⟨i1,i2,i3,i4⟩:=aF9 L s kk h hon hnd' (fun g hg=>hL g (List.mem_cons_of_mem _ hg)) fun y hy cy=>by
        rcases List.mem_cons.1 (hR y hy cy) with e | e
        · rw [e] at cy; exact absurd cy c
        · exact e
      exact⟨i1.mono (by rw [List.length_cons]; omega),i2,i3,i4⟩
theorem aNp {l:List S64} (h:∀ x∈l,oB x.f0=false):oth l=l:=List.filter_eq_self.2 fun x hx=>by rw [h x hx]; rfl
theorem aFh {kk:Nat} {s:S58} (h:SI kk s) (hk:kk+500<4611686018427387904) (hon:s.f3=false) :
    ∃ e s',nS (some s)=some (e,some s')∧SI (kk+500) s'∧Kp s s'∧oth s'.f0=oth s.f0∧((e=0∧s'.f3=false∧s'.f0=oth s.f0)∨(e=9∧s'.f3=true)):=by
  obtain⟨i1,i2,i3,i4⟩:=aF9 (s.f0.map S64.f0) s kk h hon (aDj h.rise) (fun f hf=>by
    obtain⟨x,hx,rfl⟩:=List.mem_map.1 hf
    exact⟨x,aI2 h.rise hx⟩) fun x hx _=>List.mem_map.2 ⟨x,hx,rfl⟩
  refine⟨_,_,aQ7 h hk,i1.mono (by have:=h.len; rw [List.length_map]; omega),i2,i3,?_⟩
  rcases i4 with ⟨a,b,d⟩ | q
  · exact .inl ⟨a,b,by rw [← i3,aNp d]⟩
  · exact .inr q
section
variable {α:Type} {q:Nat}
theorem aMz (hq:1≤q):pcs q ([]:List α)=[]:=by
  unfold pcs
  rw [show (([]:List α).length+q - 1) / q=0 from by rw [Nat.div_eq_zero_iff]; simp only [List.length_nil]; omega]
  rfl
theorem aJ6 (hq:1≤q) {xs:List α} (h:xs≠[]):pcs q xs=xs.take q::pcs q (xs.drop q):=by
  have hl:0<xs.length:=List.length_pos_iff.2 h
  have e:(xs.length+q - 1) / q=((xs.drop q).length+q - 1) / q+1:=by
    rw [List.length_drop]
    by_cases c:q≤xs.length
    · rw [show xs.length+q - 1=xs.length - q+q - 1+q by omega,Nat.add_div_right _ (by omega)]
    · rw [show xs.length - q+q - 1=q - 1 by omega,Nat.div_eq_of_lt (show q - 1<q by omega)]
      exact Nat.div_eq_of_lt_le (by omega) (by omega)
  unfold pcs
  rw [e,List.range_succ_eq_map,List.map_cons,List.map_map]
  congr 1
  · rw [Nat.zero_mul,List.drop_zero]
  · refine List.map_congr_left fun k _=>?_
    show (xs.drop ((k+1) * q)).take q=((xs.drop q).drop (k * q)).take q
    rw [List.drop_drop,Nat.add_mul,Nat.one_mul,Nat.add_comm]
theorem aNr (hq:1≤q) {p:List α→Prop} (h0:p []) (hs:∀ xs,xs≠[]→p (xs.drop q)→p xs) (xs:List α):p xs:=by
  generalize hn:xs.length=n
  induction n using Nat.strongRecOn generalizing xs with
  | _ n ih =>
    by_cases c:xs=[]
    · rw [c]; exact h0
    · have hl:0<xs.length:=List.length_pos_iff.2 c
      exact hs xs c (ih (xs.drop q).length (by rw [List.length_drop]; omega) _ rfl)
theorem aEh (hq:1≤q):∀ (xs:List α),∀ c∈pcs q xs,c≠[]∧c.length≤q∧∀ x∈c,x∈xs:=by
  refine aNr hq (fun c hc=>by rw [aMz hq] at hc; cases hc) fun xs h ih c hc=>?_
  rw [aJ6 hq h] at hc
  rcases List.mem_cons.1 hc with rfl | hc
  · refine⟨fun e=>?_,by simp; omega,fun x hx=>List.mem_of_mem_take hx⟩
    have hl:0<xs.length:=List.length_pos_iff.2 h
    have:=congrArg List.length e
    rw [List.length_take,List.length_nil] at this
    omega
  · obtain⟨a,b,d⟩:=ih c hc
    exact⟨a,b,fun x hx=>List.mem_of_mem_drop (d x hx)⟩
theorem uQ (hq:1≤q):∀ (xs:List α),(pcs q xs).flatten=xs:=by
  refine aNr hq (by rw [aMz hq]; rfl) fun xs h ih=>?_
  rw [aJ6 hq h,List.flatten_cons,ih,List.take_append_drop]
end
def pgB (c:List S47):List Int:=vD 101 (aBd c)
def pgs (r:List S47):List Int:=((pcs 64 r).map pgB).flatten
structure Gd4 (k:Int) (r:List S47):Prop where
  laid:aE3 r
  form:∀ e∈r,tB e k=true
  len:r.length≤1000
theorem Gd4.sub {k:Int} {r c:List S47} (h:Gd4 k r) (hc:∀ x∈c,x∈r) (hl:c.length≤1000):Gd4 k c:=⟨fun e he=>h.laid e (hc e he),fun e he=>h.form e (hc e he),hl⟩
theorem aM3 {c:List S47} (hl:c.length≤64) (hL:aE3 c) (h0:c≠[]):(pgB c).length≤216 * c.length∧9≤(pgB c).length:=by
  have h1:=aC7 (by omega) hL
  have h2:0<c.length:=List.length_pos_iff.2 h0
  unfold pgB
  rw [aHw]
  omega
theorem aXl {c:List S47} (hl:c.length≤64) (hL:aE3 c):Bs (pgB c):=aRr (by decide) (aP9 (by omega) hL)
theorem aQz {cs:List (List S47)} (h:∀ c∈cs,c≠[]∧c.length≤64∧aE3 c):((cs.map pgB).flatten).length≤216 * cs.flatten.length:=by
  induction cs with
  | nil=>exact Nat.le_refl _
  | cons c cs ih =>
    have h1:=ih fun x hx=>h x (List.mem_cons_of_mem _ hx)
    obtain⟨a,b,d⟩:=h c List.mem_cons_self
    have h2:=aM3 b d a
    simp only [List.map_cons,List.flatten_cons,List.length_append]
    omega
section
variable {k:Int} {r:List S47} (hg:Gd4 k r)
include hg
theorem aEl:∀ c∈pcs 64 r,c≠[]∧c.length≤64∧aE3 c:=fun c hc=>by
  obtain⟨a,b,d⟩:=aEh (by decide) r c hc
  exact⟨a,b,fun e he=>hg.laid e (d e he)⟩
theorem aEs:(pgs r).length≤216 * r.length:=by
  have:=aQz (aEl hg)
  rwa [uQ (by decide)] at this
theorem aQs:Bs (pgs r):=fun b hb=>by
  obtain⟨p,hp,hb⟩:=List.mem_flatten.1 hb
  obtain⟨c,hc,rfl⟩:=List.mem_map.1 hp
  obtain⟨_,h2,h3⟩:=aEl hg c hc
  exact aXl h2 h3 b hb
end
theorem aJv:∀ (cs:List (List S47)) (acc:List Int),(∀ c∈cs,c≠[]∧c.length≤64∧aE3 c)→acc.length+((cs.map pgB).flatten).length<1099511627776 →
    cs.foldlM (fun s l=>jF s l) acc=some (acc++(cs.map pgB).flatten)
  | [],acc,_,_=>by simp
  | c::cs,acc,h,hl=>by
    obtain⟨a,b,d⟩:=h c List.mem_cons_self
    simp only [List.map_cons,List.flatten_cons,List.length_append] at hl
    rw [List.foldlM_cons]
    unfold jF
    rw [aIn (by omega) d (by omega)]
    simp only [Option.bind_some,Option.bind_eq_bind]
    have:=aJv cs (acc++pgB c) (fun x hx=>h x (List.mem_cons_of_mem _ hx)) (by rw [List.length_append]; omega)
    rw [List.map_cons,List.flatten_cons, ← List.append_assoc]
    exact this
def rf (q:Nat×List S47):S64:=⟨gR q.1,pgs q.2,0⟩
theorem aRa {l:List S64} {n:List UInt8} (h:∀ x∈l,x.f0≠n):get l n=none:=List.find?_eq_none.2 fun x hx=>by simpa using h x hx
section
variable {kk n:Nat} {s:S58} {p:S26} {k:Int} {r:List S47} {O:List S64} {ns:List (Nat×List S47)}
theorem aOz (hp:s.f0.Perm (O++ns.map rf)) (hO:∀ x∈O,oB x.f0=false) (hlt:∀ q∈ns,q.1<n) (hn:n<600):get s.f0 (gR n)=none:=by
  refine aRa fun x hx e=>?_
  rcases List.mem_append.1 (hp.mem_iff.1 hx) with h | h
  · have:=hO x h
    rw [e,aAl] at this
    cases this
  · obtain⟨q,hq,rfl⟩:=List.mem_map.1 h
    have h1:=hlt q hq
    have:=aQa (by omega) hn e
    omega
theorem aE2 (h:SI kk s) (hk:kk<4611686018427387904) (hon:s.f3=false) (hp:s.f0.Perm (O++ns.map rf)) (hO:∀ x∈O,oB x.f0=false) (hlt:∀ q∈ns,q.1<n) (hn:n<600) (hg:Gd4 k r) :
    ∃ e s',jG ⟨s,p,k,(n:Int)⟩ r=some (gR n,e,⟨s',p,k,((n+1:Nat):Int)⟩)∧SI (kk+1) s'∧Kp s s'∧oth s'.f0=oth s.f0 ∧
      ((e=0∧s'.f3=false∧s'.f0.Perm (O++(ns++[(n,r)]).map rf))∨(e=10∧s'=s∧(s.f1 - nH s.f0<(pgs r).length∨500≤s.f0.length))∨(e=9∧s'.f3=true)):=by
  have hgn:=aOz hp hO hlt hn
  have hlen:=aEs hg
  have hgl:=hg.len
  obtain⟨kp,hd⟩:=aPt h hon (aKy n hn) (pgs r)
  refine⟨(aA1 s (gR n) (pgs r)).1,(aA1 s (gR n) (pgs r)).2,?_,h.app (aQs hg),kp,?_,?_⟩
  · unfold jG
    rw [aRm (by omega)]
    simp only [Option.bind_some,lt_]
    have hd3:=aLa n
    rw [aW (by simp only [List.length_cons,List.length_nil,maxLen]; omega),w64 (n:=(n:Int)+1) (by omega) (by omega),aW (by omega),aJv _ _ (aEl hg) (by rw [List.length_nil]; unfold pgs at hlen; omega)]
    simp only [Option.bind_some,List.nil_append]
    unfold kZ
    rw [show ((pcs 64 r).map pgB).flatten=pgs r from rfl,show ([114,117,110,46]:List UInt8)++aLq n=gR n from rfl,h.Append hk (by have:=aKb n; omega)]
    rfl
  · rcases hd with ⟨_,e,_⟩ | ⟨_,e⟩
    · rw [e]
    · rw [e]
      exact aUk h.rise (aAl n)
  · rw [hgn] at hd
    rcases hd with ⟨a,b,c⟩ | ⟨a | a,e⟩
    · exact .inr (.inl ⟨a,b,c⟩)
    · refine .inl ⟨a.1,a.2,?_⟩
      rw [e]
      refine (aRl h.rise (by exact hgn)).trans ?_
      rw [List.map_append, ← List.append_assoc]
      exact (List.Perm.cons _ hp).trans (List.perm_append_singleton _ _).symm
    · exact .inr (.inr a)
end
theorem aFz {s:S58} {p:S26} {k:Int} {n:Int} {y:List Int×Int} (hB:Bs y.1) (hl:y.1.length<1099511627776):∀ (cs:List (List S47)) (P:List Int) (out:List S47),y.1=P++(cs.map pgB).flatten →
    (∀ c∈cs,(c≠[]∧c.length≤64∧aE3 c)∧∀ e∈c,tB e k=true)→out.length+cs.flatten.length≤10000 →
    loop (fun q:Int×List S47×Int=>cZ ⟨s,p,k,n⟩ y q.1 q.2.1 q.2.2) (0,out,(P.length:Int))=some (0,out++cs.flatten.map jE)
  | [],P,out,hy,_,_=>by
    refine bJ (b:=fun q:Int×List S47×Int=>cZ ⟨s,p,k,n⟩ y q.1 q.2.1 q.2.2) ?_
    show cZ ⟨s,p,k,n⟩ y 0 out (P.length:Int)=_
    unfold cZ gQ
    rw [if_pos (by rfl),if_neg (by rw [hy]; simp)]
    simp
  | c::cs,P,out,hy,h,hlo=>by
    obtain⟨⟨a,b,d⟩,f⟩:=h c List.mem_cons_self
    have hpl:=aM3 b d a
    rw [List.map_cons,List.flatten_cons] at hy
    rw [List.flatten_cons,List.length_append] at hlo
    have hr:rI y.1 (P.length:Int) k=some (c.map jE,((P.length+(pgB c).length:Nat):Int),0):=by
      rw [aGt hB hl,hy, ← List.append_assoc]
      unfold pgB
      rw [aQt (by omega) d,if_pos (List.all_eq_true.2 f)]
    rw [dD (b:=fun q:Int×List S47×Int=>cZ ⟨s,p,k,n⟩ y q.1 q.2.1 q.2.2) (s':=(0,out++c.map jE,((P.length+(pgB c).length:Nat):Int))) (by
      show cZ ⟨s,p,k,n⟩ y 0 out (P.length:Int)=_
      unfold cZ gQ
      rw [if_pos (by rfl),if_pos (by rw [hy]; simp only [decide_eq_true_eq,List.length_append]; omega)]
      show (rI y.1 (P.length:Int) k).bind _=_
      rw [hr]
      simp only [Option.bind_some]
      rw [aW (by simp only [List.length_map]; omega)])]
    have:=aFz (s:=s) (p:=p) (n:=n) hB hl cs (P++pgB c) (out++c.map jE) (by rw [hy,List.append_assoc]) (fun x hx=>h x (List.mem_cons_of_mem _ hx)) (by simp only [List.length_append,List.length_map]; omega)
    rw [List.length_append] at this
    rw [this,List.flatten_cons,List.map_append,List.append_assoc]
section
variable {kk n j:Nat} {s:S58} {p:S26} {k:Int} {r:List S47}
theorem aK4 (h:SI kk s) (hk:kk<4611686018427387904) (hon:s.f3=false) (hj:j<600) (hx:get s.f0 (gR j)=some (rf (j,r))) (hg:Gd4 k r) (m:Int) :
    jH ⟨s,p,k,m⟩ (gR j)=some (r.map jE,(kN s (gR j)).1,⟨(kN s (gR j)).2,p,k,m⟩):=by
  have hlen:=aEs hg
  have hgl:=hg.len
  have hnl:=aKb j
  unfold jH
  dsimp only
  rw [h.Read (by omega)]
  simp only [Option.bind_some]
  have hrd:aM8 s (gR j)=(pgs r,0):=by
    unfold aM8
    rw [if_pos (aIy (aKy j hj) hon),hx]
    rfl
  rw [hrd]
  have:=aFz (s:=s) (p:=p) (n:=m) (y:=(pgs r,0)) (k:=k) (aQs hg) (by dsimp only; omega) (pcs 64 r) [] [] rfl (fun c hc=>⟨aEl hg c hc,fun e he=>hg.form e ((aEh (by decide) r c hc).2.2 e he)⟩) (by rw [uQ (by decide)]; simp only [List.length_nil]; omega)
  rw [uQ (by decide),List.nil_append,show ((([]:List Int).length:Nat):Int)=0 from rfl] at this
  rw [this]
  simp only [Option.bind_some]
  unfold jV lN
  rw [if_neg (by simp),h.Delete hk (by omega)]
  rfl
end
section
variable {α:Type} {lt:α→α→Bool}
theorem yK (h:SWO lt) {a a' b b':List α} (ha:sortL lt a=sortL lt a') (hb:sortL lt b=sortL lt b'):sortL lt (a++b)=sortL lt (a'++b'):=by
  rw [← aAj h a b,ha,hb,aAj h]
theorem aDs (h:SWO lt) (a:List α):sortL lt (sortL lt a)=sortL lt a:=iF (nD h a)
end
def val (r:List S47):List S47:=r.map jE
theorem aKc (x:S47):∀ l:List S47,ins bef (jE x) (l.map jE)=(ins bef x l).map jE
  | []=>rfl
  | y::l=>by
    have ih:=aKc x l
    show (if bef x y=true then jE x::jE y::l.map jE else jE y::ins bef (jE x) (l.map jE))=List.map jE (if bef x y=true then x::y::l else y::ins bef x l)
    split
    · rfl
    · rw [ih]; rfl
theorem aEx:∀ (l acc:List S47),(l.map jE).foldl (fun acc x=>ins bef x acc) (acc.map jE)=(l.foldl (fun acc x=>ins bef x acc) acc).map jE
  | [],_=>rfl
  | x::l,acc=>by
    rw [List.map_cons,List.foldl_cons,List.foldl_cons,aKc]
    exact aEx l _
theorem aBo (l:List S47):sortL bef (val l)=val (sortL bef l):=aEx l []
theorem aOc (e:S47):jE (jE e)=jE e:=by unfold jE; rw [uI]
theorem aTk (r:List S47):val (val r)=val r:=by
  unfold val
  rw [List.map_map]
  exact List.map_congr_left fun e _=>aOc e
theorem aEg (r:List S47):(val r).length=r.length:=by unfold val; rw [List.length_map]
theorem aSq (a b:List S47):val (a++b)=val a++val b:=by unfold val; rw [List.map_append]
theorem Srt.val {r:List S47} (h:Srt bef r):Srt bef (val r):=by
  unfold Srt P.val at *
  rw [List.pairwise_map]
  exact h
theorem Gd4.val {k:Int} {r:List S47} (h:Gd4 k r):Gd4 k (val r):=by
  refine⟨fun e he=>?_,fun e he=>?_,by rw [aEg]; exact h.len⟩
  · obtain⟨x,hx,rfl⟩:=List.mem_map.1 he
    obtain⟨a,b,c,d,f⟩:=h.laid x hx
    exact⟨a,b,c,d,aJw f⟩
  · obtain⟨x,hx,rfl⟩:=List.mem_map.1 he
    exact h.form x hx
theorem Gd4.sort {k:Int} {r:List S47} (h:Gd4 k r):Gd4 k (sortL bef r):=h.sub (fun x hx=>(aN8 x r).1 hx) (by rw [aN]; exact h.len)
def tot (ns:List (Nat×List S47)):Nat:=(ns.map fun q=>q.2.length).sum
theorem aEr (a b:List (Nat×List S47)):tot (a++b)=tot a+tot b:=by simp [tot]
theorem aJ1 (q:Nat×List S47) (b:List (Nat×List S47)):tot (q::b)=q.2.length+tot b:=by simp [tot]
theorem zL:∀ (ns:List (Nat×List S47)),((ns.map fun q=>val q.2).flatten).length=tot ns
  | []=>rfl
  | q::ns=>by rw [List.map_cons,List.flatten_cons,List.length_append,zL ns,aJ1,aEg]
theorem aNl {k:Int}:∀ (ns:List (Nat×List S47)),(∀ q∈ns,Gd4 k q.2)→nH (ns.map rf)≤216 * tot ns
  | [],_=>Nat.le_refl _
  | q::ns,h=>by
    have h1:=aNl ns fun x hx=>h x (List.mem_cons_of_mem _ hx)
    have h2:=aEs (h q List.mem_cons_self)
    rw [List.map_cons,wB,aJ1]
    show (pgs q.2).length+_≤_
    omega
def aHn (s:S58) (O:List S64) (N:Nat):Prop:=s.f1<(nH O+216 * N:Nat)∨245≤O.length
theorem aKq {k:Int} {s:S58} {O:List S64} {ns:List (Nat×List S47)} {r:List S47} {N:Nat} (hp:s.f0.Perm (O++ns.map rf)) (hns:∀ q∈ns,Gd4 k q.2) (hr:Gd4 k r) (hN:tot ns+r.length≤N) (hl:ns.length≤255)
    (h:s.f1 - nH s.f0<(pgs r).length∨500≤s.f0.length):aHn s O N:=by
  have h1:=aNl ns hns
  have h2:=aEs hr
  have h3:=aN5 hp
  have h4:=hp.length_eq
  rw [rV] at h3
  rw [List.length_append,List.length_map] at h4
  rcases h with h | h
  · left; omega
  · right; omega
section
variable {k:Int} {p:S26} {O:List S64} {R:List (Nat×List S47)}
theorem aNc {kk:Nat} {s:S58} (h:SI kk s) {ns:List (Nat×List S47)} (hp:s.f0.Perm (O++ns.map rf)) {q:Nat×List S47} (hq:q∈ns):get s.f0 (gR q.1)=some (rf q) :=
  aI2 h.rise (x:=rf q) (hp.mem_iff.2 (List.mem_append.2 (.inr (List.mem_map.2 ⟨q,hq,rfl⟩))))
noncomputable abbrev aHo (A:List (List UInt8)) (s:S58) (p:S26) (k m:Int) (all:List (List S47)) (i:Int) :=
  loop (fun s=>fA A s.1 s.2.1 s.2.2.1 s.2.2.2.1 s.2.2.2.2.1 s.2.2.2.2.2.1 s.2.2.2.2.2.2.1 s.2.2.2.2.2.2.2.1 s.2.2.2.2.2.2.2.2.1 s.2.2.2.2.2.2.2.2.2.1 s.2.2.2.2.2.2.2.2.2.2) (s.f0,s.f1,s.f2,s.f3,s.f4,p.f0,p.f1,k,m,all,i)
theorem aHy {A:List (List UInt8)} {m:Int} (hA:A.length≤1000):∀ (G:List (Nat×List S47)) (i kk:Nat) (s:S58) (acc:List (List S47)),A.drop i=G.map (fun q=>gR q.1)→SI kk s→kk+G.length<4611686018427387904→s.f3=false →
    s.f0.Perm (O++(G++R).map rf)→(∀ q∈G,q.1<600∧Gd4 k q.2)→(∀ x∈O,oB x.f0=false)→i≤A.length→acc.length≤i →
    ∃ s',SI (kk+G.length) s'∧Kp s s'∧oth s'.f0=oth s.f0 ∧
      ((s'.f3=false∧s'.f0.Perm (O++R.map rf)∧aHo A s p k m acc (i:Int)=some (.inl (s'.f0,s'.f1,s'.f2,s'.f3,s'.f4,p.f0,p.f1,k,m,acc++G.map fun q=>val q.2))) ∨
        (s'.f3=true∧aHo A s p k m acc (i:Int)=some (.inr ([],9,⟨s',p,k,m⟩))))
  | [],i,kk,s,acc,hd,h,hk,hon,hp,hG,hO,hi,ha=>by
    have hl:A.length≤i:=by
      have:=congrArg List.length hd
      rw [List.length_drop] at this
      simp at this
      omega
    refine⟨s,h,Kp.refl s,rfl,.inl ⟨hon,hp,?_⟩⟩
    refine bJ ?_
    show fA A s.f0 s.f1 s.f2 s.f3 s.f4 p.f0 p.f1 k m acc (i:Int)=_
    unfold fA
    rw [if_neg (by simp only [decide_eq_true_eq]; omega)]
    simp
  | q::G,i,kk,s,acc,hd,h,hk,hon,hp,hG,hO,hi,ha=>by
    rw [List.length_cons] at hk
    have hil:i<A.length:=by
      have:=congrArg List.length hd
      rw [List.length_drop,List.length_map,List.length_cons] at this
      omega
    have hAi:A[i]?=some (gR q.1):=by
      have:=congrArg (fun l=>l[0]?) hd
      simpa using this
    have hd':A.drop (i+1)=G.map fun q=>gR q.1:=by
      have:=congrArg (List.drop 1) hd
      rw [List.drop_drop] at this
      simpa using this
    obtain⟨hq6,hqg⟩:=hG q List.mem_cons_self
    have hx:=aNc h hp (q:=q) (by simp)
    have hf:=aK4 (p:=p) h (by omega) hon hq6 hx hqg m
    have hdl:=h.del (n:=gR q.1)
    obtain⟨kp,hc⟩:=aE1 h hon hx fun x=>del s.f0 (gR q.1)
    have step:fA A s.f0 s.f1 s.f2 s.f3 s.f4 p.f0 p.f1 k m acc (i:Int)=if (kN s (gR q.1)).1=0 then some (.inl ((kN s (gR q.1)).2.f0,(kN s (gR q.1)).2.f1,(kN s (gR q.1)).2.f2,(kN s (gR q.1)).2.f3,(kN s (gR q.1)).2.f4,p.f0,p.f1,k,m,acc++[val q.2],((i+1:Nat):Int))) else some (.inr (.inr ([],(kN s (gR q.1)).1,⟨(kN s (gR q.1)).2,p,k,m⟩))):=by
      unfold fA
      rw [if_pos (by simp only [decide_eq_true_eq]; omega),aH rfl hAi]
      simp only [Option.bind_some]
      rw [show (⟨⟨s.f0,s.f1,s.f2,s.f3,s.f4⟩,⟨p.f0,p.f1⟩,k,m⟩:S67)=⟨s,p,k,m⟩ from rfl,hf]
      simp only [Option.bind_some]
      by_cases c:(kN s (gR q.1)).1=0
      · rw [if_neg (by simp [c]),if_pos c,aW (by simp only [List.length_cons,List.length_nil]; omega),lt_,w64 (by omega) (by omega)]
        rfl
      · rw [if_pos (by simpa using c),if_neg c]
    rcases hc with ⟨e0,on1,l1⟩ | ⟨e9,off1,l1⟩
    · have e0':(kN s (gR q.1)).1=0:=e0
      have l1':(kN s (gR q.1)).2.f0=del s.f0 (gR q.1):=l1
      rw [if_pos e0'] at step
      have hp':(kN s (gR q.1)).2.f0.Perm (O++(G++R).map rf):=by
        rw [l1']
        have h1:=(aK8 h.rise hx).symm.trans hp
        rw [List.cons_append,List.map_cons] at h1
        exact (h1.trans List.perm_middle).cons_inv
      obtain⟨s',i1,i2,i3,i4⟩:=aHy (m:=m) hA G (i+1) (kk+1) (kN s (gR q.1)).2 (acc++[val q.2]) hd' hdl (by omega) on1 hp' (fun x hx=>hG x (List.mem_cons_of_mem _ hx)) hO (by omega) (by rw [List.length_append]; simp; omega)
      have hj:aHo A s p k m acc (i:Int)=aHo A (kN s (gR q.1)).2 p k m (acc++[val q.2]) ((i+1:Nat):Int):=dD step
      refine⟨s',by rw [List.length_cons,show kk+(G.length+1)=kk+1+G.length by omega]; exact i1,Kp.trans kp i2,by rw [i3,l1',aH2 (aAl q.1)],?_⟩
      rw [hj]
      rcases i4 with ⟨a,b,c⟩ | c
      · exact .inl ⟨a,b,by rw [c,List.map_cons,List.append_assoc]; rfl⟩
      · exact .inr c
    · have e9':(kN s (gR q.1)).1=9:=e9
      have l1':(kN s (gR q.1)).2.f0=s.f0:=l1
      rw [if_neg (by rw [e9']; decide),e9'] at step
      exact⟨(kN s (gR q.1)).2,hdl.mono (by rw [List.length_cons]; omega),kp,by rw [l1'],.inr ⟨off1,bJ step⟩⟩
theorem aOq {kk n N:Nat} {s:S58} {G:List (Nat×List S47)} (h:SI kk s) (hk:kk+1000<4611686018427387904) (hon:s.f3=false) (hp:s.f0.Perm (O++(G++R).map rf)) (hO:∀ x∈O,oB x.f0=false)
    (hlt:∀ q∈G++R,q.1<n) (hn:n+(G++R).length≤510) (hl:(G++R).length≤255) (hG0:G≠[]) (z:G.length≤16) (hgd:∀ q∈G++R,Gd4 k q.2∧Srt bef q.2) (hN:tot (G++R)≤N) (hN2:N≤1000) :
    ∃ nm e s' n',mZ ⟨s,p,k,(n:Int)⟩ (G.map fun q=>gR q.1)=some (nm,e,⟨s',p,k,((n':Nat):Int)⟩)∧SI (kk+G.length+1) s'∧Kp s s'∧oth s'.f0=oth s.f0 ∧
      ((e=0∧s'.f3=false∧∃ q:Nat×List S47,nm=gR q.1∧s'.f0.Perm (O++(q::R).map rf)∧q.1<n'∧n≤n'∧n'+(q::R).length≤510∧Gd4 k q.2∧Srt bef q.2∧val q.2=sortL bef (G.map fun q=>val q.2).flatten∧q.2.length=tot G) ∨
        (e=10∧s'.f3=false∧aHn s' O N)∨(e=9∧s'.f3=true)):=by
  have hGl:0<G.length:=List.length_pos_iff.2 hG0
  rw [List.length_append] at hn hl
  rw [aEr] at hN
  unfold mZ
  by_cases c1:G.length=1
  · obtain⟨q,rfl⟩:∃ q,G=[q]:=List.length_eq_one_iff.1 c1
    rw [if_pos (by simp),show at_ (List.map (fun q:Nat×List S47=>gR q.1) [q]) 0=some (gR q.1) from rfl]
    simp only [Option.bind_some]
    obtain⟨g1,g2⟩:=hgd q (by simp)
    refine⟨_,_,s,n,rfl,h.mono (by omega),Kp.refl s,rfl,.inl ⟨rfl,hon,q,rfl,hp,hlt q (by simp),Nat.le_refl _,by rw [List.length_cons] at hn ⊢; simp only [List.length_nil] at hn; omega,g1,g2,?_,by simp [tot]⟩⟩
    rw [List.map_cons,List.map_nil,List.flatten_cons,List.flatten_nil,List.append_nil]
    exact (iF g2.val).symm
  · rw [if_neg (by rw [List.length_map]; simp; omega)]
    obtain⟨s1,i1,i2,i3,i4⟩:=aHy (A:=G.map fun q=>gR q.1) (p:=p) (m:=(n:Int)) (R:=R) (by rw [List.length_map]; omega) G 0 kk s [] (by rw [List.drop_zero]) h (by omega) hon hp (fun q hq=>⟨by have:=hlt q (List.mem_append.2 (.inl hq)); omega,(hgd q (List.mem_append.2 (.inl hq))).1⟩) hO (Nat.zero_le _) (Nat.le_refl _)
    dsimp only
    rcases i4 with ⟨on1,hp1,hj⟩ | ⟨off1,hj⟩
    · have hj':=hj
      rw [show (((0:Nat):Int))=0 from rfl] at hj'
      unfold aHo at hj'
      rw [hj']
      simp only [Option.bind_some,List.nil_append]
      unfold lD mL
      have hvl:∀ r∈G.map (fun q=>val q.2),r.length<2 ^ 60:=fun r hr=>by
        obtain⟨q,hq,rfl⟩:=List.mem_map.1 hr
        have:=(hgd q (List.mem_append.2 (.inl hq))).1.len
        rw [aEg]; omega
      have hvo:Ok (G.map fun q=>val q.2):=fun r hr=>by
        obtain⟨q,hq,rfl⟩:=List.mem_map.1 hr
        exact (hgd q (List.mem_append.2 (.inl hq))).2.val
      have hm:rO (G.map fun q=>val q.2)=some (sortL bef (G.map fun q=>val q.2).flatten,0):=by
        rcases aXd (G.map fun q=>val q.2) hvl (by rw [List.length_map]; omega) (by rw [zL]; omega) with ⟨a,_⟩ | ⟨_,_,a,_⟩ | ⟨_,_,_,a⟩
        · rw [List.length_map] at a; omega
        · exact absurd hvo a
        · exact a
      rw [hm]
      simp only [Option.bind_some]
      rw [if_neg (by simp)]
      have hgv:Gd4 k (sortL bef (G.map fun q=>val q.2).flatten):=by
        refine Gd4.sort ⟨fun e he=>?_,fun e he=>?_,by rw [zL]; omega⟩
        · obtain⟨r,hr,he⟩:=List.mem_flatten.1 he
          obtain⟨q,hq,rfl⟩:=List.mem_map.1 hr
          exact (hgd q (List.mem_append.2 (.inl hq))).1.val.laid e he
        · obtain⟨r,hr,he⟩:=List.mem_flatten.1 he
          obtain⟨q,hq,rfl⟩:=List.mem_map.1 hr
          exact (hgd q (List.mem_append.2 (.inl hq))).1.val.form e he
      obtain⟨e,s2,j1,j2,j3,j4,j5⟩:=aE2 (p:=p) i1 (by omega) on1 hp1 hO (fun q hq=>hlt q (List.mem_append.2 (.inr hq))) (by omega) hgv
      rw [show (⟨⟨s1.f0,s1.f1,s1.f2,s1.f3,s1.f4⟩,⟨p.f0,p.f1⟩,k,(n:Int)⟩:S67)=⟨s1,p,k,(n:Int)⟩ from rfl,j1]
      refine⟨_,_,s2,n+1,rfl,j2,Kp.trans i2 j3,by rw [j4,i3],?_⟩
      have hvv:val (sortL bef (G.map fun q=>val q.2).flatten)=sortL bef (G.map fun q=>val q.2).flatten:=by
        rw [← aBo]
        congr 1
        unfold val
        rw [List.map_flatten,List.map_map]
        congr 1
        exact List.map_congr_left fun q _=>aTk q.2
      rcases j5 with ⟨a,b,c⟩ | ⟨a,b,c⟩ | a
      · refine .inl ⟨a,b,(n,sortL bef (G.map fun q=>val q.2).flatten),rfl,?_,by omega,by omega,by rw [List.length_cons]; omega,hgv,nD bef_swo _,hvv,by rw [aN,zL]⟩
        refine c.trans ?_
        rw [List.map_append,List.map_cons]
        exact (List.perm_append_singleton _ _).append_left O
      · exact .inr (.inl ⟨a,by rw [b]; exact on1,by rw [b]; exact aKq hp1 (fun q hq=>(hgd q (List.mem_append.2 (.inr hq))).1) hgv (by rw [aN,zL]; omega) (by omega) c⟩)
      · exact .inr (.inr a)
    · have hj':=hj
      rw [show (((0:Nat):Int))=0 from rfl] at hj'
      unfold aHo at hj'
      rw [hj']
      exact⟨_,_,s1,n,rfl,i1.mono (by omega),i2,i3,.inr (.inr ⟨rfl,off1⟩)⟩
end
section
variable {σ β τ:Type} {φ:σ→β→Option (σ⊕τ)} {x:β} {xs:List β} {s s':σ} {t:τ}
theorem aMr (h:φ s x=some (.inl s')):oT φ (x::xs) s=oT φ xs s':=by simp only [oT,h]
theorem aEp (h:φ s x=some (.inr t)):oT φ (x::xs) s=some (.inr t):=by simp only [oT,h]
end
def nmR (q:Nat×List S47):List UInt8:=gR q.1
def vf (ids:List (Nat×List S47)):List S47:=(ids.map fun q=>val q.2).flatten
theorem aR4 (a b:List (Nat×List S47)):vf (a++b)=vf a++vf b:=by simp [vf]
theorem aMj (q:Nat×List S47):vf [q]=val q.2:=by simp [vf]
structure Rst (k:Int) (O:List S64) (N kk:Nat) (s:S58) (n:Nat) (ids:List (Nat×List S47)):Prop where
  si:SI kk s
  on:s.f3=false
  perm:s.f0.Perm (O++ids.map rf)
  lt:∀ q∈ids,q.1<n
  cnt:n+ids.length≤510
  len:ids.length≤255
  gd:∀ q∈ids,Gd4 k q.2∧Srt bef q.2
  tot:tot ids≤N
def Bad (O:List S64) (N:Nat) (s:S58) (e:Int):Prop:=(e=10∧s.f3=false∧aHn s O N)∨(e=9∧s.f3=true)
section
variable {k:Int} {p:S26} {O:List S64} {N:Nat} (hO:∀ x∈O,oB x.f0=false) (hN:N≤1000)
include hO hN
theorem aHr:∀ (cs:List (List S47)) (done:List (Nat×List S47)) (kk n:Nat) (s:S58),Rst k O N kk s n done→kk+cs.length+1000<4611686018427387904→n+done.length+2 * cs.length≤510→done.length+cs.length≤255 →
    (∀ c∈cs,Gd4 k c)→P.tot done+cs.flatten.length≤N →
    ∃ s' n',SI (kk+cs.length) s'∧Kp s s'∧oth s'.f0=oth s.f0 ∧
      ((∃ ids,oT (fun s l=>fV s.1 s.2.1 s.2.2.1 s.2.2.2.1 s.2.2.2.2.1 s.2.2.2.2.2.1 s.2.2.2.2.2.2.1 s.2.2.2.2.2.2.2.1 s.2.2.2.2.2.2.2.2.1 s.2.2.2.2.2.2.2.2.2 l) cs (s.f0,s.f1,s.f2,s.f3,s.f4,p.f0,p.f1,k,(n:Int),done.map nmR)=some (.inl (s'.f0,s'.f1,s'.f2,s'.f3,s'.f4,p.f0,p.f1,k,((n':Nat):Int),ids.map nmR)) ∧
        Rst k O N (kk+cs.length) s' n' ids∧ids.length=done.length+cs.length∧P.tot ids=P.tot done+cs.flatten.length∧sortL bef (vf ids)=sortL bef (vf done++val cs.flatten)) ∨
       ∃ e,oT (fun s l=>fV s.1 s.2.1 s.2.2.1 s.2.2.2.1 s.2.2.2.2.1 s.2.2.2.2.2.1 s.2.2.2.2.2.2.1 s.2.2.2.2.2.2.2.1 s.2.2.2.2.2.2.2.2.1 s.2.2.2.2.2.2.2.2.2 l) cs (s.f0,s.f1,s.f2,s.f3,s.f4,p.f0,p.f1,k,(n:Int),done.map nmR)=some (.inr (s'.f0,s'.f1,s'.f2,s'.f3,s'.f4,p.f0,p.f1,k,((n':Nat):Int),e))∧Bad O N s' e)
  | [],done,kk,n,s,h,hk,hn,hl,hc,ht=>⟨s,n,h.si,Kp.refl s,rfl,.inl ⟨done,rfl,h,rfl,by simp,by simp [val]⟩⟩
  | c::cs,done,kk,n,s,h,hk,hn,hl,hc,ht=>by
    rw [List.length_cons] at hn hl hk
    rw [List.flatten_cons,List.length_append] at ht
    have hcg:=hc c List.mem_cons_self
    obtain⟨e,s1,j1,j2,j3,j4,j5⟩:=aE2 (p:=p) h.si (by omega) h.on h.perm hO h.lt (by omega) hcg.sort
    have hr:fV s.f0 s.f1 s.f2 s.f3 s.f4 p.f0 p.f1 k (n:Int) (done.map nmR) c=if e=0 then some (.inl (s1.f0,s1.f1,s1.f2,s1.f3,s1.f4,p.f0,p.f1,k,((n+1:Nat):Int),(done++[(n,sortL bef c)]).map nmR)) else some (.inr (s1.f0,s1.f1,s1.f2,s1.f3,s1.f4,p.f0,p.f1,k,((n+1:Nat):Int),e)):=by
      unfold fV
      rw [aOj c (by have:=hcg.len; omega)]
      simp only [Option.bind_some]
      rw [show (⟨⟨s.f0,s.f1,s.f2,s.f3,s.f4⟩,⟨p.f0,p.f1⟩,k,(n:Int)⟩:S67)=⟨s,p,k,(n:Int)⟩ from rfl,j1]
      simp only [Option.bind_some]
      by_cases c0:e=0
      · rw [if_neg (by simp [c0]),if_pos c0,aW (by simp only [List.length_map,List.length_cons,List.length_nil]; omega),List.map_append]
        rfl
      · rw [if_pos (by simpa using c0),if_neg c0]
    rcases j5 with ⟨a,b,d⟩ | ⟨a,b,d⟩ | ⟨a,b⟩
    · rw [if_pos a] at hr
      have t1:P.tot (done++[(n,sortL bef c)])=P.tot done+c.length:=by rw [aEr]; simp [P.tot,aN]
      have h1:Rst k O N (kk+1) s1 (n+1) (done++[(n,sortL bef c)]):=by
        refine⟨j2,b,d,fun q hq=>?_,by rw [List.length_append,List.length_singleton]; omega,by rw [List.length_append,List.length_singleton]; omega,fun q hq=>?_,by rw [t1]; omega⟩
        · rcases List.mem_append.1 hq with hq | hq
          · have:=h.lt q hq; omega
          · cases List.mem_singleton.1 hq; exact Nat.lt_succ_self n
        · rcases List.mem_append.1 hq with hq | hq
          · exact h.gd q hq
          · cases List.mem_singleton.1 hq; exact⟨hcg.sort,nD bef_swo c⟩
      obtain⟨s',n',i1,i2,i3,i4⟩:=aHr cs (done++[(n,sortL bef c)]) (kk+1) (n+1) s1 h1 (by omega) (by rw [List.length_append,List.length_singleton]; omega) (by rw [List.length_append,List.length_singleton]; omega) (fun x hx=>hc x (List.mem_cons_of_mem _ hx)) (by rw [t1]; omega)
      refine⟨s',n',by rw [List.length_cons,show kk+(cs.length+1)=kk+1+cs.length by omega]; exact i1,Kp.trans j3 i2,by rw [i3,j4],?_⟩
      rw [aMr hr]
      rcases i4 with ⟨ids,f1,f2,f3,f4,f5⟩ | ⟨e,f1,f2⟩
      · refine .inl ⟨ids,f1,by rw [List.length_cons,show kk+(cs.length+1)=kk+1+cs.length by omega]; exact f2,by rw [f3,List.length_append,List.length_singleton,List.length_cons]; omega,by rw [f4,t1,List.flatten_cons,List.length_append]; omega,?_⟩
        rw [f5,aR4,aMj,List.flatten_cons,aSq, ← List.append_assoc]
        refine yK bef_swo (yK bef_swo rfl ?_) rfl
        show sortL bef (val (sortL bef c))=_
        rw [← aBo,aDs bef_swo]
      · exact .inr ⟨e,f1,f2⟩
    · rw [if_neg (by rw [a]; decide)] at hr
      refine⟨s1,n+1,j2.mono (by rw [List.length_cons]; omega),j3,j4,.inr ⟨e,aEp hr,.inl ⟨a,by rw [b]; exact h.on,?_⟩⟩⟩
      rw [b]
      exact aKq h.perm (fun q hq=>(h.gd q hq).1) hcg.sort (by rw [aN]; omega) (by omega) d
    · rw [if_neg (by rw [a]; decide)] at hr
      exact⟨s1,n+1,j2.mono (by rw [List.length_cons]; omega),j3,j4,.inr ⟨e,aEp hr,.inr ⟨a,b⟩⟩⟩
theorem aHf:∀ (gs:List (List (Nat×List S47))) (done:List (Nat×List S47)) (kk n:Nat) (s:S58),Rst k O N kk s n (done++gs.flatten)→kk+17 * gs.length+1000<4611686018427387904→(∀ g∈gs,g≠[]∧g.length≤16) →
    ∃ s' n',SI (kk+17 * gs.length) s'∧Kp s s'∧oth s'.f0=oth s.f0 ∧
      ((∃ ids,oT (fun s l=>fB s.1 s.2.1 s.2.2.1 s.2.2.2.1 s.2.2.2.2.1 s.2.2.2.2.2.1 s.2.2.2.2.2.2.1 s.2.2.2.2.2.2.2.1 s.2.2.2.2.2.2.2.2.1 s.2.2.2.2.2.2.2.2.2 l) (gs.map (List.map nmR)) (s.f0,s.f1,s.f2,s.f3,s.f4,p.f0,p.f1,k,(n:Int),done.map nmR)=some (.inl (s'.f0,s'.f1,s'.f2,s'.f3,s'.f4,p.f0,p.f1,k,((n':Nat):Int),ids.map nmR)) ∧
        Rst k O N (kk+17 * gs.length) s' n' ids∧ids.length=done.length+gs.length∧sortL bef (vf ids)=sortL bef (vf (done++gs.flatten))) ∨
       ∃ e,oT (fun s l=>fB s.1 s.2.1 s.2.2.1 s.2.2.2.1 s.2.2.2.2.1 s.2.2.2.2.2.1 s.2.2.2.2.2.2.1 s.2.2.2.2.2.2.2.1 s.2.2.2.2.2.2.2.2.1 s.2.2.2.2.2.2.2.2.2 l) (gs.map (List.map nmR)) (s.f0,s.f1,s.f2,s.f3,s.f4,p.f0,p.f1,k,(n:Int),done.map nmR)=some (.inr (s'.f0,s'.f1,s'.f2,s'.f3,s'.f4,p.f0,p.f1,k,((n':Nat):Int),e))∧Bad O N s' e)
  | [],done,kk,n,s,h,hk,hg=>by
    rw [List.flatten_nil,List.append_nil] at h
    exact⟨s,n,h.si,Kp.refl s,rfl,.inl ⟨done,rfl,h,rfl,by rw [List.flatten_nil,List.append_nil]⟩⟩
  | g::gs,done,kk,n,s,h,hk,hg=>by
    rw [List.length_cons] at hk
    obtain⟨g0,C⟩:=hg g List.mem_cons_self
    rw [List.flatten_cons] at h
    have hpm:(done++(g++gs.flatten)).Perm (g++(done++gs.flatten)):=by
      rw [← List.append_assoc, ← List.append_assoc]
      exact List.perm_append_comm.append_right _
    have hmem:∀ q∈g++(done++gs.flatten),q∈done++(g++gs.flatten):=fun q hq=>hpm.mem_iff.2 hq
    have htt:P.tot (g++(done++gs.flatten))=P.tot (done++(g++gs.flatten)):=by simp only [aEr]; omega
    obtain⟨nm,e,s1,n1,j1,j2,j3,j4,j5⟩:=aOq (p:=p) h.si (by omega) h.on (h.perm.trans ((hpm.map rf).append_left O)) hO (fun q hq=>h.lt q (hmem q hq)) (by rw [← hpm.length_eq]; exact h.cnt) (by rw [← hpm.length_eq]; exact h.len) g0 C (fun q hq=>h.gd q (hmem q hq)) (by rw [htt]; exact h.tot) hN
    have hr:fB s.f0 s.f1 s.f2 s.f3 s.f4 p.f0 p.f1 k (n:Int) (done.map nmR) (g.map nmR)=if e=0 then some (.inl (s1.f0,s1.f1,s1.f2,s1.f3,s1.f4,p.f0,p.f1,k,((n1:Nat):Int),done.map nmR++[nm])) else some (.inr (s1.f0,s1.f1,s1.f2,s1.f3,s1.f4,p.f0,p.f1,k,((n1:Nat):Int),e)):=by
      have hdl:done.length≤255:=by have:=h.len; rw [List.length_append] at this; omega
      unfold fB
      rw [show (⟨⟨s.f0,s.f1,s.f2,s.f3,s.f4⟩,⟨p.f0,p.f1⟩,k,(n:Int)⟩:S67)=⟨s,p,k,(n:Int)⟩ from rfl,show g.map nmR=g.map (fun q=>gR q.1) from rfl,j1]
      simp only [Option.bind_some]
      by_cases c0:e=0
      · rw [if_neg (by simp [c0]),if_pos c0,aW (by simp only [List.length_map,List.length_cons,List.length_nil]; omega)]
      · rw [if_pos (by simpa using c0),if_neg c0]
    rw [List.map_cons]
    rcases j5 with ⟨a,b,q,q1,q2,q3,q4,q5,q6,q7,q8,q9⟩ | ⟨a,b,d⟩ | ⟨a,b⟩
    · rw [if_pos a] at hr
      have hpm2:(q::(done++gs.flatten)).Perm ((done++[q])++gs.flatten):=by
        rw [List.append_assoc,List.singleton_append]
        exact List.perm_middle.symm
      have h1:Rst k O N (kk+17) s1 n1 ((done++[q])++gs.flatten):=by
        refine⟨j2.mono (by omega),b,q2.trans ((hpm2.map rf).append_left O),fun z hz=>?_,by rw [← hpm2.length_eq]; exact q5,?_,fun z hz=>?_,?_⟩
        · rcases List.mem_cons.1 (hpm2.mem_iff.2 hz) with rfl | hz
          · exact q3
          · have:=h.lt z (hmem z (List.mem_append.2 (.inr hz))); omega
        · have h2:=h.len
          have h3:0<g.length:=List.length_pos_iff.2 g0
          simp only [List.length_append,List.length_singleton] at h2 ⊢
          omega
        · rcases List.mem_cons.1 (hpm2.mem_iff.2 hz) with rfl | hz
          · exact⟨q6,q7⟩
          · exact h.gd z (hmem z (List.mem_append.2 (.inr hz)))
        · have h2:=h.tot
          simp only [aEr] at h2 ⊢
          have:P.tot [q]=q.2.length:=by simp [P.tot]
          omega
      obtain⟨s',n',i1,i2,i3,i4⟩:=aHf gs (done++[q]) (kk+17) n1 s1 h1 (by omega) fun x hx=>hg x (List.mem_cons_of_mem _ hx)
      rw [show kk+17+17 * gs.length=kk+17 * (g::gs).length by rw [List.length_cons]; omega] at i1 i4
      refine⟨s',n',i1,Kp.trans j3 i2,by rw [i3,j4],?_⟩
      rw [aMr hr,q1,show done.map nmR++[gR q.1]=(done++[q]).map nmR from by rw [List.map_append]; rfl]
      rcases i4 with ⟨ids,f1,f2,f3,f5⟩ | ⟨e,f1,f2⟩
      · refine .inl ⟨ids,f1,f2,by rw [f3,List.length_append,List.length_singleton,List.length_cons]; omega,?_⟩
        rw [f5,List.flatten_cons]
        simp only [aR4,aMj,List.append_assoc]
        refine yK bef_swo rfl (yK bef_swo ?_ rfl)
        rw [q8,aDs bef_swo]
        rfl
      · exact .inr ⟨e,f1,f2⟩
    · rw [if_neg (by rw [a]; decide)] at hr
      exact⟨s1,n1,j2.mono (by rw [List.length_cons]; omega),j3,j4,.inr ⟨e,aEp hr,.inl ⟨a,b,d⟩⟩⟩
    · rw [if_neg (by rw [a]; decide)] at hr
      exact⟨s1,n1,j2.mono (by rw [List.length_cons]; omega),j3,j4,.inr ⟨e,aEp hr,.inr ⟨a,b⟩⟩⟩
end
theorem aUo {α β:Type} {q:Nat} (g:α→β) (xs:List α):pcs q (xs.map g)=(pcs q xs).map (List.map g):=by
  unfold pcs
  rw [List.length_map,List.map_map]
  refine List.map_congr_left fun k _=>?_
  show ((xs.map g).drop (k * q)).take q=((xs.drop (k * q)).take q).map g
  rw [List.map_take,List.map_drop]
inductive Ps (f:Nat):Nat→Nat→Prop
  | one {m:Nat} (h:m≤1):Ps f m 0
  | more {m t:Nat} (h:1<m) (ht:Ps f ((m+f - 1) / f) t):Ps f m (t+1)
theorem Ps.uniq {f m t t':Nat} (h:Ps f m t):Ps f m t'→t=t':=by
  induction h generalizing t' with
  | one h1 =>
    intro h'
    cases h' with
    | one _=>rfl
    | more h2 _=>omega
  | more h1 _ ih =>
    intro h'
    cases h' with
    | one h2=>omega
    | more _ h3=>rw [ih h3]
theorem aSt {m f:Nat} (hm:1<m) (hf:2≤f):(m+f - 1) / f<m∧51 * ((m+f - 1) / f)≤34 * m∧0<(m+f - 1) / f:=by
  have h1:(m+f - 1) / f≤(m+1) / 2:=by
    rw [Nat.le_div_iff_mul_le (by omega)]
    have h3:=Nat.div_mul_le_self (m+f - 1) f
    generalize (m+f - 1) / f=c at *
    by_cases hc:c≤1
    · omega
    · obtain⟨d,rfl⟩:∃ d,c=d+1:=⟨c - 1,by omega⟩
      have h4:d * 2≤d * f:=Nat.mul_le_mul_left d hf
      rw [Nat.add_mul,Nat.one_mul] at h3
      omega
  have h2:0<(m+f - 1) / f:=Nat.div_pos (by omega) (by omega)
  omega
section
variable {k:Int} {p:S26} {O:List S64} {N f:Nat} (hO:∀ x∈O,oB x.f0=false) (hN:N≤1000) (hf:p.f1=(f:Int)) (hf2:2≤f∧f≤16)
include hO hN hf hf2
theorem aKp:∀ (m:Nat) (ids:List (Nat×List S47)) (kk n x:Nat) (s:S58),ids.length=m→Rst k O N kk s n ids→kk+34 * m+2000<4611686018427387904→x+m≤1000 →
    ∃ s' n',SI (kk+34 * m) s'∧Kp s s'∧oth s'.f0=oth s.f0 ∧
      ((∃ ids' t,loop (fun s=>cL s.1 s.2.1 s.2.2.1 s.2.2.2.1 s.2.2.2.2.1 s.2.2.2.2.2.1 s.2.2.2.2.2.2.1 s.2.2.2.2.2.2.2.1 s.2.2.2.2.2.2.2.2.1 s.2.2.2.2.2.2.2.2.2.1 s.2.2.2.2.2.2.2.2.2.2) (s.f0,s.f1,s.f2,s.f3,s.f4,p.f0,p.f1,k,(n:Int),ids.map nmR,(x:Int))=some (.inl (s'.f0,s'.f1,s'.f2,s'.f3,s'.f4,p.f0,p.f1,k,((n':Nat):Int),ids'.map nmR,((x+t:Nat):Int))) ∧
        Rst k O N (kk+34 * m) s' n' ids'∧ids'.length=min m 1∧Ps f m t∧sortL bef (vf ids')=sortL bef (vf ids)) ∨
       ∃ e,loop (fun s=>cL s.1 s.2.1 s.2.2.1 s.2.2.2.1 s.2.2.2.2.1 s.2.2.2.2.2.1 s.2.2.2.2.2.2.1 s.2.2.2.2.2.2.2.1 s.2.2.2.2.2.2.2.2.1 s.2.2.2.2.2.2.2.2.2.1 s.2.2.2.2.2.2.2.2.2.2) (s.f0,s.f1,s.f2,s.f3,s.f4,p.f0,p.f1,k,(n:Int),ids.map nmR,(x:Int))=some (.inr ([],0,0,e,⟨s',p,k,((n':Nat):Int)⟩))∧Bad O N s' e):=by
  intro m
  induction m using Nat.strongRecOn with
  | _ m ih =>
    intro ids kk n x s hm h hk hx
    have hl:=h.len
    by_cases c:1<m
    · obtain⟨c1,c2,c3⟩:=aSt c hf2.1
      have hgl:(pcs f ids).length=(m+f - 1) / f:=by rw [aEt,hm]
      obtain⟨s1,n1,i1,i2,i3,i4⟩:=aHf (p:=p) hO hN (pcs f ids) [] kk n s (by rw [List.nil_append,uQ (by omega)]; exact h) (by rw [hgl]; omega) fun g hg=>by
        obtain⟨a,b,_⟩:=aEh (by omega) ids g hg
        exact⟨a,by omega⟩
      have hr:∀ o,oT (fun s l=>fB s.1 s.2.1 s.2.2.1 s.2.2.2.1 s.2.2.2.2.1 s.2.2.2.2.2.1 s.2.2.2.2.2.2.1 s.2.2.2.2.2.2.2.1 s.2.2.2.2.2.2.2.2.1 s.2.2.2.2.2.2.2.2.2 l) ((pcs f ids).map (List.map nmR)) (s.f0,s.f1,s.f2,s.f3,s.f4,p.f0,p.f1,k,(n:Int),([]:List (Nat×List S47)).map nmR)=some o →
          cL s.f0 s.f1 s.f2 s.f3 s.f4 p.f0 p.f1 k (n:Int) (ids.map nmR) (x:Int)=match o with | .inl t=>jA (x:Int) t.1 t.2.1 t.2.2.1 t.2.2.2.1 t.2.2.2.2.1 t.2.2.2.2.2.1 t.2.2.2.2.2.2.1 t.2.2.2.2.2.2.2.1 t.2.2.2.2.2.2.2.2.1 t.2.2.2.2.2.2.2.2.2 | .inr t=>jD t.1 t.2.1 t.2.2.1 t.2.2.2.1 t.2.2.2.2.1 t.2.2.2.2.2.1 t.2.2.2.2.2.2.1 t.2.2.2.2.2.2.2.1 t.2.2.2.2.2.2.2.2.1 t.2.2.2.2.2.2.2.2.2:=by
        intro o ho
        unfold cL
        rw [if_pos (by rw [List.length_map]; simp only [decide_eq_true_eq]; omega),aW (by omega),aW ⟨by rw [List.length_map]; omega,by omega,by omega⟩,show p.f1.toNat=f from by omega,aUo]
        have ho':=ho
        rw [List.map_nil] at ho'
        rw [ho']
        rfl
      rcases i4 with ⟨ids1,f1,f2,f3,f5⟩ | ⟨e,f1,f2⟩
      · have hs:=hr _ f1
        dsimp only at hs
        unfold jA at hs
        rw [lt_,w64 (by omega) (by omega),show ((x:Int)+1)=((x+1:Nat):Int) from rfl] at hs
        rw [hgl] at f2 i1
        rw [hgl,List.length_nil,Nat.zero_add] at f3
        obtain⟨s',n',j1,j2,j3,j4⟩:=ih _ c1 ids1 _ n1 (x+1) s1 f3 f2 (by omega) (by omega)
        refine⟨s',n',j1.mono (by omega),Kp.trans i2 j2,by rw [j3,i3],?_⟩
        rw [dD (b:=fun s:List S64×Int×Int×Bool×Int×Int×Int×Int×Int×List (List UInt8)×Int=>cL s.1 s.2.1 s.2.2.1 s.2.2.2.1 s.2.2.2.2.1 s.2.2.2.2.2.1 s.2.2.2.2.2.2.1 s.2.2.2.2.2.2.2.1 s.2.2.2.2.2.2.2.2.1 s.2.2.2.2.2.2.2.2.2.1 s.2.2.2.2.2.2.2.2.2.2) hs]
        rcases j4 with ⟨ids',t,g1,g2,g3,g4,g5⟩ | ⟨e,g1,g2⟩
        · refine .inl ⟨ids',t+1,by rw [g1,show x+1+t=x+(t+1) by omega],⟨g2.si.mono (by omega),g2.on,g2.perm,g2.lt,g2.cnt,g2.len,g2.gd,g2.tot⟩,by rw [g3]; omega,.more c g4,?_⟩
          rw [g5,f5,List.nil_append,uQ (by omega)]
        · exact .inr ⟨e,g1,g2⟩
      · have hs:=hr _ f1
        dsimp only at hs
        unfold jD at hs
        exact⟨s1,n1,i1.mono (by rw [hgl]; omega),i2,i3,.inr ⟨e,bJ (b:=fun s:List S64×Int×Int×Bool×Int×Int×Int×Int×Int×List (List UInt8)×Int=>cL s.1 s.2.1 s.2.2.1 s.2.2.2.1 s.2.2.2.2.1 s.2.2.2.2.2.1 s.2.2.2.2.2.2.1 s.2.2.2.2.2.2.2.1 s.2.2.2.2.2.2.2.2.1 s.2.2.2.2.2.2.2.2.2.1 s.2.2.2.2.2.2.2.2.2.2) hs,f2⟩⟩
    · refine⟨s,n,h.si.mono (by omega),Kp.refl s,rfl,.inl ⟨ids,0,bJ ?_,⟨h.si.mono (by omega),h.on,h.perm,h.lt,h.cnt,h.len,h.gd,h.tot⟩,by omega,.one (by omega),rfl⟩⟩
      show cL s.f0 s.f1 s.f2 s.f3 s.f4 p.f0 p.f1 k (n:Int) (ids.map nmR) (x:Int)=_
      unfold cL
      rw [if_neg (by rw [List.length_map]; simp only [decide_eq_true_eq]; omega)]
      rfl
end
theorem aWt (l:List S64):∀ x∈oth l,oB x.f0=false:=fun x hx=>by
  have:=(List.mem_filter.1 hx).2
  simpa using this
theorem aPg {l O:List S64} (hO:∀ x∈O,oB x.f0=false) (hp:l.Perm O):oth l=l:=aNp fun x hx=>hO x (hp.mem_iff.1 hx)
theorem aOk {kk h f:Nat} {k:Int} {p:S26} {s:S58} {l:List S47} (hs:SI kk s) (hk:kk+20000<4611686018427387904) (hon:s.f3=false) (hh:p.f0=(h:Int)) (hh1:1≤h∧h≤4096) (hf:p.f1=(f:Int)) (hf2:2≤f∧f≤16) (hg:Gd4 k l) (hl:l.length≤255) :
    ∃ out runs ps e s' n',nG ⟨s,p,k,0⟩ l=some (out,runs,ps,e,⟨s',p,k,n'⟩)∧SI (kk+10000) s'∧Kp s s'∧oth s'.f0=oth s.f0 ∧
      ((e=0∧s'.f3=false∧s'.f0=oth s.f0∧out=val (sortL bef l)∧runs=(((l.length+h - 1) / h:Nat):Int)∧∃ t,Ps f ((l.length+h - 1) / h) t∧ps=(t:Int))∨Bad (oth s.f0) l.length s' e):=by
  have hO:=aWt s.f0
  obtain⟨e1,s1,c1,c2,c3,c4,c5⟩:=aFh hs (by omega) hon
  unfold nG
  dsimp only
  rw [c1]
  simp only [Option.bind_some]
  rcases c5 with ⟨a,b,d⟩ | ⟨a,b⟩
  · rw [if_neg (by simp [a]),hh,aW (by omega),aW ⟨by omega,by omega,by omega⟩,show ((h:Int)).toNat=h from rfl]
    have hcl:(pcs h l).length=(l.length+h - 1) / h:=aEt
    have hle:(l.length+h - 1) / h≤l.length:=by
      rcases Nat.eq_zero_or_pos l.length with q | q
      · rw [q,Nat.div_eq_of_lt (by omega)]; exact Nat.le_refl 0
      · refine Nat.div_le_of_le_mul ?_
        obtain⟨d,hd⟩:∃ d,h=d+1:=⟨h - 1,by omega⟩
        obtain⟨z,hz⟩:∃ z,l.length=z+1:=⟨l.length - 1,by omega⟩
        rw [hd,hz]
        have:=Nat.zero_le (d * z)
        have e2:(d+1) * (z+1)=d * z+d+z+1:=by rw [Nat.add_mul,Nat.mul_add]; omega
        omega
    have R0:Rst k (oth s.f0) l.length (kk+500) s1 0 []:=⟨c2,b,by rw [d]; simp,fun q hq=>(by cases hq),by simp,by simp,fun q hq=>(by cases hq),Nat.zero_le _⟩
    obtain⟨s2,n2,i1,i2,i3,i4⟩:=aHr (p:=p) hO (by omega) (pcs h l) [] (kk+500) 0 s1 R0 (by rw [hcl]; omega) (by rw [hcl]; simp only [List.length_nil]; omega) (by rw [hcl]; simp only [List.length_nil]; omega) (fun c hc=>by
      obtain⟨_,q2,q3⟩:=aEh hh1.1 l c hc
      have:c.length≤l.length:=by
        have:=uQ hh1.1 l
        have h2:c.length≤(pcs h l).flatten.length:=(List.sublist_flatten_of_mem hc).length_le
        rwa [this] at h2
      exact hg.sub q3 (by omega)) (by rw [uQ hh1.1]; simp [P.tot])
    rw [hh] at i4
    have e0:((0:Nat):Int)=0:=rfl
    rw [e0,List.map_nil] at i4
    rcases i4 with ⟨ids,f1,f2,f3,f4,f5⟩ | ⟨e,f1,f2⟩
    · rw [f1]
      simp only [Option.bind_some]
      unfold lQ
      rw [hcl,List.length_nil,Nat.zero_add] at f3
      obtain⟨s3,n3,j1,j2,j3,j4⟩:=aKp (p:=p) hO (by omega) hf hf2 ids.length ids _ n2 0 s2 rfl f2 (by rw [hcl]; omega) (by omega)
      rw [hh,e0] at j4
      rcases j4 with ⟨ids',t,g1,g2,g3,g4,g5⟩ | ⟨e,g1,g2⟩
      · rw [g1]
        simp only [Option.bind_some]
        unfold kY mN
        rw [f3] at g3 g4
        have hall:sortL bef (vf ids')=val (sortL bef l):=by
          rw [g5,f5, ← aBo,uQ hh1.1]; rfl
        by_cases z:ids.length=0
        · rw [if_pos (by rw [List.length_map,z]; rfl)]
          have hz:l.length=0:=by
            rw [f3] at z
            rcases Nat.eq_zero_or_pos l.length with q | q
            · exact q
            · have:=Nat.div_pos (show h≤l.length+h - 1 by omega) (by omega); omega
          rw [z] at f3
          have hi0:ids'=[]:=by
            rw [← f3] at g3; exact List.length_eq_zero_iff.1 (by simpa using g3)
          have ht0:t=0:=by
            rw [← f3] at g4
            exact g4.uniq (.one (by omega))
          have hp:=g2.perm
          rw [hi0,List.map_nil,List.append_nil] at hp
          refine⟨_,_,_,_,s3,_,by rw [show (⟨⟨s3.f0,s3.f1,s3.f2,s3.f3,s3.f4⟩,⟨(h:Int),p.f1⟩,k,(n3:Int)⟩:S67)=⟨s3,p,k,(n3:Int)⟩ from by rw [← hh]]; rfl,j1.mono (by rw [hcl]; omega),Kp.trans c3 (Kp.trans i2 j2),by rw [j3,i3,c4],.inl ⟨rfl,g2.on,?_,?_,by rw [← f3,e0],0,by rw [← f3]; exact .one (by omega),rfl⟩⟩
          · rw [← aPg hO hp,j3,i3,c4]
          · rw [List.length_eq_zero_iff.1 hz]; rfl
        · rw [if_neg (by rw [List.length_map]; simp; exact fun q=>z (by simp [q]))]
          have hi1:ids'.length=1:=by rw [g3, ← f3]; omega
          obtain⟨q,rfl⟩:∃ q,ids'=[q]:=List.length_eq_one_iff.1 hi1
          rw [show at_ (List.map nmR [q]) 0=some (gR q.1) from rfl]
          simp only [Option.bind_some]
          obtain⟨q1,q2⟩:=g2.gd q (by simp)
          have hq6:q.1<600:=by have:=g2.lt q (by simp); have:=g2.cnt; omega
          have hx:=aNc g2.si g2.perm (q:=q) (by simp)
          have hfe:=aK4 (p:=p) g2.si (by rw [hcl]; omega) g2.on hq6 hx q1 (n3:Int)
          rw [show (⟨⟨s3.f0,s3.f1,s3.f2,s3.f3,s3.f4⟩,⟨(h:Int),p.f1⟩,k,(n3:Int)⟩:S67)=⟨s3,p,k,(n3:Int)⟩ from by rw [← hh],hfe]
          simp only [Option.bind_some]
          have hdl:=g2.si.del (n:=gR q.1)
          obtain⟨kp,hc⟩:=aE1 g2.si g2.on hx fun x=>del s3.f0 (gR q.1)
          have hv:q.2.map jE=val (sortL bef l):=by
            rw [← hall,aMj]
            exact (iF q2.val).symm
          rcases hc with ⟨y0,on1,l1⟩ | ⟨y9,off1,l1⟩
          · have y0':(kN s3 (gR q.1)).1=0:=y0
            have l1':(kN s3 (gR q.1)).2.f0=del s3.f0 (gR q.1):=l1
            have ho:oth (kN s3 (gR q.1)).2.f0=oth s.f0:=by rw [l1',aH2 (aAl q.1),j3,i3,c4]
            refine⟨_,_,_,_,_,_,rfl,hdl.mono (by rw [hcl]; omega),Kp.trans c3 (Kp.trans i2 (Kp.trans j2 kp)),ho,.inl ⟨y0',on1,?_,hv,by rw [List.length_map,f3],t,g4,by rw [Nat.zero_add]⟩⟩
            have hp:=(aK8 g2.si.rise hx).symm.trans g2.perm
            rw [List.map_cons,List.map_nil] at hp
            have hp2:(kN s3 (gR q.1)).2.f0.Perm (oth s.f0):=by
              rw [l1']
              have:=(hp.trans (List.perm_append_singleton _ _)).cons_inv
              exact this
            rw [← aPg hO hp2,ho]
          · have y9':(kN s3 (gR q.1)).1=9:=y9
            have l1':(kN s3 (gR q.1)).2.f0=s3.f0:=l1
            exact⟨_,_,_,_,_,_,rfl,hdl.mono (by rw [hcl]; omega),Kp.trans c3 (Kp.trans i2 (Kp.trans j2 kp)),by rw [l1',j3,i3,c4],.inr (.inr ⟨y9',off1⟩)⟩
      · rw [g1]
        exact⟨_,_,_,_,s3,_,rfl,j1.mono (by rw [hcl]; omega),Kp.trans c3 (Kp.trans i2 j2),by rw [j3,i3,c4],.inr g2⟩
    · rw [f1]
      simp only [Option.bind_some]
      unfold lL
      exact⟨_,_,_,_,s2,_,by rw [show (⟨⟨s2.f0,s2.f1,s2.f2,s2.f3,s2.f4⟩,⟨(h:Int),p.f1⟩,k,(n2:Int)⟩:S67)=⟨s2,p,k,(n2:Int)⟩ from by rw [← hh]],i1.mono (by rw [hcl]; omega),Kp.trans c3 i2,by rw [i3,c4],.inr f2⟩
  · rw [if_pos (by rw [a]; decide)]
    exact⟨_,_,_,_,s1,_,rfl,c2.mono (by omega),c3,c4,.inr (.inr ⟨a,b⟩)⟩
def aHl (p:S26):Bool:=decide (1≤p.f0)&&(decide (p.f0≤4096)&&(decide (2≤p.f1)&&decide (p.f1≤16)))
theorem aOe (p:S26):mR p=some (aHl p):=by
  unfold mR aHl
  cases decide (1≤p.f0) <;> cases decide (p.f0≤4096) <;> cases decide (2≤p.f1) <;> rfl
theorem aQ2 (s:S58) (l:List S47) (k:Int) (p:S26):mA (some s) l k p=kR l k p s (!aHl p||(decide (k<1)||decide (8<k))):=by
  unfold mA
  dsimp only
  rw [aOe]
  simp only [Option.bind_some]
  cases aHl p <;> cases decide (k<1) <;> rfl
theorem aMa {l:List S47} (hl:l.length≤1000) (s:S58) (k:Int) (hf:∀ e∈l,tB e k=true):loop (fun q=>iD l k s q) (0:Int)=some (.inl ()):=by
  have h:=iO (b:=fun q:Int=>iD l k s q) (fun i=>(i:Int)) (t:=.inl ()) l.length (fun i hi=>by
    have hx:=List.getElem?_eq_getElem hi
    show iD l k s (i:Int)=_
    unfold iD
    rw [if_pos (by simp only [decide_eq_true_eq]; omega),aH rfl hx]
    simp only [Option.bind_some]
    rw [aM7]
    simp only [Option.bind_some]
    rw [hf _ (List.getElem_mem hi),if_neg (by simp),lt_,w64 (by omega) (by omega)]
    rfl) (by
    show iD l k s (l.length:Int)=_
    unfold iD
    rw [if_neg (by simp)])
  exact h
theorem aN1 {kk h f:Nat} {k:Int} {p:S26} {s:S58} {l:List S47} (hs:SI kk s) (hk:kk+30000<4611686018427387904) (hon:s.f3=false) (hh:p.f0=(h:Int)) (hh1:1≤h∧h≤4096) (hf:p.f1=(f:Int)) (hf2:2≤f∧f≤16) (hk8:1≤k∧k≤8) (hg:Gd4 k l) (hl:l.length≤255) :
    ∃ out runs ps e s',mA (some s) l k p=some (out,runs,ps,e,some s')∧SI (kk+20000) s'∧Kp s s'∧oth s'.f0=oth s.f0 ∧
      ((e=0∧s'.f3=false∧s'.f0=oth s.f0∧out=val (sortL bef l)∧runs=(((l.length+h - 1) / h:Nat):Int)∧∃ t,Ps f ((l.length+h - 1) / h) t∧ps=(t:Int)) ∨
       (e=10∧out=[]∧aHn s (oth s.f0) l.length∧((s'.f3=false∧s'.f0=oth s.f0)∨s'.f3=true))∨(e=9∧out=[]∧s'.f3=true)):=by
  have hpl:aHl p=true:=by
    unfold aHl
    simp only [Bool.and_eq_true,decide_eq_true_eq]
    omega
  rw [aQ2,hpl,show (!true||(decide (k<1)||decide (8<k)))=false from by simp; omega]
  unfold kR
  rw [if_neg (by simp)]
  rw [aMa (by omega) s k hg.form]
  simp only [Option.bind_some]
  unfold qF sY
  obtain⟨out,runs,ps,e,s1,n1,i0,i1,i2,i3,i4⟩:=aOk hs (by omega) hon hh hh1 hf hf2 hg hl
  rw [i0]
  simp only [Option.bind_some]
  rcases i4 with ⟨a,b,d,o,r,t⟩ | ⟨a,b,d⟩ | ⟨a,b⟩
  · rw [if_neg (by simp [a])]
    exact⟨out,runs,ps,0,s1,rfl,i1.mono (by omega),i2,i3,.inl ⟨rfl,b,d,o,r,t⟩⟩
  · rw [if_pos (by rw [a]; decide),if_pos (by rw [a]; decide)]
    obtain⟨e2,s2,c1,c2,c3,c4,c5⟩:=aFh i1 (by omega) b
    rw [c1]
    simp only [Option.bind_some]
    have hsh:aHn s (oth s.f0) l.length:=by
      unfold aHn at d ⊢
      rw [← i2.1]
      exact d
    refine⟨[],0,0,e,s2,rfl,c2.mono (by omega),Kp.trans i2 c3,by rw [c4,i3],.inr (.inl ⟨a,rfl,hsh,?_⟩)⟩
    rcases c5 with ⟨_,q1,q2⟩ | ⟨_,q⟩
    · exact .inl ⟨q1,by rw [q2,i3]⟩
    · exact .inr q
  · rw [if_pos (by rw [a]; decide),if_neg (by rw [a]; decide)]
    exact⟨[],0,0,e,s1,rfl,i1.mono (by omega),i2,i3,.inr (.inr ⟨a,rfl,b⟩)⟩
theorem aIa {kk h f:Nat} {k:Int} {p:S26} {s:S58} {l:List S47} (hs:SI kk s) (hk:kk+30000<4611686018427387904) (hon:s.f3=false) (h2:s.f2=0) (hh:p.f0=(h:Int)) (hh1:1≤h∧h≤4096) (hf:p.f1=(f:Int)) (hf2:2≤f∧f≤16) (hk8:1≤k∧k≤8) (hg:Gd4 k l) (hl:l.length≤255)
    (hr:(nH (oth s.f0)+216 * l.length:Nat)≤s.f1) (hO:(oth s.f0).length<245) :
    ∃ s' t,mA (some s) l k p=some (val (sortL bef l),(((l.length+h - 1) / h:Nat):Int),((t:Nat):Int),0,some s')∧SI (kk+20000) s'∧s'.f1=s.f1∧s'.f2=0∧s'.f3=false∧s'.f0=oth s.f0∧Ps f ((l.length+h - 1) / h) t:=by
  obtain⟨out,runs,ps,e,s',i0,i1,i2,i3,i4⟩:=aN1 hs hk hon hh hh1 hf hf2 hk8 hg hl
  rcases i4 with ⟨a,b,d,o,r,t,t1,t2⟩ | ⟨a,b,d,_⟩ | ⟨a,b,d⟩
  · exact⟨s',t,by rw [i0,a,o,r,t2],i1,i2.1,(i2.2 h2 hon).1,b,d,t1⟩
  · rcases d with d | d <;> omega
  · exact absurd d (by rw [(i2.2 h2 hon).2]; decide)
def yU (i:Nat):S47:=⟨0,0,-(i:Int),[],0⟩
theorem aI0:loop (fun s:List S47×Int=>gX s.1 s.2) ([],0)=some ((List.range 10).map yU):=by
  have h:=iO (b:=fun s:List S47×Int=>gX s.1 s.2) (fun k=>((List.range k).map yU,(k:Int))) (t:=(List.range 10).map yU) 10 (fun k hk=>by
    show gX ((List.range k).map yU) (k:Int)=_
    unfold gX
    rw [if_pos (by simp only [decide_eq_true_eq]; omega),w64 (n:=0 - (k:Int)) (by omega) (by omega),aW (by simp only [List.length_map,List.length_range,List.length_singleton]; omega),lt_,w64 (by omega) (by omega),List.range_succ,List.map_append,show (0:Int) - (k:Int) = -(k:Int) by omega]
    rfl) (by
    show gX ((List.range 10).map yU) ((10:Nat):Int)=_
    unfold gX
    rw [if_neg (by simp)])
  exact h
theorem aTd:Gd4 1 ((List.range 10).map yU):=by
  refine⟨fun e he=>?_,fun e he=>?_,by simp⟩
  · obtain⟨i,hi,rfl⟩:=List.mem_map.1 he
    have:=List.mem_range.1 hi
    unfold yU i64
    dsimp only
    exact⟨by omega,by omega,by omega,by simp,by omega⟩
  · obtain⟨i,hi,rfl⟩:=List.mem_map.1 he
    have:=List.mem_range.1 hi
    unfold yU tB
    simp only [Bool.and_eq_true,decide_eq_true_eq,List.length_nil]
    omega
theorem aLy:uK=some true:=by
  unfold uK
  rw [aMn (by decide) (by decide)]
  simp only [Option.bind_some]
  rw [aI0]
  simp only [Option.bind_some]
  unfold qD sW
  have h0:=aQ1 (r:=65536) (by decide) (by decide)
  obtain⟨s',t,w,_,_,_,_,_,hp⟩:=aIa (p:=⟨2,2⟩) (h:=2) (f:=2) (k:=1) h0 (by omega) rfl rfl rfl (by omega) rfl (by omega) (by omega) aTd (by simp) (by show ((_:Nat):Int)≤65536; simp [oth,onS,nH]) (by simp [oth,onS])
  dsimp only
  rw [w]
  simp only [Option.bind_some]
  have ht:t=3:=hp.uniq (.more (by decide) (.more (by decide) (.more (by decide) (.one (by decide)))))
  have hv:val (sortL bef ((List.range 10).map yU))=[yU 9,yU 8,yU 7,yU 6,yU 5,yU 4,yU 3,yU 2,yU 1,yU 0]:=by rfl
  rw [hv,ht]
  rfl
theorem aRb {x:Int} (h:gI .u8 x):∃ n:Nat,x=(n:Int)∧n<256:=by
  unfold gI Lit.wf at h
  simp only [Bool.and_eq_true,decide_eq_true_eq] at h
  have h1:(0:Int)≤x:=h.1
  have h2:x<256:=Int.lt_of_le_of_lt h.2 (by decide)
  exact⟨x.toNat,by omega,by omega⟩
theorem aJt (n m:Nat):((n:Int)).tmod (m:Int)=((n % m:Nat):Int):=rfl
theorem pm {n:Nat} (hn:n<65536) (b m:Nat) (hm:0<m∧m<1000) (hb:b<1000):IntKind.i64.wrap ((b:Int)+(IntKind.i64.wrap (n:Int)).tmod (m:Int))=((b+n % m:Nat):Int):=by
  have h1:=Nat.mod_lt n hm.1
  rw [w64 (n:=(n:Int)) (by omega) (by omega),aJt,w64 (by omega) (by omega)]
  rfl
theorem aRn (l:List S47) (h:l.length<1000):lO (val (sortL bef l)) (sortL bef l)=some true:=aJg _ (by rw [aN]; omega)
def evK (d k:Nat):S47:=⟨(k:Int),0,((k / 3:Nat):Int),bts [((97+k % d:Nat):Int)],0⟩
theorem aMq {n1 k i:Nat} (h1:n1<256) (hk:k<256) (hi:i<256) (acc:List S47) (ha:acc.length≤1000):iI (n1:Int) acc (i:Int) (k:Int)=some (.inl (acc++[evK (1+n1 % 9) k],((i+1:Nat):Int))):=by
  have m1:=Nat.mod_lt n1 (show 9>0 by omega)
  have m2:=Nat.mod_lt k (show 1+n1 % 9>0 by omega)
  unfold iI
  simp only [lt_]
  rw [show IntKind.i64.wrap (1+(IntKind.i64.wrap (n1:Int)).tmod 9)=((1+n1 % 9:Nat):Int) from pm (by omega) 1 9 (by omega) (by omega),aW (by omega),aA2 (by omega) (by omega),show ((k:Int)).tdiv 3=((k / 3:Nat):Int) from rfl,w64 (n:=((k / 3:Nat):Int)) (by omega) (by omega),aJt]
  generalize hd:1+n1 % 9=d at m2
  generalize hq:k % d=q at m2
  rw [u8w (n:=(q:Int)) (by omega) (by omega),u8w (n:=97+(q:Int)) (by omega) (by omega),aW (by simp only [List.length_singleton]; omega),w64 (by omega) (by omega)]
  unfold evK
  rw [hq]
  rfl
def aJ9 (n d:Nat) (back:Bool):List S47:=(List.range n).map fun i=>evK d (if back=true then n - 1 - i else i)
theorem aOu {n n1:Nat} (hn:n<256) (h1:n1<256) (b:Bool):loop (fun s:List S47×Int=>eD (n:Int) (n1:Int) b s.1 s.2) ([],0)=some (aJ9 n (1+n1 % 9) b):=by
  have h:=iO (b:=fun s:List S47×Int=>eD (n:Int) (n1:Int) b s.1 s.2) (fun k=>((List.range k).map (fun i=>evK (1+n1 % 9) (if b=true then n - 1 - i else i)),(k:Int))) (t:=aJ9 n (1+n1 % 9) b) n (fun k hk=>by
    show eD (n:Int) (n1:Int) b ((List.range k).map _) (k:Int)=_
    unfold eD
    rw [lt_,w64 (by omega) (by omega),if_pos (by simp only [decide_eq_true_eq]; omega)]
    have hl:((List.range k).map (fun i=>evK (1+n1 % 9) (if b=true then n - 1 - i else i))).length≤1000:=by rw [List.length_map,List.length_range]; omega
    rw [List.range_succ,List.map_append]
    cases b with
    | true =>
      rw [if_pos rfl,lt_,w64 (n:=(n:Int) - 1) (by omega) (by omega),lt_,w64 (n:=(n:Int) - 1 - (k:Int)) (by omega) (by omega),show (n:Int) - 1 - (k:Int)=((n - 1 - k:Nat):Int) by omega,aMq h1 (by omega) (by omega) _ hl]
      rfl
    | false =>
      rw [if_neg (by simp),aMq h1 (by omega) (by omega) _ hl]
      rfl) (by
    show eD (n:Int) (n1:Int) b ((List.range n).map _) (n:Int)=_
    unfold eD
    rw [lt_,w64 (by omega) (by omega),if_neg (by simp)]
    rfl)
  exact h
theorem aUh {n d:Nat} (hn:n<256) (b:Bool):Gd4 1 (aJ9 n d b)∧(aJ9 n d b).length=n:=by
  have hm:∀ e∈aJ9 n d b,∃ k,k<256∧e=evK d k:=fun e he=>by
    obtain⟨i,hi,rfl⟩:=List.mem_map.1 he
    have:=List.mem_range.1 hi
    exact⟨_,by split <;> omega,rfl⟩
  have hl:(aJ9 n d b).length=n:=by unfold aJ9; rw [List.length_map,List.length_range]
  refine⟨⟨fun e he=>?_,fun e he=>?_,by omega⟩,hl⟩
  · obtain⟨k,hk,rfl⟩:=hm e he
    unfold evK i64
    dsimp only
    exact⟨by omega,by omega,by omega,by simp [bts],by omega⟩
  · obtain⟨k,hk,rfl⟩:=hm e he
    unfold evK tB
    simp only [Bool.and_eq_true,decide_eq_true_eq,bts,List.map_cons,List.map_nil,List.length_cons,List.length_nil]
    omega
theorem SorterRuns (a0 a1 a2:Int) (a3:Bool) (h0:gI .u8 a0) (h1:gI .u8 a1) (h2:gI .u8 a2) (h3:gB a3):mV a0 a1 a2 a3=some true:=by
  obtain⟨n0,rfl,b0⟩:=aRb h0
  obtain⟨n1,rfl,b1⟩:=aRb h1
  obtain⟨n2,rfl,b2⟩:=aRb h2
  unfold mV
  rw [aLy]
  simp only [Option.bind_some]
  rw [if_neg (by simp),aOu b0 b1 a3]
  simp only [Option.bind_some]
  obtain⟨hg,hl⟩:=aUh (d:=1+n1 % 9) b0 a3
  generalize aJ9 n0 (1+n1 % 9) a3=m at hg hl
  unfold lC mO
  rw [aMn (by decide) (by decide)]
  simp only [Option.bind_some,lt_]
  have m2:=Nat.mod_lt n2 (show 40>0 by omega)
  rw [show IntKind.i64.wrap (1+(IntKind.i64.wrap (n2:Int)).tmod 40)=((1+n2 % 40:Nat):Int) from pm (by omega) 1 40 (by omega) (by omega)]
  generalize hh:1+n2 % 40=h
  rw [w64 (n:=(h:Int)+1) (by omega) (by omega)]
  have S0:=aQ1 (r:=4194304) (by decide) (by decide)
  obtain⟨s',t,w,i1,i2,i3,i4,i5,ip⟩:=aIa (p:=⟨(h:Int),4⟩) (h:=h) (f:=4) (k:=1) S0 (by omega) rfl rfl rfl (by omega) rfl (by omega) (by omega) hg (by omega) (by show ((0+216 * m.length:Nat):Int)≤4194304; omega) (by decide)
  rw [w]
  simp only [Option.bind_some]
  have O2:oth s'.f0=[]:=by rw [i5]; rfl
  obtain⟨s2,t2,w2,_⟩:=aIa (p:=⟨(h:Int)+1,4⟩) (h:=h+1) (f:=4) (k:=1) i1 (by omega) i4 i3 rfl (by omega) rfl (by omega) (by omega) hg (by omega) (by rw [O2,i2]; show ((0+216 * m.length:Nat):Int)≤4194304; omega) (by rw [O2]; decide)
  rw [w2]
  simp only [Option.bind_some]
  have hc:(m.length+(h+1) - 1) / (h+1)≤(m.length+h - 1) / h:=by
    rcases Nat.eq_zero_or_pos m.length with z | z
    · rw [z,Nat.div_eq_of_lt (by omega)]; exact Nat.zero_le _
    · obtain⟨y,hy⟩:∃ y,m.length=y+1:=⟨m.length - 1,by omega⟩
      rw [hy,show y+1+(h+1) - 1=y+(h+1) by omega,show y+1+h - 1=y+h by omega,Nat.add_div_right _ (by omega),Nat.add_div_right _ (by omega)]
      exact Nat.succ_le_succ (Nat.div_le_div_left (by omega) (by omega))
  rw [if_pos (by rfl),if_pos (by rfl),if_pos (by simp only [decide_eq_true_eq]; exact Int.ofNat_le.2 hc),aJd _ (by rw [aEg,aN]; omega)]
  simp only [Option.bind_some]
  rw [if_pos trivial,aSf m (by omega)]
  simp only [Option.bind_some]
  rw [aRn m (by omega)]
  rfl
end Go.Proofs.YtnefioccdkmegaaGreatDoor.P
