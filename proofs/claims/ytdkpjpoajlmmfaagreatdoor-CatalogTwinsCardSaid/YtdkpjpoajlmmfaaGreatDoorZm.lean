/- Texts of the claim, joined: what it uses of Se, Sf, Sg, Sh, Si, Sj, Sk, Sl, Sm, Sn, So, Sp, Sq, Sr, Ss, St, Ta, Tb, Tc, Tg, Ua, Wa, Wb, Wc, Wd, We, Wf. -/
import Derived.Test.YtdkpjpoajlmmfaaGreatDoorZl
import Derived.Lib.ParseIntB
namespace Go.Proofs.YtdkpjpoajlmmfaaGreatDoor.P
open Go Go.RowKit Go.Proofs.YtdkpjpoajlmmfaaGreatDoor.E Go.Proofs.YtdkpjpoajlmmfaaGreatDoor.M
set_option linter.unusedVariables false
set_option linter.unusedSectionVars false
theorem aUv (x y:List UInt8):qE x y=some (Op.bytesLess x y):=by unfold qE oS;simp
theorem aZk {U:List (List UInt8)} (hU:Up U) (hlen:U.length<1099511627776) {s:List UInt8} {k:Nat} (hk:U[k]?=some s):dO U s=some ((k:Int),true):=by
 have hkl:=(List.getElem?_eq_some_iff.1 hk).1;unfold dO;obtain⟨y,hy,hm⟩:=aCz (b:=λq:Int×Int=>bP U s q.1 q.2) (s:=(0,(U.length:Int)))
  (λq=>∃ i j:Nat,q=((i:Int),(j:Int))/\i<=k/\k<=j/\j<=U.length) (λq=>(q.2 - q.1).toNat) (λt=>t=(k:Int)) ⟨0,U.length,rfl,Nat.zero_le _,by omega,Nat.le_refl _⟩ (by
  rintro q ⟨i,j,rfl,h1,h2,h3⟩;show (∃ s',bP U s (i:Int) (j:Int)=some (.inl s')/\_)\/∃ t,bP U s (i:Int) (j:Int)=some (.inr t)/\_;unfold bP;by_cases hij:i<j
  ·have hx:=List.getElem?_eq_getElem (l:=U) (i:=(i+j) / 2) (by omega);have e1:pH .u64 (((i+j:Nat)):Int) 1=(((i+j) / 2:Nat):Int):=lZ (k:=.u64) (i+j) 1 (by decide);rw [if_pos (by simp only [decide_eq_true_eq]; omega)];simp only [lt_];rw [w64 (n:=(i:Int)+(j:Int)) (by omega) (by omega),nO (by omega) (by omega),show (i:Int)+(j:Int)=((i+j:Nat):Int) by omega,e1,w64 (by omega) (by omega),bG rfl hx];simp only [Option.bind_some];rw [aUv];simp only [Option.bind_some];unfold dC;by_cases hlt:(i+j) / 2<k
   ·have hb:=hU.get hx hk hlt;rw [if_pos hb,w64 (by omega) (by omega)];exact .inl ⟨_,rfl,⟨(i+j) / 2+1,j,rfl,by omega,h2,h3⟩,by simp only; omega⟩
   ·have hb:Op.bytesLess (U[(i+j) / 2]'(by omega)) s=false:=by
     rcases Nat.lt_or_ge k ((i+j) / 2) with h | h
     ·exact aEe (hU.get hk hx h)
     ·have e:(i+j) / 2=k:=by omega
      have e2:U[(i+j) / 2]'(by omega)=s:=by
       have:U[(i+j) / 2]?=some s:=by rw [e]; exact hk
       rw [hx] at this;exact Option.some.inj this
      rw [e2,yK]
    rw [if_neg (by rw [hb]; simp)];exact .inl ⟨_,rfl,⟨i,(i+j) / 2,rfl,h1,by omega,by omega⟩,by simp only; omega⟩
  ·rw [if_neg (by simp only [decide_eq_true_eq]; omega)];exact .inr ⟨_,rfl,by rw [show i=k by omega]⟩)
 rw [hy,hm];simp only [Option.bind_some];unfold dR eB;rw [if_pos (by simp only [decide_eq_true_eq]; omega),bG rfl hk];simp
def rQ (U:List (List UInt8)):List Int:=(U.map λs=>uv s.length++stb s).flatten
theorem aN8 (U:List (List UInt8)) (s:List UInt8):rQ (U++[s])=rQ U++(uv s.length++stb s):=by simp [rQ]
theorem aCs:∀ (U:List (List UInt8)),(∀ s∈U,s.length<=32)->(rQ U).length<=42 * U.length
 | [],_=>by simp [rQ]
 | s::U,h=>by have h1:=aCs U λx hx=>h x (List.mem_cons_of_mem _ hx);have h2:=h s List.mem_cons_self;have h3:=aL (n:=s.length) (by omega);have e:rQ (s::U)=(uv s.length++stb s)++rQ U:=rfl;rw [e];simp only [List.length_append,List.length_cons,xK];omega
def sM (U l:List (List UInt8)):List Int:=l.map λs=>((ix U s:Nat):Int)
def tM (l:List (List UInt8)):List Int:=uv (uq l).length++rQ (uq l)++fW (sM (uq l) l)
theorem aNj (U l:List (List UInt8)) (s:List UInt8):sM U (l++[s])=sM U l++[((ix U s:Nat):Int)]:=by simp [sM]
theorem xU (U l:List (List UInt8)):(sM U l).length=l.length:=by simp [sM]
theorem aXn {U:List (List UInt8)} {s:List UInt8} (h:s∈U):ix U s<U.length:=(List.getElem?_eq_some_iff.1 (aHv h)).1
theorem aCw {U l:List (List UInt8)} (hs:∀ s∈l,s∈U) (hU:U.length<=4096):I64 (sM U l):=λx hx=>by unfold sM at hx;obtain⟨s,hm,rfl⟩:=List.mem_map.1 hx;have:=aXn (hs s hm);unfold i64; omega
section
variable {l:List (List UInt8)} (hl:l.length<=4096) (h32:∀ s∈l,s.length<=32)
theorem aQl {m:List Int} (h:m.length<=4096) (hi:I64 m):(fW m).length<=1048576:=by obtain⟨w,hw,e⟩:=aG5 m;rw [e]; exact aYl hw h hi
include hl h32
theorem aRm {U:List (List UInt8)} (hU:Up U) (hs:∀ s∈l,s∈U) (hUl:U.length<=4096) {p:List Int} (hp:p.length<=1000000):pZ l U p=some (p++fW (sM U l)):=by
 have h:=kD (b:=λs:List Int×Int=>jD l U s.1 s.2) (λk=>(sM U (l.take k),(k:Int))) (t:=sM U l) l.length (λk hk=>by
  have hx:=List.getElem?_eq_getElem hk;have hm:=hs _ (List.getElem_mem hk);show jD l U (sM U (l.take k)) (k:Int)=_;unfold jD;rw [if_pos (by simp only [decide_eq_true_eq]; omega),bG rfl hx];simp only [Option.bind_some];rw [aZk hU (by omega) (aHv hm)];simp only [Option.bind_some];rw [bM (by rw [xU]; simp; omega),lt_,w64 (by omega) (by omega),List.take_add_one,hx];simp only [Option.toList_some];rw [aNj];rfl) (by
  show jD l U (sM U (l.take l.length)) (l.length:Int)=_;unfold jD;rw [if_neg (by simp),List.take_length])
 unfold pZ;rw [show (([],0):List Int×Int)=(sM U (l.take 0),((0:Nat):Int)) from rfl,h];simp only [Option.bind_some];unfold rD tJ;have hi:=aCw hs hUl;rw [aBo (by rw [xU]; omega) hi];simp only [Option.bind_some];have:=aQl (m:=sM U l) (by rw [xU]; omega) hi;rw [bM (by omega)]
theorem aQd:uM l=some (tM l):=by
 have hq:=aJ8 l;have h32':∀ s∈uq l,s.length<=32:=λs hs=>h32 s ((aBp l s).1 hs);unfold uM rH slices_Compact_string;rw [bM (by omega)];simp only [Option.bind_some];rw [show Lib.compact (l.mergeSort λx y=>decide (x<=y))=uq l from rfl,lt_,nO (by omega) (by omega),sU _ [] (by omega) (by have:=aL (n:=(uq l).length) (by omega); simp; omega)];simp only [Option.bind_some,List.nil_append];have hu:=aL (n:=(uq l).length) (by omega);obtain⟨p0,hp0⟩:∃ p0,p0=uv (uq l).length:=⟨_,rfl⟩;rw [← hp0] at hu ⊢;have h:=kD (b:=λs:List Int×Int=>jE (uq l) s.1 s.2) (λk=>(p0++rQ ((uq l).take k),(k:Int))) (t:=p0++rQ (uq l)) (uq l).length (λk hk=>by
  have hx:=List.getElem?_eq_getElem hk;have hs:=h32' _ (List.getElem_mem hk);have hf:=aCs ((uq l).take k) λs hs=>h32' s (List.mem_of_mem_take hs);have hf':(rQ ((uq l).take k)).length<=42 * k:=by simp at hf; omega
  show jE (uq l) (p0++rQ ((uq l).take k)) (k:Int)=_;unfold jE;rw [if_pos (by simp only [decide_eq_true_eq]; omega),bG rfl hx];simp only [Option.bind_some];rw [aEd _ _ (by omega) (by simp; omega)];simp only [Option.bind_some];rw [lt_,w64 (by omega) (by omega),List.take_add_one,hx];simp only [Option.toList_some];rw [aN8];simp) (by
  show jE (uq l) (p0++rQ ((uq l).take (uq l).length)) ((uq l).length:Int)=_;unfold jE;rw [if_neg (by simp),List.take_length])
 have e0:p0++rQ ((uq l).take 0)=p0:=by simp [rQ]
 rw [show ((p0,0):List Int×Int)=(p0++rQ ((uq l).take 0),((0:Nat):Int)) by rw [e0]; rfl,h];simp only [Option.bind_some];unfold qY;have hfl:=aCs (uq l) h32';rw [aRm hl h32 (aW9 l) (λs hs=>(aBp l s).2 hs) (by omega) (by simp; omega)];unfold tM;rw [hp0]
end
section
variable {l:List (List UInt8)} (hl:l.length<=4096)
include hl
end
theorem aPs {s:List UInt8} (h:s.length<=32) (r:List Int):pT 32 (uv s.length++(stb s++r))=some (s,r):=by unfold pT;rw [show IntKind.u64.wrap 32=32 from nO (by omega) (by omega),aG0 (by omega) _ (by omega)];simp only;rw [if_pos (by simp only [List.length_append,xK]; omega),Int.toNat_natCast,List.take_left' (xK s),List.drop_left' (xK s),aVf]
theorem aHd:∀ (D acc:List (List UInt8)) (r:List Int),Up (acc++D)->(∀ s∈D,s.length<=32)->aDj acc D.length (rQ D++r)=some (acc++D,r)
 | [],acc,r,_,_=>by simp [aDj,rQ]
 | s::D,acc,r,hU,h32=>by
  have e:rQ (s::D)++r=uv s.length++(stb s++(rQ D++r)):=by show (uv s.length++stb s)++rQ D++r=_;simp
  rw [e];show (match pT 32 (uv s.length++(stb s++(rQ D++r))) with
   | some (t,q)=>if aIb acc t=true then aDj (acc++[t]) D.length q else none
   | none=>none)=_
  rw [aPs (h32 s List.mem_cons_self)];have hr:aIb acc s=true:=by
   unfold aIb;cases hx:acc[acc.length - 1]? with
   | none=>rfl
   | some y=>exact hU.get (i:=acc.length - 1) (j:=acc.length) (by rw [List.getElem?_append_left (by have:=(List.getElem?_eq_some_iff.1 hx).1; omega),hx]) (by rw [List.getElem?_append_right (Nat.le_refl _),Nat.sub_self]; rfl) (by have:=(List.getElem?_eq_some_iff.1 hx).1; omega)
  simp only [hr,if_true];rw [aHd D (acc++[s]) r (by simpa using hU) λx hx=>h32 x (List.mem_cons_of_mem _ hx)];simp
theorem aNp {l:List (List UInt8)} (hl:l.length<=4096) (h32:∀ s∈l,s.length<=32):aJq (tM l)=some l:=by
 have hq:=aJ8 l;have hU:=aW9 l;have h32':∀ s∈uq l,s.length<=32:=λs hs=>h32 s ((aBp l s).1 hs);have hs:∀ s∈l,s∈uq l:=λs hs=>(aBp l s).2 hs;have hi:=aCw hs (by omega);have hr:=aAo (l:=sM (uq l) l) (by rw [xU]; omega) hi;have hp:aF6 (fW (sM (uq l) l))=some (sM (uq l) l,[]):=by
  unfold vH at hr;split at hr
  ·rename_i m he; cases hr; exact he
  ·cases hr
 unfold aJq aIf tM;rw [List.append_assoc,aG0 (by omega) _ (by omega)];simp only [Int.toNat_natCast];rw [aHd (uq l) [] _ (by simpa using hU) h32'];simp only [List.nil_append,hp];rw [if_pos]
 ·simp only [Option.some.injEq];unfold tx sM;rw [List.map_map];have key:∀ (m:List (List UInt8)),(∀ s∈m,s∈uq l)->m.map ((λi:Int=>(uq l).getD i.toNat []) ∘ λs=>((ix (uq l) s:Nat):Int))=m:=by
   intro m hm
   induction m with
   | nil=>rfl
   | cons s m ih =>
    rw [List.map_cons,ih λx hx=>hm x (List.mem_cons_of_mem _ hx)];congr 1;show (uq l).getD ((ix (uq l) s:Nat):Int).toNat []=s;rw [Int.toNat_natCast,List.getD_eq_getElem?_getD,aHv (hm s List.mem_cons_self)];rfl
  exact key l hs
 ·refine⟨?_,?_⟩
  ·unfold okI;rw [List.all_eq_true];intro x hx;unfold sM at hx;obtain⟨s,hm,rfl⟩:=List.mem_map.1 hx;have:=aXn (hs s hm);simp only [decide_eq_true_eq]; omega
  ·unfold usd;intro hf;obtain⟨j,hj,e⟩:=List.mem_map.1 hf;have hjl:j<(uq l).length:=List.mem_range.1 hj;refine absurd ?_ (of_decide_eq_false e);unfold sM;have hm:(uq l)[j]'hjl∈l:=(aBp l _).1 (List.getElem_mem hjl);have hg:=aHv (hs _ hm);have:=hU.nodup hg (List.getElem?_eq_getElem hjl);exact List.mem_map.2 ⟨_,hm,by rw [this]⟩
theorem aCb {m:List Int} (hi:I64 m):Bs (fW m):=by obtain⟨w,hw,e⟩:=aG5 m;rw [e]; exact bB6 hw hi
theorem aM4:∀ U:List (List UInt8),Bs (rQ U)
 | []=>Bs.nil
 | s::U=>((Bs.uv _).app (Bs.stb s)).app (aM4 U)
theorem aQi {l:List (List UInt8)} (hl:l.length<=4096):Bs (tM l) :=
 ((Bs.uv _).app (aM4 _)).app (aCb (aCw (λs hs=>(aBp l s).2 hs) (by have:=aJ8 l; omega)))
def pJ (s:Nat):List Int:=[((s % 256:Nat):Int),((s / 256 % 256:Nat):Int),((s / 65536 % 256:Nat):Int),((s / 16777216 % 256:Nat):Int)]
theorem aEo (s:Nat):Bs (pJ s):=λx hx=>by simp [pJ] at hx; omega
theorem qJ (s:Nat):(pJ s).length=4:=rfl
theorem aJh {s:Nat} (h:s<4294967296) (r:List Int):aBm (pJ s++r)=s:=by show aBm (((s % 256:Nat):Int)::((s / 256 % 256:Nat):Int)::((s / 65536 % 256:Nat):Int)::((s / 16777216 % 256:Nat):Int)::r)=s;rw [aLb]; omega
def yN (kind:Int) (b:List Int):List Int:=pJ b.length++[kind]++b
def jQ (kind:Int) (b:List Int):List Int:=yN kind b++pJ (crc (yN kind b))
theorem aE8 (kind:Int) (b:List Int):(yN kind b).length=5+b.length:=by simp [yN,qJ]; omega
theorem sF (kind:Int) (b:List Int):(jQ kind b).length=9+b.length:=by simp [jQ,aE8,qJ]; omega
theorem aMx {kind:Int} {b:List Int} (hk:0<=kind/\kind<256) (hB:Bs b):Bs (yN kind b):=((aEo _).app (Bs.mk hk Bs.nil)).app hB
theorem aB0 {kind:Int} {b:List Int} (hk:0<=kind/\kind<256) (hB:Bs b):Bs (jQ kind b):=(aMx hk hB).app (aEo _)
theorem aE1 {s:Nat} (hs:s<4294967296):xW (s:Int)=some (pJ s):=by
 unfold xW pJ;simp only [lt_];rw [show (8:Int)=((8:Nat):Int) from rfl,show (16:Int)=((16:Nat):Int) from rfl,show (24:Int)=((24:Nat):Int) from rfl,
  lZ _ _ (by decide),lZ _ _ (by decide),lZ _ _ (by decide),wU,wU,wU,wU]
theorem zB {p b:List Int} {kind:Int} (hk:0<=kind/\kind<256) (hB:Bs b) (hb:b.length<4294967000) (hp:p.length<1099511627776):wL p kind b=some (p++jQ kind b):=by unfold wL;rw [lt_,wB,Nat.mod_eq_of_lt (by omega),aE1 (by omega)];simp only [Option.bind_some];rw [show pJ b.length++[kind]++b=yN kind b from rfl];have hl:=aE8 kind b;have h4:=qJ (crc (yN kind b));rw [bM (by simp [qJ]),bM (by simp [qJ]; omega),bM (by omega),aF7 (aMx hk hB) (by omega)];simp only [Option.bind_some];rw [aE1 (aN5 _)];simp only [Option.bind_some];rw [bM (by simp only [List.length_append]; omega),List.append_assoc];rfl
theorem aAr {p b q:List Int} {kind:Int} (hb:b.length<=1048576):zT (p++jQ kind b++q) (p.length:Int)=(kind,b,((p.length+(jQ kind b).length:Nat):Int),0):=by
 have hv:(p++jQ kind b++q).drop p.length=jQ kind b++q:=by rw [List.append_assoc,List.drop_left]
 have hl:=aE8 kind b;have hpl:=sF kind b;have hn:aBm (jQ kind b++q)=b.length:=by show aBm (pJ b.length++[kind]++b++pJ (crc (yN kind b))++q)=_;rw [List.append_assoc,List.append_assoc,List.append_assoc,aJh (by omega)]
 have ht:(jQ kind b++q).take (5+b.length)=yN kind b:=by show (yN kind b++pJ (crc (yN kind b))++q).take (5+b.length)=_;rw [List.append_assoc,List.take_left' hl]
 have hd:(jQ kind b++q).drop (5+b.length)=pJ (crc (yN kind b))++q:=by show (yN kind b++pJ (crc (yN kind b))++q).drop (5+b.length)=_;rw [List.append_assoc,List.drop_left' hl]
 unfold zT;rw [if_neg (by simp only [List.length_append]; omega),Int.toNat_natCast,hv,hn,ht,hd,aJh (aN5 _),if_neg (by simp only [List.length_append]; omega),if_neg (by simp only [List.length_append]; omega),if_pos rfl];refine Prod.ext ?_ (Prod.ext ?_ (Prod.ext ?_ rfl))
 ·rfl
 ·show (yN kind b).drop 5=b;rfl
 ·show (p.length:Int)+(b.length:Int)+9=((p.length+(jQ kind b).length:Nat):Int);rw [hpl]; omega
def oI (l:List S61):List Int:=l.map λe=>IntKind.i64.wrap e.f0
def jI (l:List S61):List Int:=l.map λe=>e.f1
def jF (l:List S61):List Int:=l.map λe=>e.f2
def nY (l:List S61):List (List UInt8):=l.map λe=>e.f3
def mR (l:List S61):List Nat:=l.map λe=>e.f4
def sP (c:List Int):List Int:=uv c.length++c
def yT (l:List S61):List Int:=sP (fW (oI l))++(sP (fW (jI l))++(sP (fW (jF l))++(sP (tM (nY l))++sP (fW (rl (mR l))))))
def aQ9 (l:List S61):Prop:=∀ e∈l,(0<=e.f0/\e.f0<18446744073709551616)/\i64 e.f1/\i64 e.f2/\e.f3.length<=32/\e.f4<18446744073709551616
section
variable {l:List S61} (hl:l.length<=4096) (hL:aQ9 l)
theorem aEv:I64 (oI l):=λx hx=>by obtain⟨e,_,rfl⟩:=List.mem_map.1 hx;exact aCi _
include hL
theorem aCp:I64 (jI l):=λx hx=>by obtain⟨e,he,rfl⟩:=List.mem_map.1 hx;exact (hL e he).2.1
theorem aCn:I64 (jF l):=λx hx=>by obtain⟨e,he,rfl⟩:=List.mem_map.1 hx;exact (hL e he).2.2.1
theorem aKc:∀ s∈nY l,s.length<=32:=λs hs=>by obtain⟨e,he,rfl⟩:=List.mem_map.1 hs;exact (hL e he).2.2.2.1
theorem aUt:∀ x∈mR l,x<18446744073709551616:=λx hx=>by obtain⟨e,he,rfl⟩:=List.mem_map.1 hx;exact (hL e he).2.2.2.2
omit hL
theorem wH {m:List Int} (hm:m.length<=4096) (hi:I64 m):(fW m).length<=11+10 * m.length:=by
 have h1:=aR8 m (w:=0) (by decide);have h2:=aKn hi;have h3:=aL (n:=m.length) (by omega);have e:(asL 0 m).length=1+(uv m.length).length+(b0 m).length:=by show ((0:Int)::(uv m.length++b0 m)).length=_;simp; omega
 omega
theorem aKj {m:List (List UInt8)} (hm:m.length<=4096) (h32:∀ s∈m,s.length<=32):(tM m).length<=21+52 * m.length:=by have hq:=aJ8 m;have h1:=aCs (uq m) λs hs=>h32 s ((aBp m s).1 hs);have h2:=aL (n:=(uq m).length) (by omega);have h3:=wH (m:=sM (uq m) m) (by rw [xU]; omega) (aCw (λs hs=>(aBp m s).2 hs) (by omega));rw [xU] at h3;unfold tM;simp only [List.length_append];omega
theorem aAa {c:List Int} (h:c.length<18446744073709551616):(sP c).length<=10+c.length:=by have:=aL h;unfold sP; simp; omega
theorem wA {c:List Int} (h:Bs c):Bs (sP c):=(Bs.uv _).app h
include hl hL
theorem aIk:(fW (oI l)).length<=11+10 * l.length/\(fW (jI l)).length<=11+10 * l.length/\(fW (jF l)).length<=11+10 * l.length/\(tM (nY l)).length<=21+52 * l.length/\(fW (rl (mR l))).length<=11+10 * l.length:=by
 have e0:(oI l).length=l.length:=by simp [oI]
 have e1:(jI l).length=l.length:=by simp [jI]
 have e2:(jF l).length=l.length:=by simp [jF]
 have e3:(nY l).length=l.length:=by simp [nY]
 have e4:(rl (mR l)).length=l.length:=by rw [aDa]; simp [mR]
 have h0:=wH (m:=oI l) (by omega) aEv;have h1:=wH (m:=jI l) (by omega) (aCp hL);have h2:=wH (m:=jF l) (by omega) (aCn hL);have h3:=aKj (m:=nY l) (by omega) (aKc hL);have h4:=wH (m:=rl (mR l)) (by omega) (aJy _);rw [e0] at h0; rw [e1] at h1; rw [e2] at h2; rw [e3] at h3; rw [e4] at h4;exact⟨h0,h1,h2,h3,h4⟩
theorem aGg:Bs (fW (oI l))/\Bs (fW (jI l))/\Bs (fW (jF l))/\Bs (tM (nY l))/\Bs (fW (rl (mR l))) :=
 ⟨aCb aEv,aCb (aCp hL),aCb (aCn hL),aQi (by simp [nY]; omega),aCb (aJy _)⟩
theorem aFi:(yT l).length<=115+92 * l.length:=by obtain⟨h0,h1,h2,h3,h4⟩:=aIk hl hL;have q0:=aAa (c:=fW (oI l)) (by omega);have q1:=aAa (c:=fW (jI l)) (by omega);have q2:=aAa (c:=fW (jF l)) (by omega);have q3:=aAa (c:=tM (nY l)) (by omega);have q4:=aAa (c:=fW (rl (mR l))) (by omega);unfold yT;simp only [List.length_append];omega
theorem aT8:Bs (yT l):=by obtain⟨h0,h1,h2,h3,h4⟩:=aGg hl hL;exact (wA h0).app ((wA h1).app ((wA h2).app ((wA h3).app (wA h4))))
theorem aGr {c:List Int} (hB:Bs c) (h:c.length<=1048576) (r:List Int):pT 1048576 (sP c++r)=some (bts c,r):=by unfold pT sP;rw [show IntKind.u64.wrap 1048576=1048576 from nO (by omega) (by omega),List.append_assoc,aG0 (by omega) _ (by omega)];simp only;rw [if_pos (by simp only [List.length_append]; omega),Int.toNat_natCast,List.take_left' rfl,List.drop_left' rfl]
theorem aTr:pTx 5 (yT l)=some ([bts (fW (oI l)),bts (fW (jI l)),bts (fW (jF l)),bts (tM (nY l)),bts (fW (rl (mR l)))],[]):=by obtain⟨h0,h1,h2,h3,h4⟩:=aIk hl hL;obtain⟨b0,b1,b2,b3,b4⟩:=aGg hl hL;unfold yT;have e4:=aGr hl hL b4 (by omega) [];rw [List.append_nil] at e4;simp only [pTx,aGr hl hL b0 (by omega),aGr hl hL b1 (by omega),aGr hl hL b2 (by omega),aGr hl hL b3 (by omega),e4]
end
def dN (e:S61):S61:=⟨e.f0,e.f1,e.f2,e.f3,lT e.f4⟩
theorem aJl (s:Int):∀ (l:List S61),(∀ e∈l,0<=e.f0/\e.f0<18446744073709551616) ->
  aDm s (oI l) (jI l) (jF l) (nY l) ((mR l).map lT)=if l.all (λe=>qG e s)=true then some (l.map dN) else none
 | [],_=>rfl
 | e::l,h=>by
  have ih:=aJl s l λx hx=>h x (List.mem_cons_of_mem _ hx);have h0:=h e List.mem_cons_self;have hw:IntKind.u64.wrap (IntKind.i64.wrap e.f0)=e.f0:=by rw [IntKind.wrap_u64,IntWalk.i64_left];unfold wrap64;omega
  show aDm s (IntKind.i64.wrap e.f0::oI l) (e.f1::jI l) (e.f2::jF l) (e.f3::nY l) (lT e.f4::(mR l).map lT)=_;unfold aDm;rw [hw,ih,show (⟨e.f0,e.f1,e.f2,e.f3,lT e.f4⟩:S61)=dN e from rfl,show qG (dN e) s=qG e s from rfl,List.all_cons];cases qG e s with
  | false=>rfl
  | true =>
   rw [if_pos rfl,Bool.true_and];cases l.all λe=>qG e s <;> rfl
theorem aTz {l:List S61} (hl:l.length<=4096) (hL:aQ9 l) (s:Int) :
  evL s (bts (fW (oI l))) (bts (fW (jI l))) (bts (fW (jF l))) (bts (tM (nY l))) (bts (fW (rl (mR l))))=if l.all (λe=>qG e s)=true then some (l.map dN) else none:=by
 obtain⟨b0,b1,b2,b3,b4⟩:=aGg hl hL;unfold evL;rw [aC0 b0,aC0 b1,aC0 b2,aC0 b3,aC0 b4,aAo (by simp [oI]; omega) aEv,aAo (by simp [jI]; omega) (aCp hL),aAo (by simp [jF]; omega) (aCn hL),
  aNp (by simp [nY]; omega) (aKc hL),show aMz (fW (rl (mR l)))=some ((mR l).map lT) by
   unfold aMz;rw [aAo (by rw [aDa]; simp [mR]; omega) (aJy _)];exact aOe (aUt hL)]
 simp only;rw [if_pos (by simp [oI,jI,jF,nY,mR]),aJl s l λe he=>(hL e he).1]
theorem aTv {l:List S61} (hl:l.length<=4096) (hL:aQ9 l) (s:Int) (p q:List Int) :
  evR (p++jQ 101 (yT l)++q) (p.length:Int) s=if l.all (λe=>qG e s)=true then (l.map dN,((p.length+(jQ 101 (yT l)).length:Nat):Int),0) else ([],0,3):=by
 have hb:=aFi hl hL;unfold evR;rw [aAr (by omega)];simp only;rw [if_neg (by simp),if_neg (by simp),aTr hl hL];simp only;rw [aTz hl hL s];cases l.all λe=>qG e s <;> rfl
theorem aMn {l:List S61} (hl:l.length<=4096):∀ (m k:Nat),k+m=l.length ->
  loop (λs:List Int×List Int×List Int×List (List UInt8)×List Nat×Int=>nN l s.1 s.2.1 s.2.2.1 s.2.2.2.1 s.2.2.2.2.1 s.2.2.2.2.2) (oI (l.take k),jI (l.take k),jF (l.take k),nY (l.take k),mR (l.take k),(k:Int))=some (oI l,jI l,jF l,nY l,mR l)
 | 0,k,hk=>by rw [List.take_of_length_le (by omega)];refine bF ?_;show nN l (oI l) (jI l) (jF l) (nY l) (mR l) (k:Int)=_;unfold nN;rw [if_neg (by simp only [decide_eq_true_eq]; omega)]
 | m+1,k,hk=>by
  have hx:=List.getElem?_eq_getElem (l:=l) (i:=k) (by omega);have ht:l.take (k+1)=l.take k++[l[k]'(by omega)]:=by rw [List.take_add_one,hx]; rfl
  have ih:=aMn hl m (k+1) (by omega);rw [ht] at ih;have e0:(oI (l.take k)).length=k:=by simp [oI]; omega
  have e1:(jI (l.take k)).length=k:=by simp [jI]; omega
  have e2:(jF (l.take k)).length=k:=by simp [jF]; omega
  have e3:(nY (l.take k)).length=k:=by simp [nY]; omega
  have e4:(mR (l.take k)).length=k:=by simp [mR]; omega
  refine (cH ?_).trans ih;show nN l (oI (l.take k)) (jI (l.take k)) (jF (l.take k)) (nY (l.take k)) (mR (l.take k)) (k:Int)=_;unfold nN xG xR;rw [if_pos (by simp only [decide_eq_true_eq]; omega),bG rfl hx];simp only [Option.bind_some,lt_];rw [bM (by simp; omega),bM (by simp; omega),bM (by simp; omega),bM (by simp; omega),bM (by simp; omega),w64 (n:=(k:Int)+1) (by omega) (by omega)];simp only [oI,jI,jF,nY,mR,List.map_append,List.map_cons,List.map_nil];rfl
theorem aTe {c p:List Int} (hB:Bs c) (hc:c.length<=1048576) (hp:p.length<=100000000):nL p (bts c)=some (p++sP c):=by
 have hbl:(bts c).length=c.length:=by simp [bts]
 rw [aEd _ _ (by omega) (by omega),aC0 hB,hbl,List.append_assoc];rfl
theorem aKq {l:List S61} (hl:l.length<=4096) (hL:aQ9 l) {p:List Int} (hp:p.length<1099511627776):aAd p l=some (p++jQ 101 (yT l)):=by
 obtain⟨h0,h1,h2,h3,h4⟩:=aIk hl hL;obtain⟨b0,b1,b2,b3,b4⟩:=aGg hl hL;have hb:=aFi hl hL;unfold aAd;have hc:=aMn hl l.length 0 (by omega);rw [show ((0:Nat):Int)=0 from rfl] at hc;rw [show (([],[],[],[],[],0):List Int×List Int×List Int×List (List UInt8)×List Nat×Int)=(oI (l.take 0),jI (l.take 0),jF (l.take 0),nY (l.take 0),mR (l.take 0),0) from rfl,hc];simp only [Option.bind_some];unfold vD xS;rw [aBo (by simp [oI]; omega) aEv];simp only [Option.bind_some];rw [aBo (by simp [jI]; omega) (aCp hL)];simp only [Option.bind_some];rw [aBo (by simp [jF]; omega) (aCn hL)];simp only [Option.bind_some];rw [aQd (by simp [nY]; omega) (aKc hL)];simp only [Option.bind_some];rw [aQz (by simp [mR]; omega)];simp only [Option.bind_some];have eb:yT l=sP (fW (oI l))++(sP (fW (jI l))++(sP (fW (jF l))++(sP (tM (nY l))++sP (fW (rl (mR l)))))):=rfl;rw [eb];clear eb hc hb;generalize fW (oI l)=c0 at *;generalize fW (jI l)=c1 at *;generalize fW (jF l)=c2 at *;generalize tM (nY l)=c3 at *;generalize fW (rl (mR l))=c4 at *;have st:∀ (k:Nat) (c acc:List Int),([c0,c1,c2,c3,c4]:List (List Int))[k]?=some c->Bs c->c.length<=1048576->acc.length<=100000000->nE c0 c1 c2 c3 c4 acc (k:Int)=some (.inl (acc++sP c,((k+1:Nat):Int))):=by
  intro k c acc hg hB hcl ha;have hk5:k<5:=by have:=(List.getElem?_eq_some_iff.1 hg).1; simpa using this
  unfold nE;rw [if_pos (by simp only [decide_eq_true_eq,List.length_cons,List.length_nil]; omega),bG rfl hg];simp only [Option.bind_some];rw [aTe hB hcl ha];simp only [Option.bind_some];rw [lt_,w64 (by omega) (by omega)];rfl
 have ol:∀ c:List Int,c.length<=1048576->(sP c).length<=1048586:=λc h=>by have:=aAa (c:=c) (by omega); omega
 have q0:=ol c0 (by omega); have q1:=ol c1 (by omega); have q2:=ol c2 (by omega); have q3:=ol c3 (by omega);have hlp:loop (λs:List Int×Int=>nE c0 c1 c2 c3 c4 s.1 s.2) ([],0)=some (((([]++sP c0)++sP c1)++sP c2)++sP c3++sP c4):=by refine (cH (st 0 c0 [] rfl b0 (by omega) (by simp))).trans ?_;refine (cH (st 1 c1 _ rfl b1 (by omega) (by simp; omega))).trans ?_;refine (cH (st 2 c2 _ rfl b2 (by omega) (by simp; omega))).trans ?_;refine (cH (st 3 c3 _ rfl b3 (by omega) (by simp; omega))).trans ?_;refine (cH (st 4 c4 _ rfl b4 (by omega) (by simp; omega))).trans ?_;refine bF ?_;show nE c0 c1 c2 c3 c4 _ ((4+1:Nat):Int)=_;unfold nE;rw [if_neg (by simp)]
 rw [hlp];simp only [Option.bind_some];unfold vB xQ;have hbl:((([]++sP c0)++sP c1)++sP c2)++sP c3++sP c4=sP c0++(sP c1++(sP c2++(sP c3++sP c4))):=by simp
 rw [hbl];have q4:=ol c4 (by omega);rw [zB (by decide) ((wA b0).app ((wA b1).app ((wA b2).app ((wA b3).app (wA b4))))) (by simp only [List.length_append]; omega) hp];rfl
theorem aTy (x:S61) (k:Int):aEq x k=some (qG x k):=aKo x k
def ckF (c:S90) (e:S61):S90 :=
 ⟨c.f0,c.f1,if e.f0<c.f2 then e.f0 else c.f2,if c.f3<e.f0 then e.f0 else c.f3,if e.f2<c.f4 then e.f2 else c.f4,if c.f5<e.f2 then e.f2 else c.f5,
  if (Op.bytesLess c.f6 e.f3||c.f6==e.f3)=true then c.f6 else e.f3,if Op.bytesLess c.f7 e.f3=true then e.f3 else c.f7⟩
def ck0 (l:List S61) (a:Int) (e:S61):S90:=⟨(l.length:Int),a,e.f0,e.f0,e.f2,e.f2,e.f3,e.f3⟩
def ckL (l:List S61) (a:Int):S90:=match l with
 | []=>⟨0,a,0,0,0,0,[],[]⟩
 | e::_=>l.foldl ckF (ck0 l a e)
theorem aUa (l:List S61) (c:S90):(l.foldl ckF c).f0=c.f0/\(l.foldl ckF c).f1=c.f1:=by
 induction l generalizing c with
 | nil=>exact⟨rfl,rfl⟩
 | cons e l ih=>exact ih (ckF c e)
theorem aN6 (l:List S61) (a:Int):(ckL l a).f0=(l.length:Int)/\(ckL l a).f1=a:=by
 unfold ckL;cases l with
 | nil=>exact⟨rfl,rfl⟩
 | cons e l=>exact aUa _ _
theorem aH1 {α β:Type} (f:β->α->β) (b:β) {l:List α} {k:Nat} {x:α} (h:l[k]?=some x):(l.take (k+1)).foldl f b=f ((l.take k).foldl f b) x:=by rw [List.take_add_one,h,List.foldl_append]; rfl
theorem aMt {l:List S61} (h:0<l.length) (hl:l.length<4611686018427387904) (a:Int):qP l a=some (ckL l a):=by
 cases l with
 | nil=>simp at h
 | cons e r =>
  obtain⟨m,hm⟩:∃ m,m=e::r:=⟨_,rfl⟩;rw [← hm] at hl ⊢;have h0:at_ m 0=some e:=by subst hm; rfl
  unfold qP;rw [h0];simp only [Option.bind_some];have hk:=kD (b:=λs:Int×Int×Int×Int×List UInt8×List UInt8×Int=>iE m s.1 s.2.1 s.2.2.1 s.2.2.2.1 s.2.2.2.2.1 s.2.2.2.2.2.1 s.2.2.2.2.2.2)
   (λk=>(((m.take k).foldl ckF (ck0 m a e)).f2,((m.take k).foldl ckF (ck0 m a e)).f3,((m.take k).foldl ckF (ck0 m a e)).f4,((m.take k).foldl ckF (ck0 m a e)).f5,((m.take k).foldl ckF (ck0 m a e)).f6,((m.take k).foldl ckF (ck0 m a e)).f7,(k:Int)))
   (t:=((m.foldl ckF (ck0 m a e)).f2,(m.foldl ckF (ck0 m a e)).f3,(m.foldl ckF (ck0 m a e)).f4,(m.foldl ckF (ck0 m a e)).f5,(m.foldl ckF (ck0 m a e)).f6,(m.foldl ckF (ck0 m a e)).f7)) m.length (λk hk=>by
    have hx:=List.getElem?_eq_getElem (l:=m) (i:=k) hk;show iE m _ _ _ _ _ _ (k:Int)=_;unfold iE;rw [if_pos (by simp only [decide_eq_true_eq]; omega),bG rfl hx];simp only [Option.bind_some,lt_];rw [w64 (by omega) (by omega),aH1 ckF _ hx];rfl) (by
    show iE m _ _ _ _ _ _ ((m.length:Nat):Int)=_;unfold iE;rw [if_neg (by simp only [decide_eq_true_eq]; omega),List.take_length])
  have e0:ckL m a=m.foldl ckF (ck0 m a e):=by subst hm; rfl
  refine (congrArg (λo:Option (Int×Int×Int×Int×List UInt8×List UInt8)=>o.bind λt=>mD m a t.1 t.2.1 t.2.2.1 t.2.2.2.1 t.2.2.2.2.1 t.2.2.2.2.2) hk).trans ?_;unfold mD sI;simp only [Option.bind_some];obtain⟨q0,q1⟩:=aUa m (ck0 m a e);rw [e0];generalize m.foldl ckF (ck0 m a e)=c at q0 q1 ⊢;obtain⟨c0,c1,c2,c3,c4,c5,c6,c7⟩:=c;simp only [ck0] at q0 q1;subst q0;subst q1;rfl
def ckB (c:S90):List Int:=uv c.f0.toNat++(uv c.f1.toNat++(uv c.f2.toNat++(uv c.f3.toNat++(uv (zz c.f4)++(uv (zz c.f5)++(uv c.f6.length++(stb c.f6++(uv c.f7.length++stb c.f7))))))))
def pgL (c:List S61):List Int:=jQ 101 (yT c)
def bV (cs:List (List S61)):List Int:=cs.flatMap pgL
def fG:List (List S61)->Nat->List S90
 | [],_=>[]
 | c::r,a=>ckL c (a:Int)::fG r (a+(pgL c).length)
def uJ (k:Nat) (cs:List S90):List Int:=uv k++(uv cs.length++cs.flatMap ckB)
def wZ (l:List S61) (k:Nat):List Int :=
 bV (pcs 64 l)++jQ 102 (uJ k (fG (pcs 64 l) 0))++jQ 116 (pJ (bV (pcs 64 l)).length)
def Gd (e:S61):Prop:=(0<=e.f0/\e.f0<18446744073709551616)/\e.f4<18446744073709551616
theorem bCw {l:List S61} (h:gL 48 g61 l):∀ e∈l,Gd e:=λe he=>by obtain⟨q0,q1,q2,q3,q4⟩:=h.2 e he;unfold gI Lit.wf at q0;simp only [Bool.and_eq_true,decide_eq_true_eq] at q0;refine⟨⟨q0.1,Int.lt_of_le_of_lt q0.2 (by decide)⟩,?_⟩;unfold gF Lit.wf at q4;simpa using q4
structure Run (k a:Int) (l:List S61):Prop where
 fm:∀ e∈l,qG e k=true
 gd:∀ e∈l,Gd e
 of:∀ (i:Nat) (x:S61),l[i]?=some x->x.f0=a+i
theorem xF {e:S61} {k:Int} (h:qG e k=true):0<=e.f1/\e.f1<k /\ -1099511627776<=e.f2/\e.f2<=1099511627776/\e.f3.length<=32/\e.f0<1099511627776:=by unfold qG at h;simp only [Bool.and_eq_true,decide_eq_true_eq] at h;omega
section
variable {k a:Int} {l:List S61}
theorem Run.laid (h:Run k a l) (hk:k<=8):aQ9 l:=λe he=>by have h1:=xF (h.fm e he);obtain⟨h2,h3⟩:=h.gd e he;unfold i64;exact⟨h2,by omega,by omega,by omega,h3⟩
theorem Run.drop (h:Run k a l) (n:Nat):Run k (a+n) (l.drop n) :=
 ⟨λe he=>h.fm e (List.mem_of_mem_drop he),λe he=>h.gd e (List.mem_of_mem_drop he),λi x hx=>by
  rw [List.getElem?_drop] at hx;have:=h.of _ x hx;omega⟩
theorem Run.take (h:Run k a l) (n:Nat):Run k a (l.take n) :=
 ⟨λe he=>h.fm e (List.mem_of_mem_take he),λe he=>h.gd e (List.mem_of_mem_take he),λi x hx=>by
  rw [List.getElem?_take] at hx;split at hx
  ·exact h.of _ x hx
  ·cases hx⟩
end
def flt (k a:Int):List S61->Nat->Option Int
 | [],_=>none
 | e::r,i=>if qG e k=true then (if e.f0=a+i then flt k a r (i+1) else some 8) else some 3
theorem aP5 {k a:Int}:∀ {l:List S61} {i:Nat},flt k a l i=none->(∀ e∈l,Gd e)->Run k (a+i) l
 | [],i,_,_=>⟨λe he=>(by cases he),λe he=>(by cases he),λi x hx=>(by simp at hx)⟩
 | e::r,i,h,hg=>by
  unfold flt at h;split at h
  ·rename_i hf;split at h
   ·rename_i h0;have ih:=aP5 h λx hx=>hg x (List.mem_cons_of_mem _ hx);refine⟨λx hx=>?_,hg,λj x hx=>?_⟩
    ·rcases List.mem_cons.1 hx with rfl | hx
     ·exact hf
     ·exact ih.fm x hx
    ·cases j with
     | zero=>simp at hx; subst hx; simpa using h0
     | succ j =>
      have:=ih.of j x (by simpa using hx);omega
   ·cases h
  ·cases h
theorem aL3 {k a:Int}:∀ {l:List S61} {i:Nat},Run k (a+i) l->flt k a l i=none
 | [],i,_=>rfl
 | e::r,i,h=>by unfold flt;have h0:=h.of 0 e rfl;rw [if_pos (h.fm e List.mem_cons_self),if_pos (by simpa using h0)];refine aL3 ⟨λx hx=>h.fm x (List.mem_cons_of_mem _ hx),λx hx=>h.gd x (List.mem_cons_of_mem _ hx),λj x hx=>?_⟩;have:=h.of (j+1) x (by simpa using hx);omega
section
variable {k:Int} {l:List S61} {e0:S61} (hg:∀ e∈l,Gd e) (h0:l[0]?=some e0) (hlen:l.length<=1024)
include hg h0 hlen
theorem aP2:∀ (m i:Nat),i+m=l.length->(i=0\/e0.f0<1099511627776) ->
  loop (λs:Int=>iJ l k s) (i:Int)=some (match flt k e0.f0 (l.drop i) i with | none=>.inl () | some c=>.inr ([],c))
 | 0,i,hi,_=>by rw [List.drop_of_length_le (by omega)];refine bF ?_;show iJ l k (i:Int)=_;unfold iJ;rw [if_neg (by simp only [decide_eq_true_eq]; omega)];rfl
 | m+1,i,hi,hs=>by
  have hil:i<l.length:=by omega
  have hx:=List.getElem?_eq_getElem (l:=l) (i:=i) hil;obtain⟨⟨g4,g5⟩,g6⟩:=hg _ (List.getElem_mem hil);obtain⟨⟨g1,g2⟩,g3⟩:=hg e0 (List.mem_of_getElem? h0);rw [List.drop_eq_getElem_cons hil];have hl:iJ l k (i:Int)=if qG l[i] k=true then (if l[i].f0=e0.f0+i then some (.inl ((i+1:Nat):Int)) else some (.inr (.inr ([],8)))) else some (.inr (.inr ([],3))):=by
   unfold iJ;rw [if_pos (by simp only [decide_eq_true_eq]; omega),bG rfl hx];simp only [Option.bind_some,lt_];rw [aKo];simp only [Option.bind_some];cases hf:qG l[i] k with
   | false=>rfl
   | true =>
    have hfm:=xF hf;rw [if_neg (by simp),show at_ l 0=some e0 from h0];simp only [Option.bind_some];have hw:IntKind.u64.wrap (e0.f0+IntKind.u64.wrap (i:Int))=e0.f0+i\/i=0:=by
     rcases hs with h | h
     ·exact .inr h
     ·left; rw [nO (n:=(i:Int)) (by omega) (by omega),nO (by omega) (by omega)]
    have hw:IntKind.u64.wrap (e0.f0+IntKind.u64.wrap (i:Int))=e0.f0+i:=by
     rcases hw with h | h
     ·exact h
     ·subst h;rw [nO (n:=((0:Nat):Int)) (by omega) (by omega),nO (by omega) (by omega)]
    rw [hw];by_cases he:l[i].f0=e0.f0+i
    ·rw [if_neg (by simpa using he),if_pos trivial,if_pos he,w64 (by omega) (by omega)]; rfl
    ·rw [if_pos (by simpa using he),if_pos trivial,if_neg he]
  unfold flt;by_cases hf:qG l[i] k=true
  ·rw [if_pos hf] at hl ⊢;by_cases he:l[i].f0=e0.f0+i
   ·rw [if_pos he] at hl ⊢;refine (cH hl).trans (aP2 m (i+1) (by omega) ?_);have:=xF hf;right; omega
   ·rw [if_neg he] at hl ⊢;exact bF hl
  ·rw [if_neg hf] at hl ⊢;exact bF hl
end
theorem aY4 {α:Type} {q:Nat} (hq:1<=q) (xs:List α) (k:Nat):(pcs q xs)[k]?=if k * q<xs.length then some ((xs.drop (k * q)).take q) else none:=by
 split
 ·rename_i h; exact aGi hq h
 ·rename_i h;rw [List.getElem?_eq_none];rw [aAt];have:=(zZ (m:=xs.length) (k:=k) hq);omega
structure Cut (k:Int) (c:List S61):Prop where
 ps:0<c.length
 le:c.length<=64
 run:∃ a:Int,0<=a/\a+c.length<=1099511627776/\Run k a c
theorem Run.cut {k a:Int} {l:List S61} (h:Run k a l) (ha:0<=a/\(0<l.length->a+l.length<=1099511627776)):∀ c∈pcs 64 l,Cut k c:=by
 intro c hc;obtain⟨j,hj⟩:=List.getElem?_of_mem hc;rw [aY4 (by decide)] at hj;split at hj
 ·rename_i hlt;cases hj;have hr:=(h.drop (j * 64)).take 64;have:=ha.2 (by omega);exact⟨by simp; omega,by simp; omega,a+(j * 64:Nat),by omega,by simp only [List.length_take,List.length_drop]; omega,hr⟩
 ·cases hj
theorem aJ2:∀ (l:List S61) (c:S90),((l.foldl ckF c).f2<=c.f2/\∀ e∈l,(l.foldl ckF c).f2<=e.f0)/\(c.f3<=(l.foldl ckF c).f3/\∀ e∈l,e.f0<=(l.foldl ckF c).f3)/\((l.foldl ckF c).f4<=c.f4/\∀ e∈l,(l.foldl ckF c).f4<=e.f2)/\(c.f5<=(l.foldl ckF c).f5/\∀ e∈l,e.f2<=(l.foldl ckF c).f5)
 | [],c=>by simp
 | x::l,c=>by
  obtain⟨⟨a1,a2⟩,⟨b1,b2⟩,⟨c1,c2⟩,d1,d2⟩:=aJ2 l (ckF c x);simp only [List.foldl_cons];generalize l.foldl ckF (ckF c x)=z at *;have e2:(ckF c x).f2<=c.f2/\(ckF c x).f2<=x.f0:=by show (if x.f0<c.f2 then x.f0 else c.f2)<=_/\(if x.f0<c.f2 then x.f0 else c.f2)<=_; split <;> omega
  have e3:c.f3<=(ckF c x).f3/\x.f0<=(ckF c x).f3:=by show _<=(if c.f3<x.f0 then x.f0 else c.f3)/\_<=(if c.f3<x.f0 then x.f0 else c.f3); split <;> omega
  have e4:(ckF c x).f4<=c.f4/\(ckF c x).f4<=x.f2:=by show (if x.f2<c.f4 then x.f2 else c.f4)<=_/\(if x.f2<c.f4 then x.f2 else c.f4)<=_; split <;> omega
  have e5:c.f5<=(ckF c x).f5/\x.f2<=(ckF c x).f5:=by show _<=(if c.f5<x.f2 then x.f2 else c.f5)/\_<=(if c.f5<x.f2 then x.f2 else c.f5); split <;> omega
  refine⟨⟨by omega,λe he=>?_⟩,⟨by omega,λe he=>?_⟩,⟨by omega,λe he=>?_⟩,by omega,λe he=>?_⟩ <;> rcases List.mem_cons.1 he with rfl | he
  ·omega
  ·exact a2 e he
  ·omega
  ·exact b2 e he
  ·omega
  ·exact c2 e he
  ·omega
  ·exact d2 e he
theorem aGp (p2 p4:Int->Prop) (p6:List UInt8->Prop):∀ (l:List S61) (c:S90),(p2 c.f2/\p2 c.f3)/\(p4 c.f4/\p4 c.f5)/\(p6 c.f6/\p6 c.f7)->(∀ e∈l,p2 e.f0/\p4 e.f2/\p6 e.f3) ->
  (p2 (l.foldl ckF c).f2/\p2 (l.foldl ckF c).f3)/\(p4 (l.foldl ckF c).f4/\p4 (l.foldl ckF c).f5)/\(p6 (l.foldl ckF c).f6/\p6 (l.foldl ckF c).f7)
 | [],c,h,_=>h
 | x::l,c,h,hl=>by
  obtain⟨x1,x2,x3⟩:=hl x List.mem_cons_self;refine aGp p2 p4 p6 l (ckF c x) ?_ λe he=>hl e (List.mem_cons_of_mem _ he);obtain⟨⟨h2,h3⟩,⟨h4,h5⟩,h6,h7⟩:=h;refine⟨⟨?_,?_⟩,⟨?_,?_⟩,?_,?_⟩
  ·show p2 (if x.f0<c.f2 then x.f0 else c.f2); split <;> assumption
  ·show p2 (if c.f3<x.f0 then x.f0 else c.f3); split <;> assumption
  ·show p4 (if x.f2<c.f4 then x.f2 else c.f4); split <;> assumption
  ·show p4 (if c.f5<x.f2 then x.f2 else c.f5); split <;> assumption
  ·show p6 (if (Op.bytesLess c.f6 x.f3||c.f6==x.f3)=true then c.f6 else x.f3); split <;> assumption
  ·show p6 (if Op.bytesLess c.f7 x.f3=true then x.f3 else c.f7); split <;> assumption
structure CkOk (c:S90):Prop where
 r0:0<c.f0/\c.f0<=64
 r1:0<=c.f1
 r2:0<=c.f2/\c.f2<=c.f3/\c.f3<1099511627776/\c.f3 - c.f2=c.f0 - 1
 r4:(-1099511627776<=c.f4/\c.f4<=1099511627776)/\(-1099511627776<=c.f5/\c.f5<=1099511627776)
 r6:c.f6.length<=32/\c.f7.length<=32
theorem aHh {k a:Int} {c:List S61} (h:Run k a c) (hc:0<c.length):∃ x y,c[0]?=some x/\c[c.length - 1]?=some y/\x.f0=a/\y.f0=a+c.length - 1/\x∈c/\y∈c:=by have hx:=List.getElem?_eq_getElem (l:=c) (i:=0) hc;have hy:=List.getElem?_eq_getElem (l:=c) (i:=c.length - 1) (by omega);have h1:=h.of 0 _ hx;have h2:=h.of _ _ hy;exact⟨_,_,hx,hy,by omega,by omega,List.getElem_mem _,List.getElem_mem _⟩
theorem aLa {k a:Int} {c:List S61} (h:Run k a c) (hc:0<c.length) (p:Int):(ckL c p).f2=a/\(ckL c p).f3=a+c.length - 1:=by
 obtain⟨x,y,hx,hy,ex,ey,mx,my⟩:=aHh h hc;have e:ckL c p=c.foldl ckF (ck0 c p x):=by
  cases c with
  | nil=>simp at hc
  | cons z c=>simp at hx; subst hx; rfl
 rw [e];obtain⟨⟨a1,a2⟩,⟨b1,b2⟩,_⟩:=aJ2 c (ck0 c p x);have hi:=aGp (λv=>a<=v/\v<=a+c.length - 1) (λ_=>True) (λ_=>True) c (ck0 c p x) ⟨⟨by show a<=x.f0/\x.f0<=a+c.length - 1; omega,by show a<=x.f0/\x.f0<=a+c.length - 1; omega⟩,⟨trivial,trivial⟩,trivial,trivial⟩ λe he=>⟨by
  obtain⟨i,hi⟩:=List.getElem?_of_mem he;have:=h.of i e hi;have:=(List.getElem?_eq_some_iff.1 hi).1;omega,trivial,trivial⟩
 have q1:=a2 x mx;have q2:=b2 y my;omega
theorem Cut.ok {k:Int} {c:List S61} (h:Cut k c) {p:Int} (hp:0<=p):CkOk (ckL c p):=by
 obtain⟨a,h0,h1,hr⟩:=h.run;have hps:=h.ps;have hle:=h.le;obtain⟨e2,e3⟩:=aLa hr h.ps p;obtain⟨e0,e1⟩:=aN6 c p;obtain⟨x,y,hx,hy,ex,ey,mx,my⟩:=aHh hr h.ps;have e:ckL c p=c.foldl ckF (ck0 c p x):=by
  cases c with
  | nil=>simp at hps
  | cons z c=>simp at hx; subst hx; rfl
 have hf:∀ e∈c,(-1099511627776<=e.f2/\e.f2<=1099511627776)/\e.f3.length<=32:=λe he=>by have:=xF (hr.fm e he); omega
 have hi:=aGp (λ_=>True) (λv => -1099511627776<=v/\v<=1099511627776) (λs=>s.length<=32) c (ck0 c p x) ⟨⟨trivial,trivial⟩,⟨(hf x mx).1,(hf x mx).1⟩,(hf x mx).2,(hf x mx).2⟩ λe he=>⟨trivial,(hf e he).1,(hf e he).2⟩;rw [← e] at hi;exact⟨by omega,by omega,by omega,hi.2.1,hi.2.2⟩
theorem CkOk.len {c:S90} (h:CkOk c) (h1:c.f1<18446744073709551616):(ckB c).length<=144:=by
 obtain⟨a0,a1,a2,a4,a6⟩:=h;have q0:=aL (n:=c.f0.toNat) (by omega);have q1:=aL (n:=c.f1.toNat) (by omega);have q2:=aL (n:=c.f2.toNat) (by omega);have q3:=aL (n:=c.f3.toNat) (by omega);have q4:=aL (n:=zz c.f4) (wF (by unfold i64; omega));have q5:=aL (n:=zz c.f5) (wF (by unfold i64; omega));have q6:=aL (n:=c.f6.length) (by omega);have q7:=aL (n:=c.f7.length) (by omega);have e6:(stb c.f6).length=c.f6.length:=by simp [stb]
 have e7:(stb c.f7).length=c.f7.length:=by simp [stb]
 unfold ckB;simp only [List.length_append];omega
theorem Cut.pg {k:Int} {c:List S61} (h:Cut k c) (hk:k<=8):aQ9 c/\(pgL c).length<=6100/\9<=(pgL c).length/\Bs (pgL c):=by obtain⟨a,h0,h1,hr⟩:=h.run;have hle:=h.le;have hL:=hr.laid hk;have hb:=aFi (by omega) hL;have e:=sF 101 (yT c);exact⟨hL,by unfold pgL; omega,by unfold pgL; omega,aB0 (by decide) (aT8 (by omega) hL)⟩
theorem aDp (cs ds:List (List S61)):bV (cs++ds)=bV cs++bV ds:=by simp [bV]
theorem aAj:∀ (cs:List (List S61)) (a:Nat),(fG cs a).length=cs.length
 | [],_=>rfl
 | c::cs,a=>by simp [fG,aAj cs]
theorem aC3 {k:Int} (hk:k<=8):∀ {cs:List (List S61)},(∀ c∈cs,Cut k c)->(bV cs).length<=6100 * cs.length/\9 * cs.length<=(bV cs).length/\Bs (bV cs)
 | [],_=>⟨by simp [bV],by simp [bV],Bs.nil⟩
 | c::cs,h=>by obtain⟨a,b,d⟩:=aC3 hk λx hx=>h x (List.mem_cons_of_mem _ hx);obtain⟨_,q1,q2,q3⟩:=(h c List.mem_cons_self).pg hk;rw [show bV (c::cs)=pgL c++bV cs from rfl];exact⟨by simp; omega,by simp; omega,q3.app d⟩
theorem aN4 {k:Int} (hk:k<=8):∀ {cs:List (List S61)} {a:Nat},(∀ c∈cs,Cut k c)->∀ x∈fG cs a,CkOk x/\x.f1<=((a+(bV cs).length:Nat):Int)/\(0<cs.length->x.f1<((a+(bV cs).length:Nat):Int))
 | [],a,_,x,hx=>by cases hx
 | c::cs,a,h,x,hx=>by
  have hc:=h c List.mem_cons_self;obtain⟨_,q1,q2,q3⟩:=hc.pg hk;rw [show bV (c::cs)=pgL c++bV cs from rfl,List.length_append];rcases List.mem_cons.1 hx with rfl | hx
  ·have e:=(aN6 c (a:Int)).2;exact⟨hc.ok (by omega),by rw [e]; omega,λ_=>by rw [e]; omega⟩
  ·obtain⟨i1,i2,i3⟩:=aN4 hk (λx hx=>h x (List.mem_cons_of_mem _ hx)) x hx;refine⟨i1,by omega,λ_=>?_⟩;have:0<cs.length:=by rw [← aAj cs (a+(pgL c).length)];exact List.length_pos_of_mem hx
   have:=i3 this;omega
theorem aMf {ns:List Nat} (h:∀ n∈ns,n<18446744073709551616) (p:List Int) (hl:p.length+10 * ns.length<=140737488355000):qM p (ns.map λn:Nat=>(n:Int))=some (p++ns.flatMap uv):=by
 have hb:∀ m,m<=ns.length->((ns.take m).flatMap uv).length<=10 * m:=by
  intro m
  induction m with
  | zero=>intro _; simp
  | succ m ih =>
   intro hm;have hx:=List.getElem?_eq_getElem (l:=ns) (i:=m) (by omega);have:=aL (h _ (List.getElem_mem (l:=ns) (n:=m) (by omega)));rw [List.take_add_one,hx,List.flatMap_append,List.length_append];have:=ih (by omega);simp only [Option.toList_some,List.flatMap_cons,List.flatMap_nil,List.append_nil];omega
 unfold qM;have hk:=kD (b:=λs:List Int×Int=>iF (ns.map λn:Nat=>(n:Int)) s.1 s.2) (λk=>(p++(ns.take k).flatMap uv,(k:Int))) (t:=p++ns.flatMap uv) ns.length (λk hk=>by
  have hx:=List.getElem?_eq_getElem (l:=ns) (i:=k) hk;have hx':(ns.map λn:Nat=>(n:Int))[k]?=some ((ns[k]:Nat):Int):=by rw [List.getElem?_map,hx]; rfl
  show iF _ _ (k:Int)=_;unfold iF;have h1:=hb k (by omega);have h2:=aL (h _ (List.getElem_mem hk));rw [if_pos (by simp only [decide_eq_true_eq,List.length_map]; omega),bG rfl hx'];simp only [Option.bind_some];rw [sU _ _ (h _ (List.getElem_mem hk)) (by simp only [List.length_append]; omega)];simp only [Option.bind_some,lt_];rw [w64 (by omega) (by omega),List.take_add_one,hx,List.flatMap_append];simp only [Option.toList_some,List.flatMap_cons,List.flatMap_nil,List.append_nil,List.append_assoc];rfl) (by
  show iF _ _ ((ns.length:Nat):Int)=_;unfold iF;rw [if_neg (by simp),List.take_length])
 rw [show (p,(0:Int))=(p++(ns.take 0).flatMap uv,((0:Nat):Int)) by simp,hk];rfl
def WL (k:Int) (l:List S61):List Int×Int :=
 if l.length=0\/k<1\/8<k then ([],1) else if 1024<l.length then ([],2) else
 match flt k (l.head?.map (·.f0) |>.getD 0) l 0 with
 | some c=>([],c)
 | none=>(wZ l k.toNat,0)
section
variable {k:Int} (hk:k<=8)
include hk
theorem aI4:∀ (cs:List (List S61)) (p:List Int) (ch:List S90),(∀ c∈cs,Cut k c)->p.length+6100 * cs.length<=1000000->ch.length+cs.length<=100000 ->
  cs.foldlM (λ(s:List Int×List S90) l=>lW s.1 s.2 l) (p,ch)=some (p++bV cs,ch++fG cs p.length)
 | [],p,ch,_,_,_=>by simp [bV,fG]
 | c::cs,p,ch,h,hp,hch=>by
  have hc:=h c List.mem_cons_self;obtain⟨hL,q1,q2,q3⟩:=hc.pg hk;have hle:=hc.le;simp only [List.length_cons] at hp hch;rw [List.foldlM_cons];have e:lW p ch c=some (p++pgL c,ch++[ckL c (p.length:Int)]):=by unfold lW;rw [aMt hc.ps (by omega)];simp only [Option.bind_some];rw [bM (by simp; omega),aKq (by omega) hL (by omega)];rfl
  simp only [e,Option.bind_eq_bind,Option.bind_some];rw [aI4 cs _ _ (λx hx=>h x (List.mem_cons_of_mem _ hx)) (by simp only [List.length_append]; omega) (by simp; omega)];simp [bV,fG]
end
theorem aU1 {k:Int} (l:List S90) (h:∀ c∈l,CkOk c/\c.f1<1099511627776) (hl:l.length<=1000) (p:List Int) (hp:p.length<=100) :
  loop (λs:List Int×Int=>gH l s.1 s.2) (p,0)=some (p++l.flatMap ckB):=by
 have hb:∀ m,m<=l.length->((l.take m).flatMap ckB).length<=144 * m:=by
  intro m
  induction m with
  | zero=>intro _; simp
  | succ m ih =>
   intro hm;have hx:=List.getElem?_eq_getElem (l:=l) (i:=m) (by omega);obtain⟨h1,h2⟩:=h _ (List.getElem_mem (l:=l) (n:=m) (by omega));have:=h1.len (by omega);rw [List.take_add_one,hx,List.flatMap_append,List.length_append];have:=ih (by omega);simp only [Option.toList_some,List.flatMap_cons,List.flatMap_nil,List.append_nil];omega
 have hk:=kD (b:=λs:List Int×Int=>gH l s.1 s.2) (λk=>(p++(l.take k).flatMap ckB,(k:Int))) (t:=p++l.flatMap ckB) l.length (λk hk=>by
  have hx:=List.getElem?_eq_getElem (l:=l) (i:=k) hk;obtain⟨h1,h2⟩:=h _ (List.getElem_mem hk);have hq:=hb k (by omega);show gH l _ (k:Int)=_;unfold gH;rw [if_pos (by simp only [decide_eq_true_eq]; omega),bG rfl hx];simp only [Option.bind_some,lt_];generalize l[k]=c at h1 h2 hx;obtain⟨a0,a1,a2,a4,a6⟩:=h1;rw [nO (n:=c.f0) (by omega) (by omega),nO (n:=c.f1) (by omega) (by omega)];have hu:=aMf (ns:=[c.f0.toNat,c.f1.toNat,c.f2.toNat,c.f3.toNat]) (by simp; omega) (p++(l.take k).flatMap ckB) (by simp only [List.length_append,List.length_cons,List.length_nil]; omega);simp only [List.map_cons,List.map_nil] at hu;rw [show ((c.f0.toNat:Nat):Int)=c.f0 by omega,show ((c.f1.toNat:Nat):Int)=c.f1 by omega,show ((c.f2.toNat:Nat):Int)=c.f2 by omega,show ((c.f3.toNat:Nat):Int)=c.f3 by omega] at hu;rw [hu];simp only [Option.bind_some];have q0:=aL (n:=c.f0.toNat) (by omega);have q1:=aL (n:=c.f1.toNat) (by omega);have q2:=aL (n:=c.f2.toNat) (by omega);have q3:=aL (n:=c.f3.toNat) (by omega);have i4:i64 c.f4:=by unfold i64; omega
  have i5:i64 c.f5:=by unfold i64; omega
  have q4:=aL (n:=zz c.f4) (wF i4);have q5:=aL (n:=zz c.f5) (wF i5);have q6:=aL (n:=c.f6.length) (by omega);have e6:(stb c.f6).length=c.f6.length:=by simp [stb]
  rw [zA i4 _ (by simp only [List.length_append,List.flatMap_cons,List.flatMap_nil,List.length_nil]; omega)];simp only [Option.bind_some];rw [zA i5 _ (by simp only [List.length_append,List.flatMap_cons,List.flatMap_nil,List.length_nil]; omega)];simp only [Option.bind_some];rw [aEd _ _ (by omega) (by simp only [List.length_append,List.flatMap_cons,List.flatMap_nil,List.length_nil]; omega)];simp only [Option.bind_some];rw [aEd _ _ (by omega) (by simp only [List.length_append,List.flatMap_cons,List.flatMap_nil,List.length_nil]; omega)];simp only [Option.bind_some];rw [w64 (by omega) (by omega),List.take_add_one,hx,List.flatMap_append];simp only [Option.toList_some,List.flatMap_cons,List.flatMap_nil,List.append_nil,List.append_assoc,ckB];rfl) (by
  show gH l _ ((l.length:Nat):Int)=_;unfold gH;rw [if_neg (by simp),List.take_length])
 rw [show (p,(0:Int))=(p++(l.take 0).flatMap ckB,((0:Nat):Int)) by simp,hk]
theorem aRy {k:Nat} (hk:k<=8) {l:List S90} (h:∀ c∈l,CkOk c/\c.f1<1099511627776) (hl:l.length<=1000):(uJ k l).length<=20+144 * l.length/\Bs (uJ k l):=by
 have q0:=aL (n:=k) (by omega);have q1:=aL (n:=l.length) (by omega);have key:∀ l:List S90,(∀ c∈l,CkOk c/\c.f1<1099511627776)->(l.flatMap ckB).length<=144 * l.length/\Bs (l.flatMap ckB):=by
  intro l
  induction l with
  | nil=>intro _; exact⟨by simp,Bs.nil⟩
  | cons c l ih =>
   intro h;obtain⟨i1,i2⟩:=ih λx hx=>h x (List.mem_cons_of_mem _ hx);obtain⟨h1,h2⟩:=h c List.mem_cons_self;have:=h1.len (by omega);rw [List.flatMap_cons];refine⟨by simp only [List.length_append,List.length_cons]; omega,Bs.app ?_ i2⟩;exact (Bs.uv _).app ((Bs.uv _).app ((Bs.uv _).app ((Bs.uv _).app ((Bs.uv _).app ((Bs.uv _).app ((Bs.uv _).app ((Bs.stb _).app ((Bs.uv _).app (Bs.stb _)))))))))
 obtain⟨k1,k2⟩:=key l h;unfold uJ;exact⟨by simp only [List.length_append]; omega,(Bs.uv _).app ((Bs.uv _).app k2)⟩
theorem aVo {n:Nat} (h:n<1099511627776):[IntKind.u8.wrap (n:Int),IntKind.u8.wrap (pH .i64 (n:Int) 8),IntKind.u8.wrap (pH .i64 (n:Int) 16),IntKind.u8.wrap (pH .i64 (n:Int) 24)]=pJ n:=by have e1:pH .i64 (n:Int) 8=((n / 256:Nat):Int):=lZ (k:=.i64) n 8 (by decide);have e2:pH .i64 (n:Int) 16=((n / 65536:Nat):Int):=lZ (k:=.i64) n 16 (by decide);have e3:pH .i64 (n:Int) 24=((n / 16777216:Nat):Int):=lZ (k:=.i64) n 24 (by decide);rw [e1,e2,e3,wU,wU,wU,wU];rfl
structure Seg (k:Int) (l:List S61):Prop where
 k1:1<=k
 k8:k<=8
 ps:0<l.length
 le:l.length<=1024
 run:∃ a:Int,0<=a/\a+l.length<=1099511627776/\Run k a l
section
variable {k:Int} {l:List S61} (h:Seg k l)
include h
theorem Seg.cut:∀ c∈pcs 64 l,Cut k c:=by obtain⟨a,h0,h1,hr⟩:=h.run;exact hr.cut ⟨h0,λ_=>h1⟩
theorem Seg.num:(pcs 64 l).length<=16/\0<(pcs 64 l).length:=by have h1:=h.le;have h2:=h.ps;rw [aAt];omega
theorem Seg.cks:(∀ x∈fG (pcs 64 l) 0,CkOk x/\x.f1<1099511627776)/\(fG (pcs 64 l) 0).length<=16/\(bV (pcs 64 l)).length<=97600/\9<=(bV (pcs 64 l)).length/\Bs (bV (pcs 64 l)):=by obtain⟨n1,n2⟩:=h.num;obtain⟨p1,p2,p3⟩:=aC3 h.k8 h.cut;refine⟨λx hx=>?_,by rw [aAj]; exact n1,by omega,by omega,p3⟩;obtain⟨c1,c2,_⟩:=aN4 h.k8 h.cut x hx;exact⟨c1,by omega⟩
theorem Seg.foot:(uJ k.toNat (fG (pcs 64 l) 0)).length<=2400/\Bs (uJ k.toNat (fG (pcs 64 l) 0)):=by obtain⟨c1,c2,_⟩:=h.cks;have:=h.k8;obtain⟨f1,f2⟩:=aRy (k:=k.toNat) (by omega) c1 (by omega);exact⟨by omega,f2⟩
theorem bCx:oO l k=some (wZ l k.toNat,0):=by
 obtain⟨n1,n2⟩:=h.num;obtain⟨c1,c2,c3,c4,c5⟩:=h.cks;obtain⟨f1,f2⟩:=h.foot;have hk1:=h.k1;have hk8:=h.k8;have hle:=h.le;unfold oO;rw [bM (by omega),aI4 h.k8 _ _ _ h.cut (by simp; omega) (by simp; omega)];simp only [Option.bind_some,List.nil_append,List.length_nil];unfold qZ;simp only [lt_];rw [nO (n:=k) (by omega) (by omega),nO (by omega) (by omega)];have hu:=aMf (ns:=[k.toNat,(fG (pcs 64 l) 0).length]) (by simp; omega) [] (by simp);simp only [List.map_cons,List.map_nil,List.nil_append] at hu;rw [show ((k.toNat:Nat):Int)=k by omega] at hu;rw [hu];simp only [Option.bind_some];have q0:=aL (n:=k.toNat) (by omega);have q1:=aL (n:=(fG (pcs 64 l) 0).length) (by omega);rw [aU1 (k:=k) _ c1 (by omega) _ (by simp; omega)];simp only [Option.bind_some];unfold pS sG;have ef:([k.toNat,(fG (pcs 64 l) 0).length].flatMap uv++(fG (pcs 64 l) 0).flatMap ckB)=uJ k.toNat (fG (pcs 64 l) 0):=by simp [uJ]
 rw [ef,zB (by decide) f2 (by omega) (by omega)];simp only [Option.bind_some,lt_];rw [aVo (by omega)];have hpl:=sF 102 (uJ k.toNat (fG (pcs 64 l) 0));rw [zB (by decide) (aEo _) (by simp [qJ]) (by simp only [List.length_append]; omega)];rfl
end
theorem aMj {l:List S61} (hg:∀ e∈l,Gd e) (k:Int) (hl:l.length<4611686018427387904):tA l k=some (WL k l):=by
 unfold tA WL;have hj:jW l k true=some ([],1):=rfl;by_cases h0:l.length=0
 ·rw [if_pos (by simp [h0]),hj,if_pos (.inl h0)]
 rw [if_neg (by simp; intro e; simp [e] at h0)];by_cases h1:k<1
 ·rw [if_pos (by simpa using h1),hj,if_pos (.inr (.inl h1))]
 rw [if_neg (by simpa using h1)];by_cases h8:8<k
 ·rw [show decide (8<k)=true by simpa using h8,hj,if_pos (.inr (.inr h8))]
 rw [show decide (8<k)=false by simpa using h8,if_neg (by rintro (h | h | h); exact h0 h; exact h1 h; exact h8 h)];unfold jW;rw [if_neg (by simp)];by_cases hn:1024<l.length
 ·rw [if_pos (by simp only [decide_eq_true_eq]; omega),if_pos hn]
 rw [if_neg (by simp only [decide_eq_true_eq]; omega),if_neg hn];obtain⟨e0,he0⟩:∃ e,l[0]?=some e:=⟨_,List.getElem?_eq_getElem (by omega)⟩;have hh:(l.head?.map (·.f0) |>.getD 0)=e0.f0:=by rw [List.head?_eq_getElem?,he0]; rfl
 have:=aP2 (k:=k) hg he0 (by omega) l.length 0 (by omega) (.inl rfl);rw [hh,show (0:Int)=((0:Nat):Int) from rfl,this,List.drop_zero];simp only [Option.bind_some];cases hf:flt k e0.f0 l 0 with
 | some c=>rfl
 | none =>
  have hr:=aP5 hf hg;have hlast:=aHh hr (by omega);obtain⟨x,y,hx,hy,ex,ey,mx,my⟩:=hlast;have f1:=xF (hr.fm y my);have g1:=hr.gd x mx;exact bCx (l:=l) (k:=k) ⟨by omega,by omega,by omega,by omega,_,by have:=g1.1; omega,by omega,hr⟩
theorem rdU {m:Nat} {most:Int} {r:List Int} (h:m<18446744073709551616) (hm:(m:Int)<=most) (hB:Bs (uv m++r)):bC ⟨uv m++r⟩ most=some (.inl ((m:Int),⟨r⟩)):=by have:=aCm most hB;rw [aG0 h r hm] at this;exact this
theorem rdI {x:Int} {r:List Int} (h:i64 x) (hB:Bs (uv (zz x)++r)):cX ⟨uv (zz x)++r⟩=some (.inl (x,⟨r⟩)):=by have:=aG4 hB;rw [aMp h r] at this;exact this
theorem rdT {s:List UInt8} {r:List Int} (h:s.length<=32) (hB:Bs (uv s.length++(stb s++r))) (hl:(uv s.length++(stb s++r)).length<9223372036854775808):eU ⟨uv s.length++(stb s++r)⟩ 32=some (.inl (s,⟨r⟩)):=by have:=aKt 32 hB hl;rw [aPs h r] at this;exact this
theorem aRg {a0:S128} {x:Int} {y:Int×S140} {ch:List S90} {c:S90} {r:List Int} {i:Nat} (hc:CkOk c) (hat:c.f1<=(a0.f0.length:Int)) (hP:a0.f0.length<=1000000) (hr:r.length<=1000000)
  (hB:Bs (ckB c++r)) (hi:(i:Int)<y.1) (hi':i<=1024) (hch:ch.length=i) (h0:i=0->c.f1=0) (hp:0<i->∃ p,ch[i - 1]?=some p/\c.f2=p.f3+1/\p.f1<c.f1) :
  cP a0 x y ch (ckB c++r) (i:Int)=some (.inl (ch++[c],r,((i+1:Nat):Int))):=by
 obtain⟨r0,r1,r2,r4,r6⟩:=hc;have q2:=aL (n:=c.f2.toNat) (by omega);have i4:i64 c.f4:=by unfold i64; omega
 have i5:i64 c.f5:=by unfold i64; omega
 have q6:=aL (n:=c.f6.length) (by omega);have q7:=aL (n:=c.f7.length) (by omega);have l6:(stb c.f6).length=c.f6.length:=by simp [stb]
 have l7:(stb c.f7).length=c.f7.length:=by simp [stb]
 have e:ckB c++r=uv c.f0.toNat++(uv c.f1.toNat++(uv c.f2.toNat++(uv c.f3.toNat++(uv (zz c.f4)++(uv (zz c.f5)++(uv c.f6.length++(stb c.f6++(uv c.f7.length++(stb c.f7++r))))))))):=by simp only [ckB,List.append_assoc]
 rw [e] at hB ⊢;have b1:=hB.r;have b2:=b1.r;have b3:=b2.r;have b4:=b3.r;have b5:=b4.r;have b6:=b5.r;have b7:=b6.r.r;unfold cP;rw [if_pos (by simpa using hi)];simp only [lt_];rw [nO (n:=(a0.f0.length:Int)) (by omega) (by omega),rdU (by omega) (by omega) hB];simp only [Option.bind_some,iA,lt_];rw [rdU (by omega) (by omega) b1];simp only [Option.bind_some,iA,lt_];rw [show ((c.f0.toNat:Nat):Int)=c.f0 by omega,show ((c.f1.toNat:Nat):Int)=c.f1 by omega,w64 (n:=c.f0) (by omega) (by omega),w64 (n:=c.f1) (by omega) (by omega)];unfold lC;rw [rdU (by omega) (by omega) b2];simp only [Option.bind_some,iA];rw [rdU (by omega) (by omega) b3];simp only [Option.bind_some,iA];rw [rdI i4 b4];simp only [Option.bind_some,iA];rw [rdI i5 b5];simp only [Option.bind_some,iA];rw [rdT r6.1 b6 (by simp only [List.length_append]; omega)];simp only [Option.bind_some,iA];rw [rdT r6.2 b7 (by simp only [List.length_append]; omega)];simp only [Option.bind_some,iA,lt_];rw [show ((c.f2.toNat:Nat):Int)=c.f2 by omega,show ((c.f3.toNat:Nat):Int)=c.f3 by omega];rw [if_pos (by simp only [decide_eq_true_eq]; omega),nO (n:=c.f3 - c.f2) (by omega) (by omega),w64 (n:=c.f0 - 1) (by omega) (by omega),nO (n:=c.f0 - 1) (by omega) (by omega),if_pos (by simp only [beq_iff_eq]; omega),
  show decide (c.f2<=c.f3)=true by simp only [decide_eq_true_eq]; omega,mN]
 simp only [Option.bind_some,iA];have hj4:eF ch (i:Int) c.f0 c.f1 (c.f2,⟨uv c.f3.toNat++(uv (zz c.f4)++(uv (zz c.f5)++(uv c.f6.length++(stb c.f6++(uv c.f7.length++(stb c.f7++r))))))⟩) (c.f3,⟨uv (zz c.f4)++(uv (zz c.f5)++(uv c.f6.length++(stb c.f6++(uv c.f7.length++(stb c.f7++r)))))⟩)
   (c.f4,⟨uv (zz c.f5)++(uv c.f6.length++(stb c.f6++(uv c.f7.length++(stb c.f7++r))))⟩) (c.f5,⟨uv c.f6.length++(stb c.f6++(uv c.f7.length++(stb c.f7++r)))⟩) (c.f6,⟨uv c.f7.length++(stb c.f7++r)⟩) (c.f7,⟨r⟩) r=some (.inl (ch++[c],r,((i+1:Nat):Int))):=by
  unfold eF;simp only [lt_];rw [bM (by simp only [List.length_cons,List.length_nil]; omega),nO (by omega) (by omega)];rfl
 unfold fM;by_cases hz:i=0
 ·rw [if_neg (by simp only [decide_eq_true_eq]; omega),h0 hz,show ((0:Int)==0)=true from rfl,mN];simp only [Option.bind_some,iA];rw [h0 hz] at hj4;exact hj4
 ·obtain⟨p,hp1,hp2,hp3⟩:=hp (by omega);rw [if_pos (by simp only [decide_eq_true_eq]; omega)];simp only [lt_];rw [nO (n:=(i:Int) - 1) (by omega) (by omega),bG (n:=i - 1) (by omega) hp1];simp only [Option.bind_some,lt_];rw [nO (n:=p.f3+1) (by omega) (by omega),if_pos (by simp only [beq_iff_eq]; exact hp2),show decide (p.f1<c.f1)=true by simpa using hp3,mN];simp only [Option.bind_some,iA];exact hj4
theorem aP6:∀ (cs:List (List S61)) (a i:Nat),(fG cs a)[i]?=(cs[i]?).map λc=>ckL c ((a+(bV (cs.take i)).length:Nat):Int)
 | [],a,i=>by simp [fG]
 | c::cs,a,0=>by simp [fG,bV]
 | c::cs,a,i+1=>by show (fG cs (a+(pgL c).length))[i]?=_;rw [aP6 cs];simp only [List.getElem?_cons_succ,List.take_succ_cons];rw [show bV (c::cs.take i)=pgL c++bV (cs.take i) from rfl,List.length_append,Nat.add_assoc]
section
variable {k:Int} {l:List S61} (h:Seg k l)
include h
theorem Seg.at_ {i:Nat} {x:S90} (hx:(fG (pcs 64 l) 0)[i]?=some x):∃ a:Int,0<=a/\Run k a l/\x=ckL ((l.drop (i * 64)).take 64) (((bV ((pcs 64 l).take i)).length:Nat):Int)/\i * 64<l.length/\x.f1=(((bV ((pcs 64 l).take i)).length:Nat):Int)/\x.f2=a+(i * 64:Nat)/\x.f3=a+(min l.length (i * 64+64):Nat) - 1/\x.f0=((min 64 (l.length - i * 64):Nat):Int):=by
 obtain⟨a,ha0,ha1,hr⟩:=h.run;rw [aP6,Nat.zero_add] at hx;obtain⟨c,hc,rfl⟩:=Option.map_eq_some_iff.1 hx;have hlt:i * 64<l.length:=by have:=(List.getElem?_eq_some_iff.1 hc).1;rw [aAt] at this;exact (zZ (by decide)).2 this
 rw [aGi (by decide) hlt] at hc;cases hc;have hrc:=(hr.drop (i * 64)).take 64;have hl:((l.drop (i * 64)).take 64).length=min 64 (l.length - i * 64):=by simp
 obtain⟨e2,e3⟩:=aLa hrc (by omega) (((bV ((pcs 64 l).take i)).length:Nat):Int);obtain⟨e0,e1⟩:=aN6 ((l.drop (i * 64)).take 64) (((bV ((pcs 64 l).take i)).length:Nat):Int);exact⟨a,ha0,hr,rfl,hlt,e1,e2,by rw [e3,hl]; omega,by rw [e0,hl]⟩
theorem Seg.page_lt {i j:Nat} (hij:i<j) (hj:j<=(pcs 64 l).length):(bV ((pcs 64 l).take i)).length<(bV ((pcs 64 l).take j)).length:=by
 have e:(pcs 64 l).take j=(pcs 64 l).take i++((pcs 64 l).take j).drop i:=by have:=List.take_append_drop i ((pcs 64 l).take j);rw [List.take_take,Nat.min_eq_left (by omega)] at this;exact this.symm
 rw [e,aDp,List.length_append];have hc:∀ c∈((pcs 64 l).take j).drop i,Cut k c:=λc hc=>h.cut c (List.mem_of_mem_take (List.mem_of_mem_drop hc));obtain⟨p1,p2,p3⟩:=aC3 h.k8 hc;have:((pcs 64 l).take j).drop i≠[]:=by intro e;have:=congrArg List.length e;simp at this;omega
 have:=List.length_pos_iff.2 this;omega
theorem aUm {Pg:List Int} (hPg:Pg.length=(bV (pcs 64 l)).length):kK ⟨Pg,0,[]⟩ ⟨uJ k.toNat (fG (pcs 64 l) 0)⟩=some (.inl (⟨Pg,k,fG (pcs 64 l) 0⟩,⟨[]⟩)):=by
 obtain⟨n1,n2⟩:=h.num;obtain⟨c1,c2,c3,c4,c5⟩:=h.cks;obtain⟨f1,f2⟩:=h.foot;have hk1:=h.k1;have hk8:=h.k8;have hn:=aAj (pcs 64 l) 0;unfold uJ at f2 f1 ⊢;unfold kK;rw [rdU (by omega) (by omega) f2];simp only [Option.bind_some,iA,lt_];rw [show ((k.toNat:Nat):Int)=k by omega,w64 (n:=k) (by omega) (by omega),rdU (by omega) (by omega) f2.r];simp only [Option.bind_some,iA];rw [if_pos (by simp only [decide_eq_true_eq]; omega),show decide (0<(((fG (pcs 64 l) 0).length:Nat):Int))=true by simp only [decide_eq_true_eq]; omega,mN];simp only [Option.bind_some,iA];have hB:=f2.r.r;have hfl:((fG (pcs 64 l) 0).flatMap ckB).length<=2400:=by simp only [List.length_append] at f1; omega
 have hok:∀ x∈fG (pcs 64 l) 0,x.f1<=(Pg.length:Int):=λx hx=>by have:=(aN4 hk8 h.cut x hx).2.1;omega
 have hat:=λ{i x}=>h.at_ (i:=i) (x:=x);have hlt:=λ{i j}=>h.page_lt (i:=i) (j:=j);generalize hY:(((((fG (pcs 64 l) 0).length:Nat):Int)),(⟨(fG (pcs 64 l) 0).flatMap ckB⟩:S140))=Y;have hY1:Y.1=(((fG (pcs 64 l) 0).length:Nat):Int):=by rw [← hY]
 unfold iG;generalize fG (pcs 64 l) 0=cks at *;have hk:=kD (b:=λs:List S90×List Int×Int=>cP ⟨Pg,0,[]⟩ k Y s.1 s.2.1 s.2.2) (λi=>(cks.take i,(cks.drop i).flatMap ckB,(i:Int)))
  (t:=.inl (cks,[])) cks.length (λi hi=>by
   have hx:=List.getElem?_eq_getElem (l:=cks) (i:=i) hi;obtain⟨a,ha0,ha1,ha2,ha3,ha4,ha5,ha6,ha7⟩:=hat hx;have hd:cks.drop i=cks[i]::cks.drop (i+1):=List.drop_eq_getElem_cons hi;have hsub:(cks.flatMap ckB)=(cks.take i).flatMap ckB++(ckB cks[i]++(cks.drop (i+1)).flatMap ckB):=by rw [← List.flatMap_cons, ← hd, ← List.flatMap_append,List.take_append_drop]
   have hfl':=hfl;rw [hsub] at hB hfl';simp only [List.length_append] at hfl';have hm:=List.getElem_mem hi;show cP _ k Y (cks.take i) ((cks.drop i).flatMap ckB) (i:Int)=_;rw [hd,List.flatMap_cons];rw [aRg (c1 _ hm).1 (hok _ hm) (by show Pg.length<=_; omega) (by omega) hB.r (by rw [hY1]; omega) (by omega) (by simp; omega) (λe=>by subst e; rw [ha4]; simp [bV]) (λhpos=>by
    have hp:=List.getElem?_eq_getElem (l:=cks) (i:=i - 1) (by omega);obtain⟨b,hb0,hb1,hb2,hb3,hb4,hb5,hb6,hb7⟩:=hat hp;have hab:a=b:=by have q1:=ha1.of 0 _ (List.getElem?_eq_getElem (by omega));have q2:=hb1.of 0 _ (List.getElem?_eq_getElem (by omega));omega
    refine⟨_,by rw [List.getElem?_take,if_pos (by omega)]; exact hp,by rw [ha5,hb6,hab]; omega,?_⟩;rw [ha4,hb4];have:=hlt (i:=i - 1) (j:=i) (by omega) (by omega);omega),List.take_add_one,hx]
   rfl) (by
   show cP _ k Y _ _ ((cks.length:Nat):Int)=_;unfold cP;rw [if_neg (by simp only [decide_eq_true_eq]; omega),List.take_length,List.drop_length];rfl)
 rw [show (([]:List S90),cks.flatMap ckB,(0:Int))=(cks.take 0,(cks.drop 0).flatMap ckB,((0:Nat):Int)) by simp,hk];rfl
end
theorem aK2 {a b:Nat} (ha:a<4294967296) (hb:b<4294967296):ior .i64 (a:Int) (b:Int)=((a ||| b:Nat):Int):=by unfold ior;rw [fB,fB];have h:a ||| b<2 ^ 32:=Nat.or_lt_two_pow (show a<2 ^ 32 by omega) (show b<2 ^ 32 by omega);simp only [BitVec.toNat_or,BitVec.toNat_ofNat,show IntKind.i64.bits=64 from rfl];rw [Nat.mod_eq_of_lt (show a<2 ^ 64 by omega),Nat.mod_eq_of_lt (show b<2 ^ 64 by omega),w64 (by omega) (by omega)]
theorem aH9 {a n:Nat} (hn:n<=24) (ha:a<256):wD .i64 (a:Int) (n:Int)=((a * 2 ^ n:Nat):Int):=by have h1:2 ^ n<=2 ^ 24:=Nat.pow_le_pow_right (by decide) hn;have h2:a * 2 ^ n<=255 * 2 ^ 24:=Nat.mul_le_mul (by omega) h1;unfold wD;rw [show min ((n:Int).toNat) IntKind.i64.bits=n from by rw [Int.toNat_natCast,show IntKind.i64.bits=64 from rfl]; omega,aEm];rw [show (a:Int) * ((2 ^ n:Nat):Int)=((a * 2 ^ n:Nat):Int) from rfl,w64 (by omega) (by omega)]
theorem aUw {n:Nat} (h:n<4294967296):ior .i64 (ior .i64 (ior .i64 ((n % 256:Nat):Int) (wD .i64 ((n / 256 % 256:Nat):Int) 8)) (wD .i64 ((n / 65536 % 256:Nat):Int) 16)) (wD .i64 ((n / 16777216 % 256:Nat):Int) 24)=(n:Int):=by have e1:=aH9 (a:=n / 256 % 256) (n:=8) (by decide) (by omega);have e2:=aH9 (a:=n / 65536 % 256) (n:=16) (by decide) (by omega);have e3:=aH9 (a:=n / 16777216 % 256) (n:=24) (by decide) (by omega);rw [show ((8:Nat):Int)=8 from rfl] at e1;rw [show ((16:Nat):Int)=16 from rfl] at e2;rw [show ((24:Nat):Int)=24 from rfl] at e3;have p8:(2:Nat) ^ 8=256:=rfl;have z:(2:Nat) ^ 16=65536:=rfl;have C:(2:Nat) ^ 24=16777216:=rfl;have o1:n % 256 ||| n / 256 % 256 * 2 ^ 8=n % 256+n / 256 % 256 * 2 ^ 8:=aBa (by omega) _;rw [e1,e2,e3,aK2 (by omega) (by omega),o1];have o2:n % 256+n / 256 % 256 * 2 ^ 8 ||| n / 65536 % 256 * 2 ^ 16=n % 256+n / 256 % 256 * 2 ^ 8+n / 65536 % 256 * 2 ^ 16:=aBa (by omega) _;rw [aK2 (by omega) (by omega),o2];have o3:n % 256+n / 256 % 256 * 2 ^ 8+n / 65536 % 256 * 2 ^ 16 ||| n / 16777216 % 256 * 2 ^ 24=n % 256+n / 256 % 256 * 2 ^ 8+n / 65536 % 256 * 2 ^ 16+n / 16777216 % 256 * 2 ^ 24:=aBa (by omega) _;rw [aK2 (by omega) (by omega),o3];omega
def yB (l:List S61) (k:Int):S128:=⟨bV (pcs 64 l),k,fG (pcs 64 l) 0⟩
section
variable {k:Int} {l:List S61} (h:Seg k l)
include h
theorem Seg.bytes:Bs (wZ l k.toNat)/\(wZ l k.toNat).length=(bV (pcs 64 l)).length+(uJ k.toNat (fG (pcs 64 l) 0)).length+22:=by obtain⟨c1,c2,c3,c4,c5⟩:=h.cks;obtain⟨f1,f2⟩:=h.foot;have e1:=sF 102 (uJ k.toNat (fG (pcs 64 l) 0));have e2:=sF 116 (pJ (bV (pcs 64 l)).length);rw [qJ] at e2;unfold wZ;exact⟨(c5.app (aB0 (by decide) f2)).app (aB0 (by decide) (aEo _)),by simp only [List.length_append]; omega⟩
theorem aOx:sC (wZ l k.toNat)=some (some (yB l k),0):=by
 obtain⟨c1,c2,c3,c4,c5⟩:=h.cks;obtain⟨f1,f2⟩:=h.foot;obtain⟨b1,b2⟩:=h.bytes;have e1:=sF 102 (uJ k.toNat (fG (pcs 64 l) 0));have e2:=sF 116 (pJ (bV (pcs 64 l)).length);rw [qJ] at e2;have r1:=aAr (p:=bV (pcs 64 l)++jQ 102 (uJ k.toNat (fG (pcs 64 l) 0))) (b:=pJ (bV (pcs 64 l)).length) (q:=[]) (kind:=116) (by simp [qJ]);have r2:=aAr (p:=bV (pcs 64 l)) (b:=uJ k.toNat (fG (pcs 64 l) 0)) (q:=jQ 116 (pJ (bV (pcs 64 l)).length)) (kind:=102) (by omega);rw [List.append_nil,show bV (pcs 64 l)++jQ 102 (uJ k.toNat (fG (pcs 64 l) 0))++jQ 116 (pJ (bV (pcs 64 l)).length)=wZ l k.toNat from rfl] at r1;rw [show bV (pcs 64 l)++jQ 102 (uJ k.toNat (fG (pcs 64 l) 0))++jQ 116 (pJ (bV (pcs 64 l)).length)=wZ l k.toNat from rfl] at r2;have hft:=aUm h (Pg:=bV (pcs 64 l)) rfl;have htk:(wZ l k.toNat).take (bV (pcs 64 l)).length=bV (pcs 64 l):=by unfold wZ; rw [List.append_assoc,List.take_left' rfl]
 unfold yB;rw [List.length_append] at r1;generalize wZ l k.toNat=B at *;generalize uJ k.toNat (fG (pcs 64 l) 0)=Ft at *;generalize fG (pcs 64 l) 0=cks at *;generalize bV (pcs 64 l)=Pg at *;unfold sC;rw [if_neg (by simp only [decide_eq_true_eq]; omega)];simp only [lt_];rw [w64 (n:=(B.length:Int) - 13) (by omega) (by omega),show (B.length:Int) - 13=((Pg.length+(jQ 102 Ft).length:Nat):Int) by omega,xD b1 (by omega),r1];simp only [Option.bind_some];rw [if_neg (by simp),if_neg (by simp),if_neg (by rw [qJ]; simp)];unfold nD;rw [if_neg (by simp only [bne_iff_ne,ne_eq,Decidable.not_not]; omega)];simp only [show at_ (pJ Pg.length) 0=some ((Pg.length % 256:Nat):Int) from rfl,show at_ (pJ Pg.length) 1=some ((Pg.length / 256 % 256:Nat):Int) from rfl,show at_ (pJ Pg.length) 2=some ((Pg.length / 65536 % 256:Nat):Int) from rfl,show at_ (pJ Pg.length) 3=some ((Pg.length / 16777216 % 256:Nat):Int) from rfl,Option.bind_some,lt_];rw [w64 (n:=((Pg.length % 256:Nat):Int)) (by omega) (by omega),w64 (n:=((Pg.length / 256 % 256:Nat):Int)) (by omega) (by omega),w64 (n:=((Pg.length / 65536 % 256:Nat):Int)) (by omega) (by omega),w64 (n:=((Pg.length / 16777216 % 256:Nat):Int)) (by omega) (by omega),aUw (by omega)];rw [w64 (n:=(B.length:Int) - 13) (by omega) (by omega),if_neg (by simp only [decide_eq_true_eq]; omega),xD b1 (by omega),r2];simp only [Option.bind_some];have hcut:=sE (xs:=B) (l:=0) (u:=Pg.length) (by omega) (by omega);rw [htk,List.drop_zero,show ((0:Nat):Int)=0 from rfl] at hcut;rw [if_neg (by simp),hcut];simp only [Option.bind_some];rw [aFx (by omega)];simp only [Option.bind_some];rw [if_neg (by simp),if_neg (by simp only [bne_iff_ne,ne_eq,Decidable.not_not]; omega)];unfold oD;rw [hft];rfl
theorem bBz:WL k l=(wZ l k.toNat,0):=by
 obtain⟨a,ha0,ha1,hr⟩:=h.run;have h1:=h.k1;have h2:=h.k8;have h3:=h.ps;have h4:=h.le;unfold WL;rw [if_neg (by omega),if_neg (by omega)];have hx:=List.getElem?_eq_getElem (l:=l) (i:=0) (by omega);have e:(l.head?.map (·.f0) |>.getD 0)=a:=by rw [List.head?_eq_getElem?,hx];have:=hr.of 0 _ hx;simp at this ⊢;exact this
 rw [e,aL3 (by simpa using hr)]
end
def aB9 (n:Nat):List S61:=(List.range n).map λi:Nat=>⟨(i:Int),0,(i:Int),[],0⟩
theorem aH2 {n i:Nat} {x:S61} (h:(aB9 n)[i]?=some x):x=⟨(i:Int),0,(i:Int),[],0⟩/\i<n:=by unfold aB9 at h;rw [List.getElem?_map] at h;obtain⟨j,hj,rfl⟩:=Option.map_eq_some_iff.1 h;obtain⟨hlt,rfl⟩:=List.getElem?_eq_some_iff.1 hj;rw [List.getElem_range];exact⟨rfl,by simpa using hlt⟩
theorem Run.seg {k f:Int} {m:List S61} (h:Run k f m) (hk:1<=k/\k<=8) (hf:0<=f/\f<=4294967296) (h0:0<m.length) (hl:m.length<=150):Seg k m :=
 ⟨hk.1,hk.2,h0,by omega,f,hf.1,by omega,h⟩
def kO (f:S26) (e:S61):Bool:=decide (f.f0<=e.f0)&&(decide (e.f0<f.f1)&&(decide (f.f2<=e.f2)&&decide (e.f2<=f.f3)))
def vJ (f:S26) (c:S90):Bool:=decide (f.f0<f.f1)&&(decide (f.f0<=c.f3)&&(decide (c.f2<f.f1)&&(decide (f.f2<=f.f3)&&(decide (f.f2<=c.f5)&&decide (c.f4<=f.f3)))))
theorem aS4 (f:S26) (e:S61):kR f e=some (kO f e):=by unfold kR kO;cases decide (f.f0<=e.f0) <;> cases decide (e.f0<f.f1) <;> cases decide (f.f2<=e.f2) <;> rfl
theorem aRj (f:S26) (c:S90):jV f c=some (vJ f c):=by unfold jV vJ;cases decide (f.f0<f.f1) <;> cases decide (f.f0<=c.f3) <;> cases decide (c.f2<f.f1) <;> cases decide (f.f2<=f.f3) <;> cases decide (f.f2<=c.f5) <;> rfl
theorem aRx (l:List S61) (p:Int):∀ e∈l,(ckL l p).f2<=e.f0/\e.f0<=(ckL l p).f3/\(ckL l p).f4<=e.f2/\e.f2<=(ckL l p).f5:=λe he=>by
 cases l with
 | nil=>cases he
 | cons x r =>
  obtain⟨⟨_,a2⟩,⟨_,b2⟩,⟨_,c2⟩,_,d2⟩:=aJ2 (x::r) (ck0 (x::r) p x);exact⟨a2 e he,b2 e he,c2 e he,d2 e he⟩
theorem aMd {f:S26} {l:List S61} {p:Int} (h:vJ f (ckL l p)=false):l.filter (kO f)=[]:=by
 rw [List.filter_eq_nil_iff];intro e he hw;obtain⟨b1,b2,b3,b4⟩:=aRx l p e he;unfold kO at hw;simp only [Bool.and_eq_true,decide_eq_true_eq] at hw;have:vJ f (ckL l p)=true:=by unfold vJ;simp only [Bool.and_eq_true,decide_eq_true_eq];omega
 rw [h] at this;cases this
theorem aG8 (l:List S61) (p:Int):ckL (l.map dN) p=ckL l p:=by
 have key:∀ (l:List S61) (c:S90),(l.map dN).foldl ckF c=l.foldl ckF c:=by
  intro l
  induction l with
  | nil=>intro c; rfl
  | cons e l ih=>intro c; exact ih (ckF c e)
 cases l with
 | nil=>rfl
 | cons e r =>
  show ((e::r).map dN).foldl ckF (ck0 ((e::r).map dN) p (dN e))=_;rw [key,show ck0 ((e::r).map dN) p (dN e)=ck0 (e::r) p e from by unfold ck0; rw [List.length_map]; rfl];rfl
theorem aRu (c:S90):aIq c c=true:=by unfold aIq;simp
theorem aFs (f:S26) (l:List S61):(l.map dN).filter (kO f)=(l.filter (kO f)).map dN:=by rw [List.filter_map]; rfl
section
variable {k:Int} {l:List S61} (h:Seg k l) (f:S26)
include h
theorem aSl {c:S90} {Y:List S61×Int×Int} {m:List S61} {a:Int} (hY:Y.1=m.map dN) (hm:Run k a m) (ha:0<=a/\a+m.length<=1099511627776) (hl:m.length<=64) (hc:c.f2=a) (out:List S61) (ho:out.length<=1024) :
  loop (λs:List S61×Int=>cW f c Y s.1 s.2) (out,0)=some (.inl (out++(m.map dN).filter (kO f))):=by
 have hb:∀ j,((m.map dN).take j |>.filter (kO f)).length<=64:=λj=>by have:=List.length_filter_le (kO f) ((m.map dN).take j);simp at this ⊢;omega
 have hk:=kD (b:=λs:List S61×Int=>cW f c Y s.1 s.2) (λj=>(out++((m.map dN).take j).filter (kO f),(j:Int))) (t:=.inl (out++(m.map dN).filter (kO f))) m.length (λj hj=>by
  have hx:(m.map dN)[j]?=some (dN m[j]):=by rw [List.getElem?_map,List.getElem?_eq_getElem hj]; rfl
  have ho':=hm.of j _ (List.getElem?_eq_getElem hj);have hbj:=hb j;show cW f c Y (out++((m.map dN).take j).filter (kO f)) (j:Int)=_;unfold cW;rw [hY,if_pos (by simp only [decide_eq_true_eq,List.length_map]; omega),bG rfl hx];simp only [Option.bind_some,lt_];rw [nO (n:=(j:Int)) (by omega) (by omega),hc,nO (n:=a+(j:Int)) (by omega) (by omega),if_neg (by simp only [bne_iff_ne,ne_eq,Decidable.not_not]; exact ho'),aS4];simp only [Option.bind_some];rw [List.take_add_one,hx,List.filter_append];simp only [Option.toList_some];cases hw:kO f (dN m[j]) with
  | true =>
   rw [if_pos rfl,bM (by simp only [List.length_append,List.length_cons,List.length_nil]; omega)];unfold fO;rw [lt_,w64 (by omega) (by omega),List.filter_cons_of_pos hw,List.filter_nil,List.append_assoc];rfl
  | false =>
   rw [if_neg (by simp)];unfold fO;rw [lt_,w64 (by omega) (by omega),List.filter_cons_of_neg (by rw [hw]; simp),List.filter_nil,List.append_nil];rfl) (by
  show cW f c Y _ ((m.length:Nat):Int)=_;unfold cW;rw [hY,if_neg (by simp),List.take_of_length_le (by simp)])
 rw [show (out,(0:Int))=(out++((m.map dN).take 0).filter (kO f),((0:Nat):Int)) by simp,hk]
theorem aWa:kU (some (yB l k)) f=some ((l.filter (kO f)).map dN,(((fG (pcs 64 l) 0).countP (vJ f):Nat):Int),0):=by
 obtain⟨n1,n2⟩:=h.num;obtain⟨c1,c2,c3,c4,c5⟩:=h.cks;have hk8:=h.k8;have hle:=h.le;have hat:=λ{i x}=>h.at_ (i:=i) (x:=x);have hn:=aAj (pcs 64 l) 0;obtain⟨a,ha0,ha1,hr⟩:=h.run;have hlen:(pcs 64 l).length=(l.length+64 - 1) / 64:=aAt;unfold kU;simp only;have hk:=kD (b:=λs:List S61×Int×Int=>dJ f (yB l k) s.1 s.2.1 s.2.2) (λi=>(((l.take (i * 64)).map dN).filter (kO f),((((fG (pcs 64 l) 0).take i).countP (vJ f):Nat):Int),(i:Int)))
  (t:=.inl ((l.map dN).filter (kO f),(((fG (pcs 64 l) 0).countP (vJ f):Nat):Int))) (pcs 64 l).length (λi hi=>by
   have hx:=List.getElem?_eq_getElem (l:=fG (pcs 64 l) 0) (i:=i) (by omega);obtain⟨a',q0,q1,q2,q3,q4,q5,q6,q7⟩:=hat hx;have haa:a=a':=by have w1:=hr.of 0 _ (List.getElem?_eq_getElem (by omega));have w2:=q1.of 0 _ (List.getElem?_eq_getElem (by omega));omega
   subst haa;have hpc:=aGi (q:=64) (by decide) q3;have hcut:=h.cut _ (List.mem_of_getElem? hpc);have hrc:=(hr.drop (i * 64)).take 64;have htk:l.take ((i+1) * 64)=l.take (i * 64)++(l.drop (i * 64)).take 64:=by rw [Nat.add_mul,Nat.one_mul,List.take_add]
   have hcl:((l.drop (i * 64)).take 64).length=min 64 (l.length - i * 64):=by simp
   have hcnt:((fG (pcs 64 l) 0).take i).countP (vJ f)<=16:=by have:=List.countP_le_length (p:=vJ f) (l:=(fG (pcs 64 l) 0).take i);simp at this;omega
   have hof:(((l.take (i * 64)).map dN).filter (kO f)).length<=1024:=by have:=List.length_filter_le (kO f) ((l.take (i * 64)).map dN);simp at this ⊢;omega
   have hcs:((fG (pcs 64 l) 0).take (i+1))=(fG (pcs 64 l) 0).take i++[(fG (pcs 64 l) 0)[i]'(by omega)]:=by rw [List.take_add_one,hx]; rfl
   show dJ f (yB l k) (((l.take (i * 64)).map dN).filter (kO f)) ((((fG (pcs 64 l) 0).take i).countP (vJ f):Nat):Int) (i:Int)=_;rw [htk,hcs,List.map_append,List.filter_append,List.countP_append];generalize ((l.take (i * 64)).map dN).filter (kO f)=out at hof ⊢;generalize hn':((fG (pcs 64 l) 0).take i).countP (vJ f)=n' at hcnt ⊢;generalize hcc:(fG (pcs 64 l) 0)[i]'(by omega)=c at q2 q4 q5 q6 q7 hx ⊢;unfold dJ;rw [show (yB l k).f2=fG (pcs 64 l) 0 from rfl,if_pos (by simp only [decide_eq_true_eq]; omega),bG rfl hx];simp only [Option.bind_some];rw [aRj];simp only [Option.bind_some];cases hmay:vJ f c with
   | false =>
    rw [if_pos (show (!false)=true from rfl)];have hnil:((l.drop (i * 64)).take 64).filter (kO f)=[]:=aMd (p:=(((bV ((pcs 64 l).take i)).length:Nat):Int)) (by rw [← q2]; exact hmay);rw [aFs,hnil];unfold fN;rw [lt_,w64 (by omega) (by omega)];simp [hmay]
   | true =>
    rw [if_neg (by simp)];simp only [lt_];rw [w64 (n:=((n':Nat):Int)+1) (by omega) (by omega),w64 (n:=(i:Int)+1) (by omega) (by omega)];have hsplit:bV (pcs 64 l)=bV ((pcs 64 l).take i)++pgL ((l.drop (i * 64)).take 64)++bV ((pcs 64 l).drop (i+1)):=by
     have:=List.take_append_drop i (pcs 64 l);rw [List.drop_eq_getElem_cons (by omega)] at this;rw [List.getElem?_eq_getElem (by omega)] at hpc;rw [Option.some.inj hpc] at this
     conv=>lhs; rw [← this,aDp]
     rw [List.append_assoc];rfl
    have hend:∀ e:Int,e=(((bV ((pcs 64 l).take i)).length+(pgL ((l.drop (i * 64)).take 64)).length:Nat):Int) ->
      fQ f (yB l k) out (i:Int) c (((n':Nat):Int)+1) e=some (.inl (out++(((l.drop (i * 64)).take 64).map dN).filter (kO f),((n':Nat):Int)+1,((i+1:Nat):Int))):=by
     intro e he;unfold fQ;rw [show (yB l k).f0=bV (pcs 64 l) from rfl,show (yB l k).f1=k from rfl,aIt c5 (by omega),q4];have hev:=aTv (l:=(l.drop (i * 64)).take 64) (by omega) (hrc.laid hk8) k (bV ((pcs 64 l).take i)) (bV ((pcs 64 l).drop (i+1)));rw [show jQ 101 (yT ((l.drop (i * 64)).take 64))=pgL ((l.drop (i * 64)).take 64) from rfl, ← hsplit,if_pos (List.all_eq_true.2 hrc.fm)] at hev;rw [hev];simp only [Option.bind_some];rw [if_pos (by rfl),if_neg (by simp only [bne_iff_ne,ne_eq,Decidable.not_not]; exact he.symm),if_neg (by simp only [bne_iff_ne,ne_eq,Decidable.not_not,List.length_map]; rw [hcl,q7]),aMt (by rw [List.length_map]; exact hcut.ps) (by rw [List.length_map]; omega),aG8, ← q2];simp only [Option.bind_some,aRu];unfold eJ;rw [if_neg (by simp)];unfold iH;rw [if_neg (by simp),aSl h f (m:=(l.drop (i * 64)).take 64) rfl hrc (by omega) (by omega) q5 out (by omega)];simp only [Option.bind_some];unfold jK lA fN;rw [lt_,w64 (by omega) (by omega)];rfl
    have hcnt1:((n'+[c].countP (vJ f):Nat):Int)=((n':Nat):Int)+1:=by rw [List.countP_cons_of_pos hmay]; simp
    by_cases hlast:i+1<(pcs 64 l).length
    ·have hx2:=List.getElem?_eq_getElem (l:=fG (pcs 64 l) 0) (i:=i+1) (by omega);obtain⟨_,_,_,_,_,p4,_⟩:=hat hx2;rw [if_pos (by simp only [decide_eq_true_eq]; omega),bG (n:=i+1) (by omega) hx2];simp only [Option.bind_some];rw [hend _ (by rw [p4,List.take_add_one,hpc,Option.toList_some,aDp,List.length_append]; simp [bV]),hcnt1]
    ·rw [if_neg (by simp only [decide_eq_true_eq]; omega),hend _ (by
      rw [show (yB l k).f0=bV (pcs 64 l) from rfl,hsplit,List.drop_of_length_le (l:=pcs 64 l) (i:=i+1) (by omega)];simp [bV]),hcnt1]) (by
   show dJ f (yB l k) _ _ (((pcs 64 l).length:Nat):Int)=_;unfold dJ;rw [show (yB l k).f2=fG (pcs 64 l) 0 from rfl,if_neg (by simp only [decide_eq_true_eq]; omega),List.take_of_length_le (l:=l) (by omega),List.take_of_length_le (l:=fG (pcs 64 l) 0) (by omega)])
 rw [show (([]:List S61),(0:Int),(0:Int))=(((l.take (0 * 64)).map dN).filter (kO f),((((fG (pcs 64 l) 0).take 0).countP (vJ f):Nat):Int),((0:Nat):Int)) by simp,hk];simp only [Option.bind_some];rw [aFs];rfl
end
section
variable (f:S26)
end
theorem aMm {k f:Int} {m:List S61} (h:Seg k m) (hr:Run k f m) (hf:0<=f/\f<=4294967296):gX (some (yB m k))=some (f,f+m.length):=by
 obtain⟨n1,n2⟩:=h.num;have hle:=h.le;have hps:=h.ps;have hn:=aAj (pcs 64 m) 0;have hlen:(pcs 64 m).length=(m.length+64 - 1) / 64:=aAt;have hx:=List.getElem?_eq_getElem (l:=fG (pcs 64 m) 0) (i:=0) (by omega);have hy:=List.getElem?_eq_getElem (l:=fG (pcs 64 m) 0) (i:=(fG (pcs 64 m) 0).length - 1) (by omega);obtain⟨a,q0,q1,q2,q3,q4,q5,q6,q7⟩:=h.at_ hx;obtain⟨b,p0,p1,p2,p3,p4,p5,p6,p7⟩:=h.at_ hy;have w:=List.getElem?_eq_getElem (l:=m) (i:=0) hps;have e1:=q1.of 0 _ w;have e2:=p1.of 0 _ w;have e3:=hr.of 0 _ w;unfold gX;simp only;rw [show (yB m k).f2=fG (pcs 64 m) 0 from rfl,show at_ (fG (pcs 64 m) 0) 0=_ from bG (n:=0) rfl hx];simp only [Option.bind_some,lt_];rw [w64 (by omega) (by omega),bG (n:=(fG (pcs 64 m) 0).length - 1) (by omega) hy];simp only [Option.bind_some];rw [nO (by omega) (by omega),q5,p6];have:f+(m.length:Int)=b+((min m.length (((fG (pcs 64 m) 0).length - 1) * 64+64):Nat):Int) - 1+1:=by omega
 rw [this,show a+((0 * 64:Nat):Int)=f by omega]
theorem aJo {l:List S61} {f:S26} (h:∀ e∈l,kO f e=false):l.filter (kO f)=[]:=by rw [List.filter_eq_nil_iff];intro e he;rw [h e he];simp
def aBk:List Int->Nat
 | []=>0
 | x::r=>x.toNat+256 * aBk r
theorem aP9:∀ {xs:List Int},Bs xs->aBk xs<2 ^ (8 * xs.length)
 | [],_=>by simp [aBk]
 | x::r,h=>by obtain⟨h1,h2⟩:=h.cons;have ih:=aP9 h2;rw [List.length_cons,show 8 * (r.length+1)=8+8 * r.length by omega,Nat.pow_add,show (2:Nat) ^ 8=256 from rfl];show x.toNat+256 * aBk r<_;omega
theorem aLz:∀ (a b:List Int),aBk (a++b)=aBk a+2 ^ (8 * a.length) * aBk b
 | [],b=>by simp [aBk]
 | x::a,b=>by show x.toNat+256 * aBk (a++b)=x.toNat+256 * aBk a+_;rw [aLz a b,List.length_cons,show 8 * (a.length+1)=8+8 * a.length by omega,Nat.pow_add,show (2:Nat) ^ 8=256 from rfl,Nat.mul_add,Nat.mul_assoc,Nat.add_assoc]
theorem aAp {xs:List Int} (h:Bs xs) {o:Nat} (ho:o<=xs.length):aBk (xs.drop o)=aBk xs / 2 ^ (8 * o)/\aBk (xs.take o)=aBk xs % 2 ^ (8 * o):=by
 have e:=aLz (xs.take o) (xs.drop o);have hl:(xs.take o).length=o:=by simp; omega
 have hlt:=aP9 (h.take o);rw [List.take_append_drop,hl] at e;rw [hl] at hlt;rw [e];exact⟨by rw [Nat.add_mul_div_left _ _ (Nat.two_pow_pos _),Nat.div_eq_of_lt hlt,Nat.zero_add],by rw [Nat.add_mul_mod_self_left,Nat.mod_eq_of_lt hlt]⟩
def Burst (D:Nat):Prop:=∃ k w:Nat,D=2 ^ k * w/\w<4294967296
theorem Burst.div {D:Nat} (h:Burst D) (j:Nat):Burst (D / 2 ^ j):=by
 obtain⟨k,w,rfl,hw⟩:=h;rcases Nat.le_total j k with hj | hj
 ·refine⟨k - j,w,?_,hw⟩;rw [show k=j+(k - j) by omega,Nat.pow_add,Nat.mul_assoc,Nat.mul_div_cancel_left _ (Nat.two_pow_pos j),Nat.add_sub_cancel_left]
 ·refine⟨0,w / 2 ^ (j - k),?_,Nat.lt_of_le_of_lt (Nat.div_le_self _ _) hw⟩;rw [show j=k+(j - k) by omega,Nat.pow_add,Nat.mul_div_mul_left _ _ (Nat.two_pow_pos k),Nat.add_sub_cancel_left,Nat.pow_zero,Nat.one_mul]
theorem Burst.mod {D:Nat} (h:Burst D) (j:Nat):Burst (D % 2 ^ j):=by
 obtain⟨k,w,rfl,hw⟩:=h;rcases Nat.le_total k j with hj | hj
 ·refine⟨k,w % 2 ^ (j - k),?_,Nat.lt_of_le_of_lt (Nat.mod_le _ _) hw⟩;rw [show j=k+(j - k) by omega,Nat.pow_add,Nat.mul_mod_mul_left,Nat.add_sub_cancel_left]
 ·refine⟨0,0,?_,by decide⟩;rw [show k=j+(k - j) by omega,Nat.pow_add,Nat.mul_assoc,Nat.mul_mod_right]
theorem Burst.part {A B:List Int} (hA:Bs A) (hB:Bs B) (hl:A.length=B.length) (h:Burst (aBk A ^^^ aBk B)) (o n:Nat) (ho:o+n<=A.length):Burst (aBk ((A.drop o).take n) ^^^ aBk ((B.drop o).take n)):=by have a1:=(aAp hA (o:=o) (by omega)).1;have b1:=(aAp hB (o:=o) (by omega)).1;have a2:=(aAp (hA.drop o) (o:=n) (by simp; omega)).2;have b2:=(aAp (hB.drop o) (o:=n) (by simp; omega)).2;rw [a2,b2,a1,b1, ← Nat.xor_mod_two_pow, ← Nat.xor_div_two_pow];exact (h.div _).mod _
section
variable {p:List Int} {k a2:Nat}
end
section
variable {k:Int} {l:List S61} (h:Seg k l)
include h
end
section
variable {k:Int} {l:List S61} (h:Seg k l)
include h
end
theorem aZj {kind:Int} {b:List Int} (hk:0<=kind/\kind<256) (hB:Bs b) (hb:b.length<=1048576):aCk (jQ kind b) kind=some (b,0):=by
  have h1:sH (jQ kind b) 0=some (kind,b,((jQ kind b).length:Int),0):=by have h2:=xD (b:=jQ kind b) (a:=0) (aB0 hk hB) (by rw [sF]; omega);have h3:=aAr (p:=[]) (q:=[]) (kind:=kind) hb;rw [List.nil_append,List.append_nil] at h3;rw [h2];congr 1;refine h3.trans ?_;simp
  unfold aCk;rw [h1];simp only [Option.bind_some];rw [if_pos (by simp),if_neg (by simp)];unfold tX;rw [if_neg (by simp)];unfold wI;rw [if_neg (by simp)]
theorem IsR.of {ρ:Type} {o:Option ((ρ×S140)⊕S140)} {a:ρ} {r:List Int} (h:IsR o (some (a,r))):o=some (.inl (a,⟨r⟩)):=by
  rcases h.cases with ⟨a',r',e,e2⟩ | ⟨e,_⟩
  · cases e; exact e2
  · cases e
section
end
theorem aK6 {f:List UInt8} (h:sV f=true):f.length<=32:=by unfold sV at h;simp only [Bool.and_eq_true,decide_eq_true_eq] at h;exact h.2
def Kp (s s':S77):Prop:=s'.f1=s.f1/\(s.f2=0->s.f3=false->s'.f2=0/\s'.f3=false)
theorem Kp.refl (s:S77):Kp s s:=⟨rfl,λa b=>⟨a,b⟩⟩
theorem Kp.trans {a b c:S77} (h:Kp a b) (h':Kp b c):Kp a c:=⟨h'.1.trans h.1,λx y=>h'.2 (h.2 x y).1 (h.2 x y).2⟩
theorem Kp.off {s s':S77} (h:Kp s s') (h2:s.f2=0) (h3:s.f3=false) (h':s'.f3=true):False:=by have:=(h.2 h2 h3).2;rw [h'] at this; cases this
theorem aK1 (s:S77) (l:List S98):Kp s { step s with f0:=l }:=by refine⟨rfl,λh2 h3=>?_⟩;unfold step;rw [h2,h3];exact⟨rfl,rfl⟩
theorem zD {s:S77} {n:List UInt8} (hn:sV n=true) (h:s.f3=false):tZ s n=0:=by unfold tZ; rw [if_pos hn,h]; rfl
theorem aT3 {kk:Nat} {s:S77} (h:SI kk s) {n:List UInt8} {x:S98} (hx:get s.f0 n=some x):sV n=true:=by obtain⟨h1,rfl⟩:=tI hx;exact h.form x h1
theorem aG9 {kk:Nat} {s:S77} (h:SI kk s) (hon:s.f3=false) {n:List UInt8} {x:S98} (hx:get s.f0 n=some x) (f:S98->List S98) :
    Kp s (aBt s n f).2/\(((aBt s n f).1=0/\(aBt s n f).2.f3=false/\(aBt s n f).2.f0=f x)\/((aBt s n f).1=9/\(aBt s n f).2.f3=true/\(aBt s n f).2.f0=s.f0)):=by
  unfold aBt;rw [if_pos (zD (aT3 h hx) hon),hx];dsimp only;split
  · rename_i c
    exact⟨aK1 s s.f0,.inr ⟨rfl,c,rfl⟩⟩
  · rename_i c
    exact⟨aK1 s (f x),.inl ⟨rfl,by simpa using c,rfl⟩⟩
theorem aT9 {kk:Nat} {s:S77} (h:SI kk s) (hon:s.f3=false) {n:List UInt8} (hn:sV n=true) (p:List Int) :
    Kp s (rF s n p).2/\(((rF s n p).1=10/\(rF s n p).2=s/\(s.f1 - used s.f0<p.length\/500<=s.f0.length)) \/
      (((rF s n p).1=0/\(rF s n p).2.f3=false\/(rF s n p).1=9/\(rF s n p).2.f3=true)/\(rF s n p).2.f0=put s.f0 ⟨n,((get s.f0 n).getD ⟨n,[],0⟩).f1++p,((get s.f0 n).getD ⟨n,[],0⟩).f2⟩)):=by
  unfold rF;rw [if_pos (zD hn hon)];split
  · rename_i c
    exact⟨Kp.refl s,.inl ⟨rfl,rfl,c.elim .inl λc=>.inr c.2⟩⟩
  · refine⟨aK1 s _,.inr ⟨?_,rfl⟩⟩
    dsimp only;split
    · rename_i c
      exact .inr ⟨rfl,c⟩
    · rename_i c
      exact .inl ⟨rfl,by simpa using c⟩
theorem aB1:∀ {l:List S98},lE l->(l.map S98.f0).Nodup
  | [],_=>List.nodup_nil
  | x::l,h=>by obtain⟨h1,h2⟩:=List.pairwise_cons.1 h;refine List.nodup_cons.2 ⟨λhm=>?_,aB1 h2⟩;obtain⟨y,hy,e⟩:=List.mem_map.1 hm;have:=h1 y hy;rw [e,yK] at this;cases this
theorem aGj:∀ {l:List S98},lE l->∀ {x:S98},x∈l->get l x.f0=some x
  | [],_,x,hx=>by cases hx
  | y::l,h,x,hx=>by
    obtain⟨h1,h2⟩:=List.pairwise_cons.1 h;rcases List.mem_cons.1 hx with rfl | hx
    · simp [get]
    · have hne:(y.f0==x.f0)=false:=by rw [beq_eq_false_iff_ne];intro e;have:=h1 x hx;rw [e,yK] at this;cases this
      have:=aGj h2 hx;unfold get at this ⊢;rw [List.find?_cons_of_neg (by simp [hne])];exact this
def aMy (f:List UInt8) (p:List Int):S98:=⟨f,p,p.length⟩
def aDr (n:Nat):List UInt8:=if n<10 then [UInt8.ofNat (48+n)] else if n<100 then [UInt8.ofNat (48+n / 10),UInt8.ofNat (48+n % 10)] else [UInt8.ofNat (48+n / 10 / 10),UInt8.ofNat (48+n / 10 % 10),UInt8.ofNat (48+n % 10)]
theorem aG2 {u:Nat} (h:u<10):Lib.decDigits u=[UInt8.ofNat (48+u)]:=by rw [Lib.decDigits,dif_pos h]
theorem aTq {u:Nat} (h:¬ u<10):Lib.decDigits u=Lib.decDigits (u / 10)++[UInt8.ofNat (48+u % 10)]:=by rw [Lib.decDigits,dif_neg h]
theorem aSb {n:Nat} (h:n<1000):Lib.itoa (n:Int)=aDr n:=by
  unfold Lib.itoa aDr;rw [if_neg (by omega),show ((n:Int)).toNat=n from rfl];by_cases h1:n<10
  · rw [if_pos h1,aG2 h1]
  · rw [if_neg h1,aTq h1]
    by_cases h2:n<100
    · rw [if_pos h2,aG2 (by omega)]; rfl
    · rw [if_neg h2,aTq (by omega),aG2 (by omega)]; rfl
theorem aEs (n:Nat):(aDr n).length<=3:=by unfold aDr; split <;> (try split) <;> simp
def bDc (l:List UInt8):Nat:=l.foldl (λa c=>10 * a+(c.toNat - 48)) 0
def preS:List UInt8:=[115,101,103,46]
def vE:List UInt8:=[99,97,116]
def rB:List UInt8:=[99,97,116,46,116,109,112]
def qH (a b:Nat):List UInt8:=((preS++aDr a)++[46])++aDr b
def wT (f:List UInt8):Bool:=decide (4<=f.length)&&(f.take 4==preS)
theorem aB6 {n:Nat} (h:n<1000):jS (n:Int) 10=some (aDr n):=by unfold jS sO;rw [bM ⟨by omega,by omega,rfl⟩,aSb h];rfl
theorem aOy {a b:Nat} (ha:a<1000) (hb:b<1000):sJ (a:Int) (b:Int)=some (qH a b):=by have h1:=aEs a;have h2:=aEs b;unfold sJ;rw [aB6 ha];simp only [Option.bind_some];rw [bM (by simp only [List.length_cons,List.length_nil,maxLen]; omega),bM (by simp only [List.length_append,List.length_cons,List.length_nil,maxLen]; omega),aB6 hb];simp only [Option.bind_some];rw [bM (by simp only [List.length_append,List.length_cons,List.length_nil,maxLen]; omega)];rfl
theorem aMu (a b:Nat):(qH a b).length<=11:=by have h1:=aEs a;have h2:=aEs b;simp only [qH,preS,List.length_append,List.length_cons,List.length_nil]; omega
theorem aPg:∀ n<1000,(aDr n).all (λc=>decide (48<=c.toNat)&&decide (c.toNat<=57))=true:=by decide +kernel
theorem aE0:∀ n<1000,bDc (aDr n)=n:=by decide +kernel
theorem aL0 {n:Nat} (h:n<1000):∀ c∈aDr n,c≠46:=by intro c hc e;have:=List.all_eq_true.1 (aPg n h) c hc;subst e;revert this;decide
theorem aJt:∀ {x y p q:List UInt8},(∀ c∈x,c≠46)->(∀ c∈y,c≠46)->x++46::p=y++46::q->x=y/\p=q
  | [],[],p,q,_,_,h=>by injection h with _ h; exact⟨rfl,h⟩
  | [],c::y,p,q,_,hy,h=>by injection h with h _; exact absurd h.symm (hy c (List.mem_cons_self ..))
  | c::x,[],p,q,hx,_,h=>by injection h with h _; exact absurd h (hx c (List.mem_cons_self ..))
  | c::x,d::y,p,q,hx,hy,h=>by injection h with h1 h2;obtain⟨e1,e2⟩:=aJt (λc hc=>hx c (List.mem_cons_of_mem _ hc)) (λc hc=>hy c (List.mem_cons_of_mem _ hc)) h2;exact⟨by rw [h1,e1],e2⟩
theorem aMo {a b c d:Nat} (ha:a<1000) (hb:b<1000) (hc:c<1000) (hd:d<1000) (h:qH a b=qH c d):a=c/\b=d:=by
  have h':aDr a++46::aDr b=aDr c++46::aDr d:=by have:=congrArg (List.drop 4) h;simpa [qH,preS] using this
  obtain⟨e1,e2⟩:=aJt (aL0 ha) (aL0 hc) h';have:=aE0 a ha;have:=aE0 b hb;rw [e1,aE0 c hc] at *;rw [e2,aE0 d hd] at *;omega
theorem aFg {a b:Nat} (ha:a<1000) (hb:b<1000):sV (qH a b)=true:=by
  have hl:=aMu a b;have hok:∀ n<1000,(aDr n).all okc=true:=λn hn=>by refine List.all_eq_true.2 λc hc=>?_;have:=List.all_eq_true.1 (aPg n hn) c hc;unfold okc;rw [this];simp
  unfold sV;rw [decide_eq_true (show (qH a b).length<=32 by omega),decide_eq_true (show 1<=(qH a b).length by simp [qH,preS])];simp only [qH,List.all_append,hok a ha,hok b hb,Bool.and_true];decide
theorem aHa:sV vE=true:=by decide
theorem aI8:sV rB=true:=by decide
theorem aC7 (a b:Nat):wT (qH a b)=true:=by simp [wT,qH,preS]
theorem aRe:wT vE=false:=by decide
theorem aQ3 (f:List UInt8) (hf:f.length<4611686018427387904):nG f preS=some (wT f):=by
  unfold nG mM wT;rw [show ((preS.length:Nat):Int)=4 from rfl];by_cases h:4<=f.length
  · rw [if_pos (by simp only [decide_eq_true_eq]; omega),show (4:Int)=((4:Nat):Int) from rfl,show (0:Int)=((0:Nat):Int) from rfl,sE (by omega) h]
    simp [h]
  · rw [if_neg (by simp only [decide_eq_true_eq]; omega)]
    simp [h]
def aBh (l:List S46):Int:=match l.getLast? with | none=>0 | some x=>x.f2
theorem aWn (c:S79) (h:c.f2.length<4611686018427387904):eV c=some (aBh c.f2,c):=by
  unfold eV aBh;rcases hc:c.f2 with _ | ⟨x,l⟩
  · rfl
  · have hpos:0<c.f2.length:=by rw [hc]; simp
    rw [← hc,if_neg (by simp only [beq_iff_eq]; omega),lt_,w64 (by omega) (by omega)];have hi:c.f2.length - 1<c.f2.length:=by omega
    have hx:c.f2[c.f2.length - 1]?=some c.f2[c.f2.length - 1]:=List.getElem?_eq_getElem hi;rw [show (c.f2.length:Int) - 1=((c.f2.length - 1:Nat):Int) by omega,bG rfl hx,List.getLast?_eq_getElem?,hx];rfl
theorem aOt (c:S79) (h:c.f2.length<=1000000):eI c=some (c.f2,c):=by
  unfold eI bH;rw [bM (by simp only [List.length_nil]; omega)];unfold tE;cases hc:c.f2 with
  | nil=>simp
  | cons x l=>rfl
theorem aM6 (l:List S46) (n:List UInt8) (hl:l.length<4611686018427387904):∀ (m i:Nat),i+m=l.length ->
    ∃ j:Int,((loop (λs:List UInt8×Int=>aJ l s.1 s.2) (n,(i:Int))).bind λt=>match t with | (.inl t)=>cF t | (.inr t)=>some t)=some (j,n)/\decide (0<=j)=(l.drop i).any (λe=>e.f0==n)
  | 0,i,hi=>by
    rw [bF (b:=λs:List UInt8×Int=>aJ l s.1 s.2) (t:=.inl n) (by
      show aJ l n (i:Int)=_;unfold aJ;rw [if_neg (by simp only [decide_eq_true_eq]; omega)]),List.drop_of_length_le (by omega)]
    exact⟨-1,rfl,rfl⟩
  | m+1,i,hi=>by
    have hx:=List.getElem?_eq_getElem (l:=l) (i:=i) (by omega);have hr:aJ l n (i:Int)=if (l[i].f0==n)=true then some (.inr (.inr ((i:Int),n))) else some (.inl (n,((i+1:Nat):Int))):=by
      unfold aJ lD;rw [if_pos (by simp only [decide_eq_true_eq]; omega),bG rfl hx];simp only [Option.bind_some];split
      · rfl
      · rw [lt_,w64 (by omega) (by omega)]; rfl
    rw [List.drop_eq_getElem_cons (by omega),List.any_cons];by_cases c:(l[i].f0==n)=true
    · rw [if_pos c] at hr
      rw [bF (b:=λs:List UInt8×Int=>aJ l s.1 s.2) hr,c];exact⟨(i:Int),rfl,by simp⟩
    · rw [if_neg c] at hr
      rw [cH (b:=λs:List UInt8×Int=>aJ l s.1 s.2) hr,show (l[i].f0==n)=false by simpa using c,Bool.false_or];exact aM6 l n hl m (i+1) (by omega)
theorem aNc (l:List S46) (n:List UInt8) (hl:l.length<4611686018427387904):bQ l n=some (l.any (λe=>e.f0==n),n):=by obtain⟨j,h1,h2⟩:=aM6 l n hl l.length 0 (by omega);have h1':cR l n=some (j,n):=h1;unfold bQ;rw [h1'];simp only [Option.bind_some];rw [h2,List.drop_zero]
def sZ (l:List S46) (f:List UInt8):Bool:=(f==rB)||(wT f && !(l.any λe=>e.f0==f))
def swg (go:List UInt8->Bool):List (List UInt8)->S77->Int×S77
  | [],s=>(0,s)
  | f::r,s=>if go f=true then (if (uG s f).1=0 then swg go r (uG s f).2 else uG s f) else swg go r s
def wc (c:S79) (p:Int×S77):Int×S79×S77:=(p.1,c,p.2)
theorem aRb {kk:Nat} {s:S77} (h:SI kk s) (hk:kk<4611686018427387904) (c:S79) (hc:c.f2.length<=1000000) {L:List (List UInt8)} {i:Nat} {f:List UInt8} (hf:L[i]?=some f) (hl:f.length<=32) (hL:L.length<=500) :
    bL c L s.f0 s.f1 s.f2 s.f3 s.f4 (i:Int)=if sZ c.f2 f=true then (if (uG s f).1=0 then some (.inl ((uG s f).2.f0,(uG s f).2.f1,(uG s f).2.f2,(uG s f).2.f3,(uG s f).2.f4,((i+1:Nat):Int))) else some (.inr (.inr (wc c (uG s f))))) else some (.inl (s.f0,s.f1,s.f2,s.f3,s.f4,((i+1:Nat):Int))):=by
  have hi:=(List.getElem?_eq_some_iff.1 hf).1;have hb2:∀ (l:List S98) (a b:Int) (c:Bool) (d:Int),fD (i:Int) l a b c d=some (.inl (l,a,b,c,d,((i+1:Nat):Int))):=by intro l a b c d;unfold fD;rw [lt_,w64 (by omega) (by omega)];rfl
  have hj1:∀ (b g:Bool),dT c s.f0 s.f1 s.f2 s.f3 s.f4 (i:Int) (b,f) g=if g=true then (if (uG s f).1=0 then some (.inl ((uG s f).2.f0,(uG s f).2.f1,(uG s f).2.f2,(uG s f).2.f3,(uG s f).2.f4,((i+1:Nat):Int))) else some (.inr (.inr (wc c (uG s f))))) else some (.inl (s.f0,s.f1,s.f2,s.f3,s.f4,((i+1:Nat):Int))):=by
    intro b g;unfold dT;cases g with
    | false=>rw [if_neg (by simp),if_neg (by simp),hb2]
    | true =>
      rw [if_pos rfl,if_pos rfl,show (⟨s.f0,s.f1,s.f2,s.f3,s.f4⟩:S77)=s from rfl,show ((b,f):Bool×List UInt8).2=f from rfl,h.Delete hk (by omega)];simp only [Option.bind_some];by_cases c1:(uG s f).1=0
      · rw [if_neg (by simp [c1]),if_pos c1,hb2]
      · rw [if_pos (by simpa using c1),if_neg c1]
        rfl
  unfold bL;rw [if_pos (by simp only [decide_eq_true_eq]; omega),bG rfl hf];simp only [Option.bind_some];rw [aNc _ _ (by omega)];simp only [Option.bind_some];rw [show ([99,97,116,46,116,109,112]:List UInt8)=rB from rfl,show ([115,101,103,46]:List UInt8)=preS from rfl,aQ3 f (by omega)];simp only [Option.bind_some,hj1];unfold sZ;cases (f==rB) <;> cases wT f <;> cases (c.f2.any λe=>e.f0==f) <;> rfl
theorem aId (c:S79) (hc:c.f2.length<=1000000) {L:List (List UInt8)} (hL:L.length<=500) (h32:∀ f∈L,f.length<=32):∀ (m i kk:Nat) (s:S77),i+m=L.length->SI kk s->kk+m<4611686018427387904 ->
    ((loop (λq:List S98×Int×Int×Bool×Int×Int=>bL c L q.1 q.2.1 q.2.2.1 q.2.2.2.1 q.2.2.2.2.1 q.2.2.2.2.2) (s.f0,s.f1,s.f2,s.f3,s.f4,(i:Int))).bind λt=>match t with | (.inl t)=>iQ c t.1 t.2.1 t.2.2.1 t.2.2.2.1 t.2.2.2.2 | (.inr t)=>some t)=some (wc c (swg (sZ c.f2) (L.drop i) s))
  | 0,i,kk,s,hi,h,hk=>by
    rw [bF (b:=λq:List S98×Int×Int×Bool×Int×Int=>bL c L q.1 q.2.1 q.2.2.1 q.2.2.2.1 q.2.2.2.2.1 q.2.2.2.2.2) (t:=.inl (s.f0,s.f1,s.f2,s.f3,s.f4)) (by
      show bL c L s.f0 s.f1 s.f2 s.f3 s.f4 (i:Int)=_;unfold bL;rw [if_neg (by simp only [decide_eq_true_eq]; omega)]),List.drop_of_length_le (by omega)]
    rfl
  | m+1,i,kk,s,hi,h,hk=>by
    have hx:=List.getElem?_eq_getElem (l:=L) (i:=i) (by omega);have hr:=aRb h (by omega) c hc hx (h32 _ (List.getElem_mem (by omega))) hL;rw [List.drop_eq_getElem_cons (by omega)];unfold swg;by_cases c1:sZ c.f2 L[i]=true
    · rw [if_pos c1] at hr ⊢
      by_cases c2:(uG s L[i]).1=0
      · rw [if_pos c2] at hr ⊢
        rw [cH (b:=λq:List S98×Int×Int×Bool×Int×Int=>bL c L q.1 q.2.1 q.2.2.1 q.2.2.2.1 q.2.2.2.2.1 q.2.2.2.2.2) hr];exact aId c hc hL h32 m (i+1) (kk+1) _ (by omega) (h.del (n:=L[i])) (by omega)
      · rw [if_neg c2] at hr ⊢
        rw [bF (b:=λq:List S98×Int×Int×Bool×Int×Int=>bL c L q.1 q.2.1 q.2.2.1 q.2.2.2.1 q.2.2.2.2.1 q.2.2.2.2.2) hr];rfl
    · rw [if_neg c1] at hr ⊢
      rw [cH (b:=λq:List S98×Int×Int×Bool×Int×Int=>bL c L q.1 q.2.1 q.2.2.1 q.2.2.2.1 q.2.2.2.2.1 q.2.2.2.2.2) hr];exact aId c hc hL h32 m (i+1) kk _ (by omega) h (by omega)
theorem aHu (go:List UInt8->Bool):∀ (L:List (List UInt8)) (s:S77) (kk:Nat),SI kk s->s.f3=false->L.Nodup->(∀ f∈L,∃ x,get s.f0 f=some x) ->
    SI (kk+L.length) (swg go L s).2/\Kp s (swg go L s).2/\(∀ f,go f=false->get (swg go L s).2.f0 f=get s.f0 f)/\(∀ f x,get (swg go L s).2.f0 f=some x->get s.f0 f=some x) /\
      (used (swg go L s).2.f0<=used s.f0/\(swg go L s).2.f0.length<=s.f0.length) /\
      (((swg go L s).1=0/\(swg go L s).2.f3=false/\∀ f∈L,go f=true->get (swg go L s).2.f0 f=none)\/((swg go L s).1=9/\(swg go L s).2.f3=true))
  | [],s,kk,h,hon,hnd,hL=>⟨h,Kp.refl s,λ_ _=>rfl,λ_ _ q=>q,⟨Nat.le_refl _,Nat.le_refl _⟩,.inl ⟨rfl,hon,λf hf=>by cases hf⟩⟩
  | f::L,s,kk,h,hon,hnd,hL=>by
    obtain⟨hf,hnd'⟩:=List.nodup_cons.1 hnd;unfold swg;by_cases c:go f=true
    · rw [if_pos c]
      obtain⟨x,hx⟩:=hL f List.mem_cons_self;have h1:=h.del (n:=f);obtain⟨kp,hd⟩:=aG9 h hon hx λx=>del s.f0 f;have hud:=aH5 h.rise f;have hld:=aKv h.rise f;rcases hd with ⟨e0,on1,l1⟩ | ⟨e9,off1,l1⟩
      · have e0':(uG s f).1=0:=e0
        have l1':(uG s f).2.f0=del s.f0 f:=l1;rw [if_pos e0'];have hL':∀ g∈L,∃ x,get (uG s f).2.f0 g=some x:=λg hg=>by obtain⟨y,hy⟩:=hL g (List.mem_cons_of_mem _ hg);refine⟨y,?_⟩;rw [l1',aC6 h.rise,if_neg (λe=>hf (by rw [e]; exact hg))];exact hy
        obtain⟨i1,i2,i3,i4,⟨i5,i5'⟩,i6⟩:=aHu go L (uG s f).2 (kk+1) h1 on1 hnd' hL';refine⟨by rw [List.length_cons,show kk+(L.length+1)=kk+1+L.length by omega]; exact i1,Kp.trans kp i2,λg hg=>?_,λg y hy=>?_,⟨?_,?_⟩,?_⟩
        · rw [i3 g hg,l1',aC6 h.rise,if_neg (λe=>by subst e; rw [c] at hg; cases hg)]
        · have:=i4 g y hy
          rw [l1',aC6 h.rise] at this;split at this
          · cases this
          · exact this
        · rw [l1'] at i5; omega
        · rw [l1'] at i5'; omega
        · rcases i6 with ⟨a,b,d⟩ | q
          · refine .inl ⟨a,b,λg hg cg=>?_⟩
            rcases List.mem_cons.1 hg with rfl | hg
            · cases hq:get (swg go L (uG s g).2).2.f0 g with
              | none=>rfl
              | some y =>
                have:=i4 g y hq;rw [l1',aC6 h.rise,if_pos rfl] at this;cases this
            · exact d g hg cg
          · exact .inr q
      · have e9':(uG s f).1=9:=e9
        have l1':(uG s f).2.f0=s.f0:=l1;rw [if_neg (by rw [e9']; decide)];exact⟨h1.mono (by rw [List.length_cons]; omega),kp,λg _=>by rw [l1'],λg y hy=>by rw [l1'] at hy; exact hy,⟨by rw [l1']; exact Nat.le_refl _,by rw [l1']; exact Nat.le_refl _⟩,.inr ⟨e9',off1⟩⟩
    · rw [if_neg c]
      obtain⟨i1,i2,i3,i4,i5,i6⟩:=aHu go L s kk h hon hnd' λg hg=>hL g (List.mem_cons_of_mem _ hg);refine⟨i1.mono (by rw [List.length_cons]; omega),i2,i3,i4,i5,?_⟩;rcases i6 with ⟨a,b,d⟩ | q
      · refine .inl ⟨a,b,λg hg cg=>?_⟩
        rcases List.mem_cons.1 hg with rfl | hg
        · exact absurd cg c
        · exact d g hg cg
      · exact .inr q
theorem aQe {kk:Nat} {s:S77} (h:SI kk s) (hk:kk+500<4611686018427387904) (c:S79) (hc:c.f2.length<=1000000):dA c s=some (wc c (swg (sZ c.f2) (s.f0.map S98.f0) s)):=by
  have hl:=h.len;unfold dA;rw [h.Names];simp only [Option.bind_some];have:=aId c hc (L:=s.f0.map S98.f0) (by simpa using hl) (λf hf=>by
    obtain⟨x,hx,rfl⟩:=List.mem_map.1 hf;exact aK6 (h.form x hx)) s.f0.length 0 kk s (by simp) h (by omega)
  rw [List.drop_zero] at this;exact this
def aGe (e:S46):List Int:=uv e.f1.toNat++(uv e.f2.toNat++(uv (zz e.f3)++uv (zz e.f4)))
def zI:List S46->List Int
  | []=>[]
  | e::l=>aGe e++zI l
def aEf (pt:Int) (l:List S46):List Int:=uv pt.toNat++(uv l.length++zI l)
structure EOk (a:Nat) (e:S46):Prop where
  fr:e.f1=a
  lt:e.f1<e.f2
  le:e.f2<1000
  nm:e.f0=qH e.f1.toNat e.f2.toNat
  lo : -1099511627776<=e.f3
  hi:e.f4<=1099511627776
  lh:e.f3<=e.f4
inductive Chain:Nat->List S46->Prop
  | nil (a:Nat):Chain a []
  | cons {a:Nat} {e:S46} {l:List S46} (h:EOk a e) (hl:Chain e.f2.toNat l):Chain a (e::l)
theorem aO0 (e:S46):Bs (aGe e):=(Bs.uv _).app ((Bs.uv _).app ((Bs.uv _).app (Bs.uv _)))
theorem aH6:∀ l:List S46,Bs (zI l)
  | []=>Bs.nil
  | e::l=>(aO0 e).app (aH6 l)
theorem aKz (pt:Int) (l:List S46):Bs (aEf pt l):=(Bs.uv _).app ((Bs.uv _).app (aH6 l))
theorem EOk.i64 {a:Nat} {e:S46} (h:EOk a e):P.i64 e.f3/\P.i64 e.f4:=by have:=h.lo; have:=h.hi; have:=h.lh;unfold P.i64;omega
theorem EOk.len {a:Nat} {e:S46} (h:EOk a e):(aGe e).length<=40:=by have h1:=aL (n:=e.f1.toNat) (by have:=h.le; have:=h.lt; omega);have h2:=aL (n:=e.f2.toNat) (by have:=h.le; omega);have h3:=aL (wF h.i64.1);have h4:=aL (wF h.i64.2);simp only [aGe,List.length_append]; omega
theorem Chain.len:∀ {a:Nat} {l:List S46},Chain a l->(zI l).length<=40 * l.length
  | _,_,.nil _=>Nat.le_refl _
  | _,_,.cons h hl=>by have:=h.len;have:=Chain.len hl;simp only [zI,List.length_append,List.length_cons]; omega
theorem Chain.few:∀ {a:Nat} {l:List S46},Chain a l->a<1000->a+l.length<1000
  | _,_,.nil _,h=>by simpa using h
  | _,_,.cons h hl,_=>by have:=h.fr; have:=h.lt; have:=h.le;have:=Chain.few hl (by omega);simp only [List.length_cons]; omega
theorem Chain.app:∀ {a:Nat} {l:List S46} {e:S46},Chain a l->EOk (match l.getLast? with | none=>a | some x=>x.f2.toNat) e->Chain a (l++[e])
  | a,[],e,_,h=>.cons h (.nil _)
  | a,x::l,e,.cons hx hl,h=>by
    refine .cons hx (Chain.app hl ?_);cases l with
    | nil=>exact h
    | cons y l =>
      rw [List.getLast?_cons_cons] at h;cases hq:(y::l).getLast? with
      | none=>simp at hq
      | some z=>rw [hq] at h; exact h
theorem aMi (es:List S46):∀ (m i a:Nat) (b:List Int),i+m=es.length->Chain a (es.drop i)->b.length+40 * m<=1000000->es.length<=1000 ->
    loop (λs:List Int×Int=>cE es s.1 s.2) (b,(i:Int))=some (b++zI (es.drop i))
  | 0,i,a,b,hi,hc,hb,hl=>by refine bF ?_;show cE es b (i:Int)=_;unfold cE;rw [if_neg (by simp only [decide_eq_true_eq]; omega),List.drop_of_length_le (by omega),zI,List.append_nil]
  | m+1,i,a,b,hi,hc,hb,hl=>by
    have hx:=List.getElem?_eq_getElem (l:=es) (i:=i) (by omega);rw [List.drop_eq_getElem_cons (by omega)] at hc ⊢;obtain⟨he,hc'⟩:EOk a es[i]/\Chain es[i].f2.toNat (es.drop (i+1)):=by cases hc with | cons h1 h2=>exact⟨h1,h2⟩
    have h1:=aL (n:=es[i].f1.toNat) (by have:=he.le; have:=he.lt; omega);have h2:=aL (n:=es[i].f2.toNat) (by have:=he.le; omega);have h3:=aL (wF he.i64.1);have hf:=he.fr;have hlt:=he.lt;have hr:cE es b (i:Int)=some (.inl (b++aGe es[i],((i+1:Nat):Int))):=by unfold cE;rw [if_pos (by simp only [decide_eq_true_eq]; omega),bG rfl hx];simp only [Option.bind_some];rw [show es[i].f1=((es[i].f1.toNat:Nat):Int) by omega,sU _ _ (by have:=he.le; omega) (by omega)];simp only [Option.bind_some,Int.toNat_natCast];rw [show es[i].f2=((es[i].f2.toNat:Nat):Int) by omega,sU _ _ (by have:=he.le; omega) (by simp only [List.length_append,Int.toNat_natCast]; omega)];simp only [Option.bind_some,Int.toNat_natCast];rw [zA he.i64.1 _ (by simp only [List.length_append]; omega)];simp only [Option.bind_some];rw [zA he.i64.2 _ (by simp only [List.length_append]; omega)];simp only [Option.bind_some];rw [lt_,w64 (by omega) (by omega)];simp [aGe,List.append_assoc]
    rw [cH (b:=λs:List Int×Int=>cE es s.1 s.2) hr,aMi es m (i+1) _ (b++aGe es[i]) (by omega) hc' (by have:=he.len; simp only [List.length_append]; omega) hl,zI,List.append_assoc]
theorem aNv (l:List S46) (e:S46):aBh (l++[e])=e.f2:=by simp [aBh]
theorem aQu {e:S46} {n:List UInt8} (h:e.f0=n):(⟨n,e.f1,e.f2,e.f3,e.f4⟩:S46)=e:=by subst h; rfl
theorem aRi {α β γ:Type} (v:α) (f:α->Option γ) (g:β->Option γ):((some (Sum.inl v:α⊕β)).bind λy=>fL y f g)=f v:=rfl
theorem aQj {y:Int×S140} {pt:Int} {acc:List S46} {e:S46} {r:List Int} {i a:Nat} (he:EOk a e) (hend:aBh acc=(a:Int)) (hB:Bs (aGe e++r)) (hi:(i:Int)<y.1) (hi':i<=1000) (hacc:acc.length<=1000) :
    cG y (aGe e++r) pt acc (i:Int)=some (.inl (r,pt,acc++[e],((i+1:Nat):Int))):=by
  have hf:=he.fr; have hlt:=he.lt; have hle:=he.le; have hlh:=he.lh;have e1:((e.f1.toNat:Nat):Int)=e.f1:=by omega
  have e2:((e.f2.toNat:Nat):Int)=e.f2:=by omega
  have e0:aGe e++r=uv e.f1.toNat++(uv e.f2.toNat++(uv (zz e.f3)++(uv (zz e.f4)++r))):=by simp only [aGe,List.append_assoc]
  rw [e0] at hB ⊢;have b1:=hB.r;have b2:=b1.r;have b3:=b2.r;unfold cG;rw [if_pos (by simpa using hi),rdU (by omega) (by omega) hB];rw [aRi];rw [rdU (by omega) (by omega) b1];rw [aRi];rw [rdI he.i64.1 b2];rw [aRi];rw [rdI he.i64.2 b3];rw [aRi];rw [aOy (by omega) (by omega),Option.bind_some];rw [aWn ⟨(),pt,acc⟩ (Nat.lt_of_le_of_lt hacc (by decide)),Option.bind_some];rw [hend,if_pos (by rw [beq_iff_eq]; omega),if_pos (by rw [decide_eq_true_eq]; omega),decide_eq_true hlh,mN];rw [aRi];unfold eS;rw [bM (by simp only [List.length_cons,List.length_nil]; omega),lt_,nO (n:=(i:Int)+1) (by omega) (by omega)];simp only [e1,e2,aQu he.nm];rw [show ((i+1:Nat):Int)=(i:Int)+1 by omega]
theorem aI1 {y:Int×S140} {pt:Int}:∀ (es:List S46) (i a:Nat) (acc:List S46),Chain a es->aBh acc=(a:Int)->acc.length=i->y.1=((i+es.length:Nat):Int)->i+es.length<=500 ->
    loop (λs:List Int×Int×List S46×Int=>cG y s.1 s.2.1 s.2.2.1 s.2.2.2) (zI es,pt,acc,(i:Int))=some (.inl ([],pt,acc++es))
  | [],i,a,acc,hc,hend,hacc,hy,hl=>by refine bF ?_;show cG y [] pt acc (i:Int)=_;unfold cG;rw [if_neg (by rw [hy]; simp),List.append_nil]
  | e::es,i,a,acc,.cons he hc,hend,hacc,hy,hl=>by simp only [List.length_cons] at hy hl;have hr:=aQj (y:=y) (pt:=pt) (r:=zI es) (i:=i) he hend ((aO0 e).app (aH6 es)) (by rw [hy]; omega) (by omega) (by omega);rw [show zI (e::es)=aGe e++zI es from rfl,cH (b:=λs:List Int×Int×List S46×Int=>cG y s.1 s.2.1 s.2.2.1 s.2.2.2) hr];have:=he.fr; have:=he.lt;rw [aI1 es (i+1) e.f2.toNat (acc++[e]) hc (by rw [aNv]; omega) (by simp [hacc]) (by rw [hy]; congr 1; omega) (by omega),List.append_assoc];rfl
theorem aVv {pt:Int} {es:List S46} (hp:1<=pt/\pt<=8) (hc:Chain 0 es) (hl:es.length<=500):kP ⟨(),pt,[]⟩ (jQ 99 (aEf pt es))=some (0,⟨(),pt,es⟩):=by have h1:=aL (n:=pt.toNat) (by omega);have h2:=aL (n:=es.length) (by omega);have h3:=hc.len;have hB:=aKz pt es;unfold kP;rw [aZj (by decide) hB (by simp only [aEf,List.length_append]; omega)];simp only [Option.bind_some];rw [if_neg (by decide)];unfold mG lQ;simp only [lt_];rw [nO (n:=pt) (by omega) (by omega),show aEf pt es=uv pt.toNat++(uv es.length++zI es) from rfl,rdU (by omega) (by omega) hB];simp only [Option.bind_some,iA];rw [show ((pt.toNat:Nat):Int)=pt by omega,show (pt==pt)=true by simp,mN];simp only [Option.bind_some,iA];rw [rdU (by omega) (by omega) hB.r];simp only [Option.bind_some,iA];have hL:=aI1 (y:=((es.length:Int),(⟨zI es⟩:S140))) (pt:=pt) es 0 0 [] hc rfl rfl (by simp) (by omega);rw [show ((0:Nat):Int)=0 from rfl] at hL;rw [hL];rfl
theorem aRw (l:List Nat):rl (l.map lT)=rl l:=by unfold rl;rw [List.map_map];exact List.map_congr_left λx _=>by show IntKind.i64.wrap ((lT (lT x):Nat):Int)=_; rw [yY]
theorem aG6 (l:List S61):yT (l.map dN)=yT l:=by
  have e1:oI (l.map dN)=oI l:=by unfold oI; rw [List.map_map]; rfl
  have e2:jI (l.map dN)=jI l:=by unfold jI; rw [List.map_map]; rfl
  have e3:jF (l.map dN)=jF l:=by unfold jF; rw [List.map_map]; rfl
  have e4:nY (l.map dN)=nY l:=by unfold nY; rw [List.map_map]; rfl
  have e5:mR (l.map dN)=(mR l).map lT:=by unfold mR; rw [List.map_map,List.map_map]; rfl
  unfold yT;rw [e1,e2,e3,e4,e5,aRw]
theorem aRp (l:List S61):pcs 64 (l.map dN)=(pcs 64 l).map (List.map dN):=by unfold pcs;rw [List.length_map,List.map_map];refine List.map_congr_left λk _=>?_;show ((l.map dN).drop (k * 64)).take 64=List.map dN ((l.drop (k * 64)).take 64);rw [List.map_take,List.map_drop]
theorem aHz:∀ cs:List (List S61),bV (cs.map (List.map dN))=bV cs
  | []=>rfl
  | c::cs=>by show pgL (c.map dN)++bV (cs.map (List.map dN))=pgL c++bV cs;rw [aHz cs];unfold pgL;rw [aG6]
theorem aL9:∀ (cs:List (List S61)) (a:Nat),fG (cs.map (List.map dN)) a=fG cs a
  | [],_=>rfl
  | c::cs,a=>by show ckL (c.map dN) (a:Int)::fG (cs.map (List.map dN)) (a+(pgL (c.map dN)).length)=ckL c (a:Int)::fG cs (a+(pgL c).length);rw [aL9 cs,aG8,show pgL (c.map dN)=pgL c by unfold pgL; rw [aG6]]
theorem aRf (l:List S61) (k:Nat):wZ (l.map dN) k=wZ l k:=by unfold wZ;rw [aRp,aHz,aL9]
theorem Run.back {k a:Int} {l:List S61} (h:Run k a l):Run k a (l.map dN):=by
  refine⟨λe he=>?_,λe he=>?_,λi x hx=>?_⟩
  · obtain⟨x,hx,rfl⟩:=List.mem_map.1 he
    exact h.fm x hx
  · obtain⟨x,hx,rfl⟩:=List.mem_map.1 he
    exact⟨(h.gd x hx).1,aMw (h.gd x hx).2⟩
  · rw [List.getElem?_map] at hx
    obtain⟨y,hy,rfl⟩:=Option.map_eq_some_iff.1 hx;exact h.of i y hy
theorem Seg.back {k:Int} {l:List S61} (h:Seg k l):Seg k (l.map dN):=by obtain⟨a,h0,h1,hr⟩:=h.run;exact⟨h.k1,h.k8,by rw [List.length_map]; exact h.ps,by rw [List.length_map]; exact h.le,a,h0,by rw [List.length_map]; exact h1,hr.back⟩
def pc (m:List S61) (a b:Nat):List S61:=(m.drop a).take (b - a)
structure Lg (k:Int) (m:List S61):Prop where
  run:Run k 0 m
  le:m.length<=250
  k1:1<=k
  k8:k<=8
theorem zJ {m:List S61} {a b:Nat} (h:b<=m.length):(pc m a b).length=b - a:=by unfold pc; simp; omega
theorem aOo {m:List S61} {a b c:Nat} (h1:a<=b) (h2:b<=c):pc m a b++pc m b c=pc m a c:=by
  unfold pc;have:(m.drop a).take (c - a)=(m.drop a).take (b - a)++((m.drop a).drop (b - a)).take (c - b):=by rw [show c - a=(b - a)+(c - b) by omega,List.take_add]
  rw [this,List.drop_drop,show a+(b - a)=b by omega]
theorem aKy (m:List S61) (b:Nat):pc m 0 b=m.take b:=by unfold pc; simp
theorem aB5 {k:Int} {m:List S61} (h:Run k 0 m) (a b:Nat):Run k a (pc m a b):=by have:=(h.drop a).take (b - a);rw [Int.zero_add] at this;exact this
theorem Lg.seg {k:Int} {m:List S61} (h:Lg k m) {a b:Nat} (hab:a<b) (hb:b<=m.length):Seg k (pc m a b):=by have:=h.le;exact⟨h.k1,h.k8,by rw [zJ hb]; omega,by rw [zJ hb]; omega,a,by omega,by rw [zJ hb]; omega,aB5 h.run a b⟩
def szB (n:Nat):Nat:=6100 * ((n+63) / 64)+2422
theorem Seg.size {k:Int} {l:List S61} (h:Seg k l):(wZ l k.toNat).length<=szB l.length:=by
  obtain⟨b1,b2⟩:=h.bytes;obtain⟨f1,f2⟩:=h.foot;obtain⟨p1,p2,p3⟩:=aC3 h.k8 h.cut;have hlen:(pcs 64 l).length=(l.length+64 - 1) / 64:=aAt;unfold szB;rw [b2];rw [hlen] at p1;have:l.length+64 - 1=l.length+63:=by omega
  rw [this] at p1;omega
theorem aD8 {a b:Nat} (h:a<=b):szB a<=szB b:=by have:(a+63) / 64<=(b+63) / 64:=Nat.div_le_div_right (by omega);unfold szB;omega
def aF8 (l:List S61):Int:=(ckL l 0).f4
def aBd (l:List S61):Int:=(ckL l 0).f5
def nB (m:List S61) (a b:Nat):S46:=⟨qH a b,(a:Int),(b:Int),aF8 (pc m a b),aBd (pc m a b)⟩
def bA (m:List S61):Nat->List Nat->List S46
  | _,[]=>[]
  | a,b::r=>nB m a b::bA m b r
def eZ:Nat->List Nat->Nat
  | a,[]=>a
  | _,b::r=>eZ b r
def RiseN:Nat->List Nat->Nat->Prop
  | a,[],n=>a<=n
  | a,b::r,n=>a<b/\RiseN b r n
theorem RiseN.end_le:∀ {r:List Nat} {a n:Nat},RiseN a r n->a<=eZ a r/\eZ a r<=n
  | [],a,n,h=>⟨Nat.le_refl _,h⟩
  | b::r,a,n,h=>by have:=RiseN.end_le h.2;have:=h.1;show a<=eZ b r/\eZ b r<=n;omega
theorem RiseN.len:∀ {r:List Nat} {a n:Nat},RiseN a r n->a+r.length<=eZ a r
  | [],a,n,h=>Nat.le_refl _
  | b::r,a,n,h=>by have:=RiseN.len h.2;have:=h.1;show a+(r.length+1)<=eZ b r;omega
theorem aM5:∀ (r s:List Nat) (a:Nat),eZ a (r++s)=eZ (eZ a r) s
  | [],_,_=>rfl
  | b::r,s,_=>aM5 r s b
theorem aC4 (m:List S61):∀ (r s:List Nat) (a:Nat),bA m a (r++s)=bA m a r++bA m (eZ a r) s
  | [],_,_=>rfl
  | b::r,s,a=>by show nB m a b::bA m b (r++s)=nB m a b::(bA m b r++bA m (eZ b r) s);rw [aC4 m r s b]
theorem fZ (m:List S61):∀ (r:List Nat) (a:Nat),(bA m a r).length=r.length
  | [],_=>rfl
  | b::r,a=>by show (bA m b r).length+1=r.length+1; rw [fZ m r b]
theorem RiseN.app:∀ {r s:List Nat} {a n:Nat},RiseN a (r++s) n↔RiseN a r (eZ a r)/\RiseN (eZ a r) s n
  | [],s,a,n=>⟨λh=>⟨Nat.le_refl _,h⟩,λh=>h.2⟩
  | b::r,s,a,n=>by show a<b/\RiseN b (r++s) n↔(a<b/\RiseN b r (eZ b r))/\RiseN (eZ b r) s n;rw [RiseN.app (r:=r) (s:=s) (a:=b) (n:=n)];exact⟨λh=>⟨⟨h.1,h.2.1⟩,h.2.2⟩,λh=>⟨h.1.1,h.1.2,h.2⟩⟩
theorem RiseN.mono:∀ {r:List Nat} {a n n':Nat},RiseN a r n->n<=n'->RiseN a r n'
  | [],_,_,_,h,h'=>Nat.le_trans h h'
  | _::_,_,_,_,h,h'=>⟨h.1,RiseN.mono h.2 h'⟩
theorem aAe {m:List S61}:∀ {r:List Nat} {a n:Nat},RiseN a r n->∀ e∈bA m a r,∃ x y:Nat,a<=x/\x<y/\y<=n/\e=nB m x y
  | [],_,_,_,e,he=>by cases he
  | b::r,a,n,h,e,he=>by
    rcases List.mem_cons.1 he with rfl | he
    · exact⟨a,b,Nat.le_refl _,h.1,Nat.le_trans (RiseN.end_le h.2).1 (RiseN.end_le h.2).2,rfl⟩
    · obtain⟨x,y,h1,h2,h3,h4⟩:=aAe h.2 e he
      have:=h.1;exact⟨x,y,by omega,h2,h3,h4⟩
theorem aL2 (m:List S61):∀ (r:List Nat) (a:Nat),r≠[]->aBh (bA m a r)=(eZ a r:Int)
  | [],a,h=>absurd rfl h
  | [b],a,_=>rfl
  | b::c::r,a,_=>by have:=aL2 m (c::r) b (by simp);show aBh (nB m a b::bA m b (c::r))=_;unfold aBh at this ⊢;rw [show bA m b (c::r)=nB m b c::bA m c r from rfl] at this ⊢;rw [List.getLast?_cons_cons];exact this
theorem aQw (m:List S61) (r:List Nat):aBh (bA m 0 r)=(eZ 0 r:Int):=by
  by_cases h:r=[]
  · subst h; rfl
  · exact aL2 m r 0 h
theorem aR9 {l:List S61} {k a:Int} (h:Run k a l) (h0:0<l.length) : -1099511627776<=aF8 l/\aBd l<=1099511627776/\aF8 l<=aBd l:=by
  have hb:=aRx l 0;have hx:=List.getElem_mem h0;obtain⟨_,_,b3,b4⟩:=hb _ hx;have e:ckL l 0=l.foldl ckF (ck0 l 0 (l[0]'h0)):=by
    cases l with
    | nil=>simp at h0
    | cons z c=>rfl
  have hin:=aGp (λ_=>True) (λv => -1099511627776<=v/\v<=1099511627776) (λ_=>True) l (ck0 l 0 (l[0]'h0))
    ⟨⟨trivial,trivial⟩,⟨by have:=xF (h.fm _ hx); exact⟨this.2.2.1,this.2.2.2.1⟩,by have:=xF (h.fm _ hx); exact⟨this.2.2.1,this.2.2.2.1⟩⟩,trivial,trivial⟩
    λv hv=>⟨trivial,by have:=xF (h.fm _ hv); exact⟨this.2.2.1,this.2.2.2.1⟩,trivial⟩
  rw [← e] at hin;obtain⟨_,⟨q1,q2⟩,_⟩:=hin;exact⟨q1.1,q2.2,by unfold aF8 aBd; omega⟩
theorem aA4 {k:Int} {m:List S61} (h:Lg k m):∀ {r:List Nat} {a:Nat},RiseN a r m.length->Chain a (bA m a r)
  | [],_,_=>.nil _
  | b::r,a,hr=>by have hb:=(RiseN.end_le hr.2);have hle:=h.le;have h1:=hr.1;obtain⟨l1,l2,l3⟩:=aR9 (aB5 h.run a b) (by rw [zJ (by omega)]; omega);exact .cons (e:=nB m a b) ⟨rfl,by show (a:Int)<b; omega,by show (b:Int)<1000; omega,rfl,l1,l2,l3⟩ (aA4 h hr.2)
theorem aCy {k:Int} {m:List S61} (h:Lg k m) {r:List Nat} (hr:RiseN 0 r m.length) {e:S46} (he:e∈bA m 0 r):wT e.f0=true/\sV e.f0=true:=by obtain⟨x,y,h1,h2,h3,rfl⟩:=aAe hr e he;have:=h.le;exact⟨aC7 x y,aFg (by omega) (by omega)⟩
theorem aP1 {m:List S61}:∀ {r:List Nat} {a n x y:Nat},RiseN a r n->n<=250->x<1000->y<1000->(bA m a r).any (λe=>e.f0==qH x y)=true->nB m x y∈bA m a r
  | [],_,_,_,_,_,_,_,_,h=>by cases h
  | b::r,a,n,x,y,hr,hn,hx,hy,h=>by
    have h1:=hr.1;have h2:=RiseN.end_le hr.2;rw [show bA m a (b::r)=nB m a b::bA m b r from rfl,List.any_cons,Bool.or_eq_true] at h;rcases h with h | h
    · obtain⟨rfl,rfl⟩:=aMo (by omega) (by omega) hx hy (beq_iff_eq.1 h:qH a b=qH x y)
      exact List.mem_cons_self
    · exact List.mem_cons_of_mem _ (aP1 hr.2 hn hx hy h)
def aWk (k:Int) (m:List S61) (r:List Nat):List Int:=jQ 99 (aEf k (bA m 0 r))
def aJz (k:Int) (m:List S61) (e:S46):S98:=aMy e.f0 (wZ (pc m e.f1.toNat e.f2.toNat) k.toNat)
structure Ct (k:Int) (m:List S61) (r:List Nat) (l:List S98):Prop where
  cat0:r=[]->get l vE=none
  cat:r≠[]->get l vE=some (aMy vE (aWk k m r))
  segs:∀ e∈bA m 0 r,get l e.f0=some (aJz k m e)
def aRv (m:List S61) (r:List Nat) (f:List UInt8):Prop:=f=vE\/∃ e∈bA m 0 r,f=e.f0
theorem Ct.of {k:Int} {m:List S61} {r:List Nat} {l l':List S98} (h:Ct k m r l) (hp:∀ f,aRv m r f->get l' f=get l f):Ct k m r l' :=
  ⟨λe=>(hp _ (.inl rfl)).trans (h.cat0 e),λe=>(hp _ (.inl rfl)).trans (h.cat e),λe he=>(hp _ (.inr ⟨e,he,rfl⟩)).trans (h.segs e he)⟩
theorem aJc (l:List S46):sZ l vE=false:=by unfold sZ; rw [aRe]; rfl
theorem aHp (l:List S46):sZ l rB=true:=by unfold sZ; simp
theorem aEx {f:List UInt8} (h:wT f=true):f≠rB/\f≠vE :=
  ⟨λe=>by rw [e] at h; exact absurd h (by decide),λe=>by rw [e] at h; exact absurd h (by decide)⟩
theorem aB8 {k:Int} {m:List S61} (h:Lg k m) {r:List Nat} (hr:RiseN 0 r m.length) {f:List UInt8} (hf:aRv m r f):sZ (bA m 0 r) f=false:=by
  rcases hf with rfl | ⟨e,he,rfl⟩
  · exact aJc _
  · have h1:=(aEx (aCy h hr he).1).1
    unfold sZ;rw [show ((bA m 0 r).any λx=>x.f0==e.f0)=true from List.any_eq_true.2 ⟨e,he,by simp⟩,show (e.f0==rB)=false by simpa using h1];simp
theorem aSw {m:List S61} {r:List Nat} {n x y:Nat} (hr:RiseN 0 r n) (hn:n<=250) (hx:x<1000) (hy:y<1000) (h:nB m x y∉bA m 0 r):sZ (bA m 0 r) (qH x y)=true:=by
  have:(bA m 0 r).any (λe=>e.f0==qH x y)=false:=by
    cases c:(bA m 0 r).any (λe=>e.f0==qH x y) with
    | false=>rfl
    | true=>exact absurd (aP1 hr hn hx hy c) h
  unfold sZ;rw [this,aC7];simp
def CleanC (es:List S46) (l:List S98):Prop:=∀ f x,get l f=some x->sZ es f=false
theorem CleanC.none {es:List S46} {l:List S98} (h:CleanC es l) {f:List UInt8} (hf:sZ es f=true):get l f=none:=by
  cases hg:get l f with
  | none=>rfl
  | some x=>rw [h f x hg] at hf; cases hf
def aYy (l:List S98):Prop:=∀ f x,get l f=some x->f=vE\/f=rB\/wT f=true
theorem aLn {kk:Nat} {s:S77} (h:SI kk s) (hk:kk+500<4611686018427387904) (hon:s.f3=false) (c:S79) (hc:c.f2.length<=1000000) :
    ∃ e s',dA c s=some (e,c,s')/\SI (kk+500) s'/\Kp s s'/\(∀ f,sZ c.f2 f=false->get s'.f0 f=get s.f0 f)/\(∀ f x,get s'.f0 f=some x->get s.f0 f=some x)/\(used s'.f0<=used s.f0/\s'.f0.length<=s.f0.length) /\
      ((e=0/\s'.f3=false/\CleanC c.f2 s'.f0)\/(e=9/\s'.f3=true)):=by
  obtain⟨i1,i2,i3,i4,i5,i6⟩:=aHu (sZ c.f2) (s.f0.map S98.f0) s kk h hon (aB1 h.rise) λf hf=>by obtain⟨x,hx,rfl⟩:=List.mem_map.1 hf;exact⟨x,aGj h.rise hx⟩
  refine⟨_,_,aQe h hk c hc,i1.mono (by have:=h.len; rw [List.length_map]; omega),i2,i3,i4,i5,?_⟩;rcases i6 with ⟨a,b,d⟩ | q
  · refine .inl ⟨a,b,λf x hx=>?_⟩
    cases g:sZ c.f2 f with
    | false=>rfl
    | true =>
      have h1:=i4 f x hx;have h2:=d f (List.mem_map.2 ⟨x,(tI h1).1,(tI h1).2⟩) g;rw [h2] at hx;cases hx
  · exact .inr q
def FitC (s:S77) (m c:Nat):Prop:=(used s.f0:Int)+m<=s.f1/\s.f0.length+c<=500
theorem FitC.mono {s:S77} {m m' c c':Nat} (h:FitC s m c) (h1:m'<=m) (h2:c'<=c):FitC s m' c':=⟨by have:=h.1; omega,by have:=h.2; omega⟩
theorem aJx {kk:Nat} {s:S77} (h:SI kk s) (hk:kk+500<4611686018427387904) (hon:s.f3=false) (c:S79) {n:List UInt8} (hn:sV n=true) (hg:get s.f0 n=none) {p:List Int} (hp:Bs p) :
    ∃ e s',fF c n p s=some (e,c,s')/\SI (kk+2) s'/\Kp s s'/\(∀ f,f≠n->get s'.f0 f=get s.f0 f) /\
      ((e=0/\s'.f3=false/\get s'.f0 n=some (aMy n p))\/(e=9/\s'.f3=true)\/(e=10/\s'=s)) /\
      (∀ m c,FitC s (p.length+m) (c+1)->e≠10/\(e=0->FitC s' m c)):=by
  have h32:=aK6 hn;obtain⟨k1,o1⟩:=aT9 h hon hn p;have h1:=h.app (n:=n) (p:=p) hp;have hE:fF c n p s=(if ((rF s n p).1==0)=true then some ((aDc (rF s n p).2 n).1,c,(aDc (rF s n p).2 n).2) else some ((rF s n p).1,c,(rF s n p).2)):=by
    unfold fF;rw [h.Append (by omega) (by omega) p];simp only [Option.bind_some];split
    · rw [show pG (some (rF s n p).2) n=_ from h1.Sync (by omega) (by omega)]
      rfl
    · rfl
  rw [hg] at o1;have hu:=aBz h.rise ⟨n,[]++p,0⟩;have hl:=aE2 h.rise ⟨n,[]++p,0⟩;rw [hg] at hu hl;simp only [Option.getD_none,List.nil_append,Option.isSome_none,List.length_nil,Nat.add_zero] at hu hl;rcases o1 with ⟨e,es,hr⟩ | ⟨⟨e,on⟩ | ⟨e,off⟩,l1⟩
  · refine⟨10,s,?_,h.mono (by omega),Kp.refl s,λ_ _=>rfl,.inr (.inr ⟨rfl,rfl⟩),λm c hf=>?_⟩
    · rw [hE,e,es]; rfl
    · exfalso
      obtain⟨f1,f2⟩:=hf;rcases hr with hr | hr <;> omega
  · simp only [Option.getD_none,List.nil_append] at l1 hu hl
    have hx:get (rF s n p).2.f0 n=some ⟨n,p,0⟩:=by rw [l1,xH h.rise,if_pos rfl]
    obtain⟨k2,o2⟩:=aG9 h1 on hx λx=>put (rF s n p).2.f0 ⟨x.f0,x.f1,x.f1.length⟩;have h2:=h1.syn (n:=n);have hu2:=aBz h1.rise ⟨n,p,p.length⟩;have hl2:=aE2 h1.rise ⟨n,p,p.length⟩;rw [hx] at hu2 hl2;simp only [Option.getD_some,Option.isSome_some,if_true] at hu2 hl2;refine⟨(aDc (rF s n p).2 n).1,(aDc (rF s n p).2 n).2,?_,h2,Kp.trans k1 k2,λf hf=>?_,?_,λm c hfit=>?_⟩
    · rw [hE,e]; rfl
    · rcases o2 with ⟨_,_,l2⟩ | ⟨_,_,l2⟩
      · rw [show (aDc (rF s n p).2 n).2.f0=_ from l2,xH h1.rise,if_neg (λq=>hf q.symm),l1,xH h.rise,if_neg (λq=>hf q.symm)]
      · rw [show (aDc (rF s n p).2 n).2.f0=_ from l2,l1,xH h.rise,if_neg (λq=>hf q.symm)]
    · rcases o2 with ⟨a,b,l2⟩ | ⟨a,b,l2⟩
      · exact .inl ⟨a,b,by rw [show (aDc (rF s n p).2 n).2.f0=_ from l2,xH h1.rise,if_pos rfl]; rfl⟩
      · exact .inr (.inl ⟨a,b⟩)
    · rcases o2 with ⟨a,b,l2⟩ | ⟨a,b,l2⟩
      · refine⟨by rw [show (aDc (rF s n p).2 n).1=0 from a]; decide,λ_=>?_⟩
        obtain⟨f1,f2⟩:=hfit;have l2':(aDc (rF s n p).2 n).2.f0=put (rF s n p).2.f0 ⟨n,p,p.length⟩:=l2;have r2:=(Kp.trans k1 k2).1;refine⟨?_,?_⟩
        · rw [show (aDc (rF s n p).2 n).2.f1=s.f1 from r2,l2']
          have hu3:used (put (rF s n p).2.f0 ⟨n,p,p.length⟩)=used (rF s n p).2.f0:=by omega
          rw [hu3,l1];omega
        · rw [l2',hl2,l1,hl]
          simp only [if_neg (by simp:¬ (false=true))];omega
      · refine⟨by rw [show (aDc (rF s n p).2 n).1=9 from a]; decide,λq=>?_⟩
        rw [show (aDc (rF s n p).2 n).1=9 from a] at q;cases q
  · simp only [Option.getD_none,List.nil_append] at l1
    refine⟨9,(rF s n p).2,?_,h1.mono (by omega),k1,λf hf=>?_,.inr (.inl ⟨rfl,off⟩),λm c hfit=>⟨by decide,λq=>by cases q⟩⟩
    · rw [hE,e]; rfl
    · rw [l1,xH h.rise,if_neg (λq=>hf q.symm)]
theorem aLr {k:Int} {es:List S46} (hk:1<=k/\k<=8) (hc:Chain 0 es) (hl:es.length<=250):(jQ 99 (aEf k es)).length<=40 * es.length+40:=by have h1:=aL (n:=k.toNat) (by omega);have h2:=aL (n:=es.length) (by omega);have h3:=hc.len;rw [sF];simp only [aEf,List.length_append];omega
theorem aK3 {kk:Nat} {s:S77} (h:SI kk s) (hk:kk+500<4611686018427387904) (hon:s.f3=false) {k:Int} (hk8:1<=k/\k<=8) {old es:List S46} (hc:Chain 0 es) (hl:es.length<=250) (hg:get s.f0 rB=none) :
    ∃ e s',cV ⟨(),k,old⟩ es s=some (e,⟨(),k,if e=0 then es else old⟩,s')/\SI (kk+3) s'/\Kp s s'/\(∀ f,f≠rB->f≠vE->get s'.f0 f=get s.f0 f) /\
      ((e=0/\s'.f3=false/\get s'.f0 vE=some (aMy vE (jQ 99 (aEf k es)))/\get s'.f0 rB=none)\/((e=9/\s'.f3=true\/e=10/\s'.f3=false)/\get s'.f0 vE=get s.f0 vE)) /\
      (FitC s (40 * es.length+40) 1->e≠10):=by
  have hpl:=aLr hk8 hc hl;have hBs:Bs (jQ 99 (aEf k es)):=aB0 (by decide) (aKz k es);have h1:=aL (n:=k.toNat) (by omega);have h2:=aL (n:=es.length) (by omega);have h3:=hc.len;have hU1:=sU k.toNat [] (by omega) (by simp only [List.length_nil]; omega);have hU2:=sU es.length (uv k.toNat) (by omega) (by omega);have hpub:=aMi es es.length 0 0 (uv k.toNat++uv es.length) (by omega) (by rw [List.drop_zero]; exact hc) (by simp only [List.length_append]; omega) (by omega);rw [List.drop_zero] at hpub;have hlay:=zB (p:=[]) (kind:=99) (by decide) (aKz k es) (by simp only [aEf,List.length_append]; omega) (by simp);have dTC:rB≠vE:=by decide
  obtain⟨e1,s1,w1,i1,k1,g1,o1,t1⟩:=aJx h hk hon ⟨(),k,old⟩ aI8 hg hBs;have hstart:cV ⟨(),k,old⟩ es s=fT ⟨(),k,old⟩ es s (aEf k es):=by unfold cV;rw [lt_,nO (n:=k) (by omega) (by omega),show k=((k.toNat:Nat):Int) by omega,hU1];simp only [Option.bind_some,List.nil_append];rw [lt_,nO (by omega) (by omega),hU2];simp only [Option.bind_some];rw [show (0:Int)=((0:Nat):Int) from rfl,hpub];simp only [Option.bind_some];unfold iB aEf;rw [List.append_assoc];simp only [Int.toNat_natCast]
  rw [hstart];unfold fT;rw [hlay];simp only [Option.bind_some,List.nil_append];rw [show ([99,97,116,46,116,109,112]:List UInt8)=rB from rfl,w1];simp only [Option.bind_some];have fit1:FitC s (40 * es.length+40) 1->e1≠10:=λhf=>(t1 0 0 (hf.mono (by omega) (by omega))).1;by_cases c1:e1=0
  rotate_left
  · rw [if_pos (by simpa using c1)]
    refine⟨e1,s1,by rw [if_neg c1],i1.mono (by omega),k1,λf a b=>g1 f a,?_,fit1⟩;rcases o1 with ⟨a,_⟩ | ⟨a,b⟩ | ⟨a,b⟩
    · exact absurd a c1
    · exact .inr ⟨.inl ⟨a,b⟩,g1 _ dTC.symm⟩
    · exact .inr ⟨.inr ⟨a,by rw [b]; exact hon⟩,g1 _ dTC.symm⟩
  rw [if_neg (by simp [c1])];obtain⟨on1,v1⟩:s1.f3=false/\get s1.f0 rB=some (aMy rB (jQ 99 (aEf k es))):=by
    rcases o1 with ⟨_,a,b⟩ | ⟨a,_⟩ | ⟨a,_⟩
    · exact⟨a,b⟩
    · rw [c1] at a; cases a
    · rw [c1] at a; cases a
  rw [show ([99,97,116]:List UInt8)=vE from rfl,i1.Rename (by omega) (by decide) (by decide)];simp only [Option.bind_some];have hren:aOb s1 rB vE=aBt s1 rB λx=>put (del s1.f0 rB) ⟨vE,x.f1,x.f2⟩:=by unfold aOb;rw [if_pos aI8,if_pos (zD aHa on1)]
  obtain⟨k4,o4⟩:=aG9 i1 on1 v1 λx=>put (del s1.f0 rB) ⟨vE,x.f1,x.f2⟩;have i4:=i1.ren (a:=rB) (b:=vE);rw [← hren] at k4 o4;rcases o4 with ⟨a,b,l4⟩ | ⟨a,b,l4⟩
  · rw [if_neg (by rw [a]; simp)]
    refine⟨0,_,rfl,i4.mono (by omega),Kp.trans k1 k4,λf c d=>?_,.inl ⟨rfl,b,?_,?_⟩,λ_=>by decide⟩
    · rw [l4,xH (yG i1.rise _),if_neg (λe=>d e.symm),aC6 i1.rise,if_neg (λe=>c e.symm)]
      exact g1 f c
    · rw [l4,xH (yG i1.rise _),if_pos rfl]
      rfl
    · rw [l4,xH (yG i1.rise _),if_neg dTC.symm,aC6 i1.rise,if_pos rfl]
  · rw [if_pos (by rw [a]; simp)]
    refine⟨9,_,by rw [a]; rfl,i4.mono (by omega),Kp.trans k1 k4,λf c d=>by rw [l4]; exact g1 f c,.inr ⟨.inl ⟨rfl,b⟩,by rw [l4]; exact g1 _ dTC.symm⟩,λ_=>by decide⟩
theorem aNr {l:List S61} (hl:l.length<=100000) {x:S61} (hx:l[0]?=some x) :
    loop (λs:Int×Int×Int=>cJ l s.1 s.2.1 s.2.2) (x.f2,x.f2,0)=some (aF8 l,aBd l):=by
  have e0:ckL l 0=l.foldl ckF (ck0 l 0 x):=by
    cases l with
    | nil=>cases hx
    | cons y l=>cases hx; rfl
  have hk:=kD (b:=λs:Int×Int×Int=>cJ l s.1 s.2.1 s.2.2)
    (λk=>(((l.take k).foldl ckF (ck0 l 0 x)).f4,((l.take k).foldl ckF (ck0 l 0 x)).f5,(k:Int)))
    (t:=((l.foldl ckF (ck0 l 0 x)).f4,(l.foldl ckF (ck0 l 0 x)).f5)) l.length (λk hk=>by
      have hy:=List.getElem?_eq_getElem (l:=l) (i:=k) hk;show cJ l _ _ (k:Int)=_;unfold cJ;rw [if_pos (by simp only [decide_eq_true_eq]; omega),bG rfl hy];simp only [Option.bind_some,lt_];rw [w64 (by omega) (by omega),aH1 ckF _ hy];rfl) (by
      show cJ l _ _ ((l.length:Nat):Int)=_;unfold cJ;rw [if_neg (by simp only [decide_eq_true_eq]; omega),List.take_length])
  unfold aF8 aBd;rw [e0];exact hk
theorem aR3 {k:Int} {l:List S61} {a b:Nat} (hs:Seg k l) (hr:Run k a l) (hb:b=a+l.length) (hb2:b<1000) (old:List S46) (s:S77) :
    dI ⟨(),k,old⟩ l s=(fF ⟨(),k,old⟩ (qH a b) (wZ l k.toNat) s).bind λy=>some (⟨qH a b,(a:Int),(b:Int),aF8 l,aBd l⟩,y.1,y.2.1,y.2.2):=by
  have hps:=hs.ps;have hx:=List.getElem?_eq_getElem (l:=l) (i:=0) hps;have hat:at_ l 0=some l[0]:=hx;have hlp:=aNr (by omega) hx;generalize l[0]=x0 at hat hlp;have hra:=aMm hs hr (by omega);rw [show (a:Int)+(l.length:Int)=(b:Int) by omega] at hra;unfold dI;rw [aMj hr.gd k (by omega),bBz hs,Option.bind_some,if_neg (by simp),aOx hs,Option.bind_some,hra,Option.bind_some,hat,Option.bind_some,aOy (by omega) hb2,Option.bind_some];unfold kJ;rw [hlp,Option.bind_some];unfold iP kH;exact rfl
theorem wR {c:S79} {e:Int} (h:e=0\/e=9) (s:S77):dD c e s=some (e,c,s):=by unfold dD eR eQ;rcases h with rfl | rfl <;> rfl
theorem aNh {c:S79} {e f:Int} {s s':S77} (h0:e≠0) (h9:e≠9) (hw:dA c s=some (f,c,s')):dD c e s=some (if f=0 then e else f,c,s'):=by
  unfold dD eR eQ;rw [if_pos (by simpa using h0),if_pos (by simpa using h9),hw];simp only [Option.bind_some];by_cases c0:f=0
  · rw [if_neg (by simp [c0]),if_pos c0]
  · rw [if_pos (by simpa using c0),if_neg c0]
end Go.Proofs.YtdkpjpoajlmmfaaGreatDoor.P
