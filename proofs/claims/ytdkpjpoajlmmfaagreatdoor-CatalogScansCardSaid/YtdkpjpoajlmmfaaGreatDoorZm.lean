/- Texts of the claim, joined: what it uses of Se, Sf, Sg, Sh, Si, Sj, Sk, Sl, Sm, Sn, So, Sp, Sq, Sr, Ss, St, Ta, Tb, Tc, Tg, Ua, Wa, Wb, Wc, Wd, We, Wf. -/
import Derived.Test.YtdkpjpoajlmmfaaGreatDoorZl
import Derived.Lib.ParseIntB
namespace Go.Proofs.YtdkpjpoajlmmfaaGreatDoor.P
open Go Go.RowKit Go.Proofs.YtdkpjpoajlmmfaaGreatDoor.E Go.Proofs.YtdkpjpoajlmmfaaGreatDoor.M
set_option linter.unusedVariables false
set_option linter.unusedSectionVars false
theorem aVh (x y:List UInt8):pQ x y=some (Op.bytesLess x y):=by unfold pQ oG;simp
theorem aYy {U:List (List UInt8)} (a:Up U) (hlen:U.length<1099511627776) {s:List UInt8} {k:Nat} (hk:U[k]?=some s):dQ U s=some ((k:Int),true):=by
 have r:=(List.getElem?_eq_some_iff.1 hk).1;unfold dQ;obtain⟨y,c,hm⟩:=aC6 (b:=λq:Int×Int=>bS U s q.1 q.2) (s:=(0,(U.length:Int)))
  (λq=>∃ i j:Nat,q=((i:Int),(j:Int))/\i<=k/\k<=j/\j<=U.length) (λq=>(q.2 - q.1).toNat) (λt=>t=(k:Int)) ⟨0,U.length,rfl,Nat.zero_le _,by omega,Nat.le_refl _⟩ (by
  rintro q ⟨i,j,rfl,d,f,g⟩;show (∃ s',bS U s (i:Int) (j:Int)=some (.inl s')/\_)\/∃ t,bS U s (i:Int) (j:Int)=some (.inr t)/\_;unfold bS;by_cases u:i<j
  ·have hx:=List.getElem?_eq_getElem (l:=U) (i:=(i+j) / 2) (by omega);have m:nX .u64 (((i+j:Nat)):Int) 1=(((i+j) / 2:Nat):Int):=kZ (k:=.u64) (i+j) 1 (by decide);rw [if_pos (by simp only [decide_eq_true_eq];omega)];simp only [lt_];rw [w64 (n:=(i:Int)+(j:Int)) (by omega) (by omega),nN (by omega) (by omega),show (i:Int)+(j:Int)=((i+j:Nat):Int) by omega,m,w64 (by omega) (by omega),bG rfl hx];simp only [Option.bind_some];rw [aVh];simp only [Option.bind_some];unfold dD;by_cases o:(i+j) / 2<k
   ·have hb:=a.get hx hk o;rw [if_pos hb,w64 (by omega) (by omega)];exact .inl ⟨_,rfl,⟨(i+j) / 2+1,j,rfl,by omega,f,g⟩,by simp only;omega⟩
   ·have hb:Op.bytesLess (U[(i+j) / 2]'(by omega)) s=false:=by
     rcases Nat.lt_or_ge k ((i+j) / 2) with h | h
     ·exact aGx (a.get hk hx h)
     ·have e:(i+j) / 2=k:=by omega
      have p:U[(i+j) / 2]'(by omega)=s:=by
       have:U[(i+j) / 2]?=some s:=by rw [e];exact hk
       rw [hx] at this;exact Option.some.inj this
      rw [p,yJ]
    rw [if_neg (by rw [hb];simp)];exact .inl ⟨_,rfl,⟨i,(i+j) / 2,rfl,d,by omega,by omega⟩,by simp only;omega⟩
  ·rw [if_neg (by simp only [decide_eq_true_eq];omega)];exact .inr ⟨_,rfl,by rw [show i=k by omega]⟩)
 rw [c,hm];simp only [Option.bind_some];unfold dV eH;rw [if_pos (by simp only [decide_eq_true_eq];omega),bG rfl hk];simp
def rF (U:List (List UInt8)):List Int:=(U.map λs=>uv s.length++stb s).flatten
theorem aOs (U:List (List UInt8)) (s:List UInt8):rF (U++[s])=rF U++(uv s.length++stb s):=by simp [rF]
theorem aCz:∀ (U:List (List UInt8)),(∀ s∈U,s.length<=32)->(rF U).length<=42 * U.length
 | [],_=>by simp [rF]
 | s::U,h=>by have a:=aCz U λx hx=>h x (List.mem_cons_of_mem _ hx);have b:=h s List.mem_cons_self;have c:=aO (n:=s.length) (by omega);have e:rF (s::U)=(uv s.length++stb s)++rF U:=rfl;rw [e];simp only [List.length_append,List.length_cons,xY];omega
def sK (U l:List (List UInt8)):List Int:=l.map λs=>((ix U s:Nat):Int)
def tP (l:List (List UInt8)):List Int:=uv (uq l).length++rF (uq l)++fY (sK (uq l) l)
theorem aO7 (U l:List (List UInt8)) (s:List UInt8):sK U (l++[s])=sK U l++[((ix U s:Nat):Int)]:=by simp [sK]
theorem yB (U l:List (List UInt8)):(sK U l).length=l.length:=by simp [sK]
theorem aXy {U:List (List UInt8)} {s:List UInt8} (h:s∈U):ix U s<U.length:=(List.getElem?_eq_some_iff.1 (aId h)).1
theorem aDe {U l:List (List UInt8)} (hs:∀ s∈l,s∈U) (a:U.length<=4096):I64 (sK U l):=λx hx=>by unfold sK at hx;obtain⟨s,hm,rfl⟩:=List.mem_map.1 hx;have:=aXy (hs s hm);unfold i64;omega
section
variable {l:List (List UInt8)} (hl:l.length<=4096) (h32:∀ s∈l,s.length<=32)
theorem aRh {m:List Int} (h:m.length<=4096) (hi:I64 m):(fY m).length<=1048576:=by obtain⟨w,hw,e⟩:=aIa m;rw [e];exact aZh hw h hi
include hl h32
theorem aSt {U:List (List UInt8)} (a:Up U) (hs:∀ s∈l,s∈U) (c:U.length<=4096) {p:List Int} (hp:p.length<=1000000):pS l U p=some (p++fY (sK U l)):=by
 have h:=iC (b:=λs:List Int×Int=>iX l U s.1 s.2) (λk=>(sK U (l.take k),(k:Int))) (t:=sK U l) l.length (λk hk=>by
  have hx:=List.getElem?_eq_getElem hk;have hm:=hs _ (List.getElem_mem hk);show iX l U (sK U (l.take k)) (k:Int)=_;unfold iX;rw [if_pos (by simp only [decide_eq_true_eq];omega),bG rfl hx];simp only [Option.bind_some];rw [aYy a (by omega) (aId hm)];simp only [Option.bind_some];rw [bN (by rw [yB];simp;omega),lt_,w64 (by omega) (by omega),List.take_add_one,hx];simp only [Option.toList_some];rw [aO7];rfl) (by
  show iX l U (sK U (l.take l.length)) (l.length:Int)=_;unfold iX;rw [if_neg (by simp),List.take_length])
 unfold pS;rw [show (([],0):List Int×Int)=(sK U (l.take 0),((0:Nat):Int)) from rfl,h];simp only [Option.bind_some];unfold qT tE;have hi:=aDe hs c;rw [aB1 (by rw [yB];omega) hi];simp only [Option.bind_some];have:=aRh (m:=sK U l) (by rw [yB];omega) hi;rw [bN (by omega)]
theorem aQ4:uO l=some (tP l):=by
 have e:=aL4 l;have c:∀ s∈uq l,s.length<=32:=λs hs=>h32 s ((aCm l s).1 hs);unfold uO rI slices_Compact_string;rw [bN (by omega)];simp only [Option.bind_some];rw [show Lib.compact (l.mergeSort λx y=>decide (x<=y))=uq l from rfl,lt_,nN (by omega) (by omega),sV _ [] (by omega) (by have:=aO (n:=(uq l).length) (by omega);simp;omega)];simp only [Option.bind_some,List.nil_append];have hu:=aO (n:=(uq l).length) (by omega);obtain⟨a,d⟩:∃ a,a=uv (uq l).length:=⟨_,rfl⟩;rw [← d] at hu ⊢;have h:=iC (b:=λs:List Int×Int=>iY (uq l) s.1 s.2) (λk=>(a++rF ((uq l).take k),(k:Int))) (t:=a++rF (uq l)) (uq l).length (λk hk=>by
  have hx:=List.getElem?_eq_getElem hk;have hs:=c _ (List.getElem_mem hk);have hf:=aCz ((uq l).take k) λs hs=>c s (List.mem_of_mem_take hs);have f:(rF ((uq l).take k)).length<=42 * k:=by simp at hf;omega
  show iY (uq l) (a++rF ((uq l).take k)) (k:Int)=_;unfold iY;rw [if_pos (by simp only [decide_eq_true_eq];omega),bG rfl hx];simp only [Option.bind_some];rw [aEh _ _ (by omega) (by simp;omega)];simp only [Option.bind_some];rw [lt_,w64 (by omega) (by omega),List.take_add_one,hx];simp only [Option.toList_some];rw [aOs];simp) (by
  show iY (uq l) (a++rF ((uq l).take (uq l).length)) ((uq l).length:Int)=_;unfold iY;rw [if_neg (by simp),List.take_length])
 have e0:a++rF ((uq l).take 0)=a:=by simp [rF]
 rw [show ((a,0):List Int×Int)=(a++rF ((uq l).take 0),((0:Nat):Int)) by rw [e0];rfl,h];simp only [Option.bind_some];unfold qU;have g:=aCz (uq l) c;rw [aSt hl h32 (aYf l) (λs hs=>(aCm l s).2 hs) (by omega) (by simp;omega)];unfold tP;rw [d]
end
section
variable {l:List (List UInt8)} (hl:l.length<=4096)
include hl
end
theorem aQf {s:List UInt8} (h:s.length<=32) (r:List Int):pT 32 (uv s.length++(stb s++r))=some (s,r):=by unfold pT;rw [show IntKind.u64.wrap 32=32 from nN (by omega) (by omega),aIo (by omega) _ (by omega)];simp only;rw [if_pos (by simp only [List.length_append,xY];omega),Int.toNat_natCast,List.take_left' (xY s),List.drop_left' (xY s),aVd]
theorem aIl:∀ (D acc:List (List UInt8)) (r:List Int),Up (acc++D)->(∀ s∈D,s.length<=32)->aDs acc D.length (rF D++r)=some (acc++D,r)
 | [],acc,r,_,_=>by simp [aDs,rF]
 | s::D,acc,r,hU,h32=>by
  have e:rF (s::D)++r=uv s.length++(stb s++(rF D++r)):=by show (uv s.length++stb s)++rF D++r=_;simp
  rw [e];show (match pT 32 (uv s.length++(stb s++(rF D++r))) with
   | some (t,q)=>if aIv acc t=true then aDs (acc++[t]) D.length q else none
   | none=>none)=_
  rw [aQf (h32 s List.mem_cons_self)];have hr:aIv acc s=true:=by
   unfold aIv;cases hx:acc[acc.length - 1]? with
   | none=>rfl
   | some y=>exact hU.get (i:=acc.length - 1) (j:=acc.length) (by rw [List.getElem?_append_left (by have:=(List.getElem?_eq_some_iff.1 hx).1;omega),hx]) (by rw [List.getElem?_append_right (Nat.le_refl _),Nat.sub_self];rfl) (by have:=(List.getElem?_eq_some_iff.1 hx).1;omega)
  simp only [hr,if_true];rw [aIl D (acc++[s]) r (by simpa using hU) λx hx=>h32 x (List.mem_cons_of_mem _ hx)];simp
theorem aO8 {l:List (List UInt8)} (hl:l.length<=4096) (h32:∀ s∈l,s.length<=32):aKc (tP l)=some l:=by
 have f:=aL4 l;have b:=aYf l;have c:∀ s∈uq l,s.length<=32:=λs hs=>h32 s ((aCm l s).1 hs);have hs:∀ s∈l,s∈uq l:=λs hs=>(aCm l s).2 hs;have hi:=aDe hs (by omega);have hr:=aAq (l:=sK (uq l) l) (by rw [yB];omega) hi;have hp:aGh (fY (sK (uq l) l))=some (sK (uq l) l,[]):=by
  unfold vI at hr;split at hr
  ·rename_i m he;cases hr;exact he
  ·cases hr
 unfold aKc aIn tP;rw [List.append_assoc,aIo (by omega) _ (by omega)];simp only [Int.toNat_natCast];rw [aIl (uq l) [] _ (by simpa using b) c];simp only [List.nil_append,hp];rw [if_pos]
 ·simp only [Option.some.injEq];unfold tx sK;rw [List.map_map];have key:∀ (m:List (List UInt8)),(∀ s∈m,s∈uq l)->m.map ((λi:Int=>(uq l).getD i.toNat []) ∘ λs=>((ix (uq l) s:Nat):Int))=m:=by
   intro m hm
   induction m with
   | nil=>rfl
   | cons s m ih =>
    rw [List.map_cons,ih λx hx=>hm x (List.mem_cons_of_mem _ hx)];congr 1;show (uq l).getD ((ix (uq l) s:Nat):Int).toNat []=s;rw [Int.toNat_natCast,List.getD_eq_getElem?_getD,aId (hm s List.mem_cons_self)];rfl
  exact key l hs
 ·refine⟨?_,?_⟩
  ·unfold okI;rw [List.all_eq_true];intro x hx;unfold sK at hx;obtain⟨s,hm,rfl⟩:=List.mem_map.1 hx;have:=aXy (hs s hm);simp only [decide_eq_true_eq];omega
  ·unfold usd;intro hf;obtain⟨j,d,e⟩:=List.mem_map.1 hf;have a:j<(uq l).length:=List.mem_range.1 d;refine absurd ?_ (of_decide_eq_false e);unfold sK;have hm:(uq l)[j]'a∈l:=(aCm l _).1 (List.getElem_mem a);have hg:=aId (hs _ hm);have:=b.nodup hg (List.getElem?_eq_getElem a);exact List.mem_map.2 ⟨_,hm,by rw [this]⟩
theorem aBr {m:List Int} (hi:I64 m):Bs (fY m):=by obtain⟨w,hw,e⟩:=aIa m;rw [e];exact bAc hw hi
theorem aL9:∀ U:List (List UInt8),Bs (rF U)
 | []=>Bs.nil
 | s::U=>((Bs.uv _).app (Bs.stb s)).app (aL9 U)
theorem aRy {l:List (List UInt8)} (hl:l.length<=4096):Bs (tP l) :=
 ((Bs.uv _).app (aL9 _)).app (aBr (aDe (λs hs=>(aCm l s).2 hs) (by have:=aL4 l;omega)))
def oX (s:Nat):List Int:=[((s % 256:Nat):Int),((s / 256 % 256:Nat):Int),((s / 65536 % 256:Nat):Int),((s / 16777216 % 256:Nat):Int)]
theorem aEt (s:Nat):Bs (oX s):=λx hx=>by simp [oX] at hx;omega
theorem qG (s:Nat):(oX s).length=4:=rfl
theorem aJz {s:Nat} (h:s<4294967296) (r:List Int):aBq (oX s++r)=s:=by show aBq (((s % 256:Nat):Int)::((s / 256 % 256:Nat):Int)::((s / 65536 % 256:Nat):Int)::((s / 16777216 % 256:Nat):Int)::r)=s;rw [aLo];omega
def yT (kind:Int) (b:List Int):List Int:=oX b.length++[kind]++b
def jK (kind:Int) (b:List Int):List Int:=yT kind b++oX (crc (yT kind b))
theorem aFr (kind:Int) (b:List Int):(yT kind b).length=5+b.length:=by simp [yT,qG];omega
theorem rZ (kind:Int) (b:List Int):(jK kind b).length=9+b.length:=by simp [jK,aFr,qG];omega
theorem aNa {kind:Int} {b:List Int} (hk:0<=kind/\kind<256) (hB:Bs b):Bs (yT kind b):=((aEt _).app (Bs.mk hk Bs.nil)).app hB
theorem aB9 {kind:Int} {b:List Int} (hk:0<=kind/\kind<256) (hB:Bs b):Bs (jK kind b):=(aNa hk hB).app (aEt _)
theorem aEx {s:Nat} (hs:s<4294967296):yA (s:Int)=some (oX s):=by
 unfold yA oX;simp only [lt_];rw [show (8:Int)=((8:Nat):Int) from rfl,show (16:Int)=((16:Nat):Int) from rfl,show (24:Int)=((24:Nat):Int) from rfl,
  kZ _ _ (by decide),kZ _ _ (by decide),kZ _ _ (by decide),xD,xD,xD,xD]
theorem zJ {p b:List Int} {kind:Int} (hk:0<=kind/\kind<256) (hB:Bs b) (hb:b.length<4294967000) (hp:p.length<1099511627776):wN p kind b=some (p++jK kind b):=by unfold wN;rw [lt_,wC,Nat.mod_eq_of_lt (by omega),aEx (by omega)];simp only [Option.bind_some];rw [show oX b.length++[kind]++b=yT kind b from rfl];have hl:=aFr kind b;have a:=qG (crc (yT kind b));rw [bN (by simp [qG]),bN (by simp [qG];omega),bN (by omega),aGi (aNa hk hB) (by omega)];simp only [Option.bind_some];rw [aEx (aOj _)];simp only [Option.bind_some];rw [bN (by simp only [List.length_append];omega),List.append_assoc];rfl
theorem aA8 {p b q:List Int} {kind:Int} (hb:b.length<=1048576):aAj (p++jK kind b++q) (p.length:Int)=(kind,b,((p.length+(jK kind b).length:Nat):Int),0):=by
 have a:(p++jK kind b++q).drop p.length=jK kind b++q:=by rw [List.append_assoc,List.drop_left]
 have hl:=aFr kind b;have c:=rZ kind b;have hn:aBq (jK kind b++q)=b.length:=by show aBq (oX b.length++[kind]++b++oX (crc (yT kind b))++q)=_;rw [List.append_assoc,List.append_assoc,List.append_assoc,aJz (by omega)]
 have ht:(jK kind b++q).take (5+b.length)=yT kind b:=by show (yT kind b++oX (crc (yT kind b))++q).take (5+b.length)=_;rw [List.append_assoc,List.take_left' hl]
 have hd:(jK kind b++q).drop (5+b.length)=oX (crc (yT kind b))++q:=by show (yT kind b++oX (crc (yT kind b))++q).drop (5+b.length)=_;rw [List.append_assoc,List.drop_left' hl]
 unfold aAj;rw [if_neg (by simp only [List.length_append];omega),Int.toNat_natCast,a,hn,ht,hd,aJz (aOj _),if_neg (by simp only [List.length_append];omega),if_neg (by simp only [List.length_append];omega),if_pos rfl];refine Prod.ext ?_ (Prod.ext ?_ (Prod.ext ?_ rfl))
 ·rfl
 ·show (yT kind b).drop 5=b;rfl
 ·show (p.length:Int)+(b.length:Int)+9=((p.length+(jK kind b).length:Nat):Int);rw [c];omega
def nV (l:List S61):List Int:=l.map λe=>IntKind.i64.wrap e.f0
def jA (l:List S61):List Int:=l.map λe=>e.f1
def jB (l:List S61):List Int:=l.map λe=>e.f2
def nF (l:List S61):List (List UInt8):=l.map λe=>e.f3
def mF (l:List S61):List Nat:=l.map λe=>e.f4
def sQ (c:List Int):List Int:=uv c.length++c
def yK (l:List S61):List Int:=sQ (fY (nV l))++(sQ (fY (jA l))++(sQ (fY (jB l))++(sQ (tP (nF l))++sQ (fY (rl (mF l))))))
def aQz (l:List S61):Prop:=∀ e∈l,(0<=e.f0/\e.f0<18446744073709551616)/\i64 e.f1/\i64 e.f2/\e.f3.length<=32/\e.f4<18446744073709551616
section
variable {l:List S61} (hl:l.length<=4096) (hL:aQz l)
theorem aEv:I64 (nV l):=λx hx=>by obtain⟨e,_,rfl⟩:=List.mem_map.1 hx;exact aB5 _
include hL
theorem aDb:I64 (jA l):=λx hx=>by obtain⟨e,he,rfl⟩:=List.mem_map.1 hx;exact (hL e he).2.1
theorem aDi:I64 (jB l):=λx hx=>by obtain⟨e,he,rfl⟩:=List.mem_map.1 hx;exact (hL e he).2.2.1
theorem aLi:∀ s∈nF l,s.length<=32:=λs hs=>by obtain⟨e,he,rfl⟩:=List.mem_map.1 hs;exact (hL e he).2.2.2.1
theorem aWt:∀ x∈mF l,x<18446744073709551616:=λx hx=>by obtain⟨e,he,rfl⟩:=List.mem_map.1 hx;exact (hL e he).2.2.2.2
omit hL
theorem wK {m:List Int} (hm:m.length<=4096) (hi:I64 m):(fY m).length<=11+10 * m.length:=by
 have a:=aTe m (w:=0) (by decide);have b:=aLj hi;have c:=aO (n:=m.length) (by omega);have e:(asL 0 m).length=1+(uv m.length).length+(b0 m).length:=by show ((0:Int)::(uv m.length++b0 m)).length=_;simp;omega
 omega
theorem aL3 {m:List (List UInt8)} (hm:m.length<=4096) (h32:∀ s∈m,s.length<=32):(tP m).length<=21+52 * m.length:=by have b:=aL4 m;have c:=aCz (uq m) λs hs=>h32 s ((aCm m s).1 hs);have d:=aO (n:=(uq m).length) (by omega);have a:=wK (m:=sK (uq m) m) (by rw [yB];omega) (aDe (λs hs=>(aCm m s).2 hs) (by omega));rw [yB] at a;unfold tP;simp only [List.length_append];omega
theorem aAh {c:List Int} (h:c.length<18446744073709551616):(sQ c).length<=10+c.length:=by have:=aO h;unfold sQ;simp;omega
theorem wB {c:List Int} (h:Bs c):Bs (sQ c):=(Bs.uv _).app h
include hl hL
theorem aHq:(fY (nV l)).length<=11+10 * l.length/\(fY (jA l)).length<=11+10 * l.length/\(fY (jB l)).length<=11+10 * l.length/\(tP (nF l)).length<=21+52 * l.length/\(fY (rl (mF l))).length<=11+10 * l.length:=by
 have e0:(nV l).length=l.length:=by simp [nV]
 have e:(jA l).length=l.length:=by simp [jA]
 have f:(jB l).length=l.length:=by simp [jB]
 have g:(nF l).length=l.length:=by simp [nF]
 have h:(rl (mF l)).length=l.length:=by rw [aDf];simp [mF]
 have h0:=wK (m:=nV l) (by omega) aEv;have a:=wK (m:=jA l) (by omega) (aDb hL);have b:=wK (m:=jB l) (by omega) (aDi hL);have c:=aL3 (m:=nF l) (by omega) (aLi hL);have d:=wK (m:=rl (mF l)) (by omega) (aLx _);rw [e0] at h0;rw [e] at a;rw [f] at b;rw [g] at c;rw [h] at d;exact⟨h0,a,b,c,d⟩
theorem aGz:Bs (fY (nV l))/\Bs (fY (jA l))/\Bs (fY (jB l))/\Bs (tP (nF l))/\Bs (fY (rl (mF l))) :=
 ⟨aBr aEv,aBr (aDb hL),aBr (aDi hL),aRy (by simp [nF];omega),aBr (aLx _)⟩
theorem aFh:(yK l).length<=115+92 * l.length:=by obtain⟨h0,a,b,d,e⟩:=aHq hl hL;have f:=aAh (c:=fY (nV l)) (by omega);have g:=aAh (c:=fY (jA l)) (by omega);have h:=aAh (c:=fY (jB l)) (by omega);have i:=aAh (c:=tP (nF l)) (by omega);have j:=aAh (c:=fY (rl (mF l))) (by omega);unfold yK;simp only [List.length_append];omega
theorem aSm:Bs (yK l):=by obtain⟨h0,a,b,c,d⟩:=aGz hl hL;exact (wB h0).app ((wB a).app ((wB b).app ((wB c).app (wB d))))
theorem aIm {c:List Int} (hB:Bs c) (h:c.length<=1048576) (r:List Int):pT 1048576 (sQ c++r)=some (bts c,r):=by unfold pT sQ;rw [show IntKind.u64.wrap 1048576=1048576 from nN (by omega) (by omega),List.append_assoc,aIo (by omega) _ (by omega)];simp only;rw [if_pos (by simp only [List.length_append];omega),Int.toNat_natCast,List.take_left' rfl,List.drop_left' rfl]
theorem aTy:pTx 5 (yK l)=some ([bts (fY (nV l)),bts (fY (jA l)),bts (fY (jB l)),bts (tP (nF l)),bts (fY (rl (mF l)))],[]):=by obtain⟨h0,d,e,f,g⟩:=aHq hl hL;obtain⟨b0,b1,b2,b,c⟩:=aGz hl hL;unfold yK;have a:=aIm hl hL c (by omega) [];rw [List.append_nil] at a;simp only [pTx,aIm hl hL b0 (by omega),aIm hl hL b1 (by omega),aIm hl hL b2 (by omega),aIm hl hL b (by omega),a]
end
def dB (e:S61):S61:=⟨e.f0,e.f1,e.f2,e.f3,jU e.f4⟩
theorem aKe (s:Int):∀ (l:List S61),(∀ e∈l,0<=e.f0/\e.f0<18446744073709551616) ->
  aDw s (nV l) (jA l) (jB l) (nF l) ((mF l).map jU)=if l.all (λe=>pW e s)=true then some (l.map dB) else none
 | [],_=>rfl
 | e::l,h=>by
  have ih:=aKe s l λx hx=>h x (List.mem_cons_of_mem _ hx);have h0:=h e List.mem_cons_self;have hw:IntKind.u64.wrap (IntKind.i64.wrap e.f0)=e.f0:=by rw [IntKind.wrap_u64,IntWalk.i64_left];unfold wrap64;omega
  show aDw s (IntKind.i64.wrap e.f0::nV l) (e.f1::jA l) (e.f2::jB l) (e.f3::nF l) (jU e.f4::(mF l).map jU)=_;unfold aDw;rw [hw,ih,show (⟨e.f0,e.f1,e.f2,e.f3,jU e.f4⟩:S61)=dB e from rfl,show pW (dB e) s=pW e s from rfl,List.all_cons];cases pW e s with
  | false=>rfl
  | true =>
   rw [if_pos rfl,Bool.true_and];cases l.all λe=>pW e s <;> rfl
theorem aS5 {l:List S61} (hl:l.length<=4096) (hL:aQz l) (s:Int) :
  evL s (bts (fY (nV l))) (bts (fY (jA l))) (bts (fY (jB l))) (bts (tP (nF l))) (bts (fY (rl (mF l))))=if l.all (λe=>pW e s)=true then some (l.map dB) else none:=by
 obtain⟨b0,b1,b2,a,b⟩:=aGz hl hL;unfold evL;rw [aDg b0,aDg b1,aDg b2,aDg a,aDg b,aAq (by simp [nV];omega) aEv,aAq (by simp [jA];omega) (aDb hL),aAq (by simp [jB];omega) (aDi hL),
  aO8 (by simp [nF];omega) (aLi hL),show aNr (fY (rl (mF l)))=some ((mF l).map jU) by
   unfold aNr;rw [aAq (by rw [aDf];simp [mF];omega) (aLx _)];exact aO9 (aWt hL)]
 simp only;rw [if_pos (by simp [nV,jA,jB,nF,mF]),aKe s l λe he=>(hL e he).1]
theorem aS7 {l:List S61} (hl:l.length<=4096) (hL:aQz l) (s:Int) (p q:List Int) :
  evR (p++jK 101 (yK l)++q) (p.length:Int) s=if l.all (λe=>pW e s)=true then (l.map dB,((p.length+(jK 101 (yK l)).length:Nat):Int),0) else ([],0,3):=by
 have hb:=aFh hl hL;unfold evR;rw [aA8 (by omega)];simp only;rw [if_neg (by simp),if_neg (by simp),aTy hl hL];simp only;rw [aS5 hl hL s];cases l.all λe=>pW e s <;> rfl
theorem aMe {l:List S61} (hl:l.length<=4096):∀ (m k:Nat),k+m=l.length ->
  loop (λs:List Int×List Int×List Int×List (List UInt8)×List Nat×Int=>nA l s.1 s.2.1 s.2.2.1 s.2.2.2.1 s.2.2.2.2.1 s.2.2.2.2.2) (nV (l.take k),jA (l.take k),jB (l.take k),nF (l.take k),mF (l.take k),(k:Int))=some (nV l,jA l,jB l,nF l,mF l)
 | 0,k,hk=>by rw [List.take_of_length_le (by omega)];refine bC ?_;show nA l (nV l) (jA l) (jB l) (nF l) (mF l) (k:Int)=_;unfold nA;rw [if_neg (by simp only [decide_eq_true_eq];omega)]
 | m+1,k,hk=>by
  have hx:=List.getElem?_eq_getElem (l:=l) (i:=k) (by omega);have ht:l.take (k+1)=l.take k++[l[k]'(by omega)]:=by rw [List.take_add_one,hx];rfl
  have ih:=aMe hl m (k+1) (by omega);rw [ht] at ih;have e0:(nV (l.take k)).length=k:=by simp [nV];omega
  have a:(jA (l.take k)).length=k:=by simp [jA];omega
  have b:(jB (l.take k)).length=k:=by simp [jB];omega
  have c:(nF (l.take k)).length=k:=by simp [nF];omega
  have d:(mF (l.take k)).length=k:=by simp [mF];omega
  refine (cH ?_).trans ih;show nA l (nV (l.take k)) (jA (l.take k)) (jB (l.take k)) (nF (l.take k)) (mF (l.take k)) (k:Int)=_;unfold nA xQ xP;rw [if_pos (by simp only [decide_eq_true_eq];omega),bG rfl hx];simp only [Option.bind_some,lt_];rw [bN (by simp;omega),bN (by simp;omega),bN (by simp;omega),bN (by simp;omega),bN (by simp;omega),w64 (n:=(k:Int)+1) (by omega) (by omega)];simp only [nV,jA,jB,nF,mF,List.map_append,List.map_cons,List.map_nil];rfl
theorem aSc {c p:List Int} (hB:Bs c) (hc:c.length<=1048576) (hp:p.length<=100000000):mX p (bts c)=some (p++sQ c):=by
 have a:(bts c).length=c.length:=by simp [bts]
 rw [aEh _ _ (by omega) (by omega),aDg hB,a,List.append_assoc];rfl
theorem aK8 {l:List S61} (hl:l.length<=4096) (hL:aQz l) {p:List Int} (hp:p.length<1099511627776):aAe p l=some (p++jK 101 (yK l)):=by
 obtain⟨h0,i,j,m,n⟩:=aHq hl hL;obtain⟨b0,b1,b2,a,b⟩:=aGz hl hL;have hb:=aFh hl hL;unfold aAe;have hc:=aMe hl l.length 0 (by omega);rw [show ((0:Nat):Int)=0 from rfl] at hc;rw [show (([],[],[],[],[],0):List Int×List Int×List Int×List (List UInt8)×List Nat×Int)=(nV (l.take 0),jA (l.take 0),jB (l.take 0),nF (l.take 0),mF (l.take 0),0) from rfl,hc];simp only [Option.bind_some];unfold uU xM;rw [aB1 (by simp [nV];omega) aEv];simp only [Option.bind_some];rw [aB1 (by simp [jA];omega) (aDb hL)];simp only [Option.bind_some];rw [aB1 (by simp [jB];omega) (aDi hL)];simp only [Option.bind_some];rw [aQ4 (by simp [nF];omega) (aLi hL)];simp only [Option.bind_some];rw [aQ0 (by simp [mF];omega)];simp only [Option.bind_some];have eb:yK l=sQ (fY (nV l))++(sQ (fY (jA l))++(sQ (fY (jB l))++(sQ (tP (nF l))++sQ (fY (rl (mF l)))))):=rfl;rw [eb];clear eb hc hb;generalize fY (nV l)=c0 at *;generalize fY (jA l)=c1 at *;generalize fY (jB l)=c2 at *;generalize tP (nF l)=c3 at *;generalize fY (rl (mF l))=c4 at *;have st:∀ (k:Nat) (c acc:List Int),([c0,c1,c2,c3,c4]:List (List Int))[k]?=some c->Bs c->c.length<=1048576->acc.length<=100000000->mZ c0 c1 c2 c3 c4 acc (k:Int)=some (.inl (acc++sQ c,((k+1:Nat):Int))):=by
  intro k c acc hg hB d e;have o:k<5:=by have:=(List.getElem?_eq_some_iff.1 hg).1;simpa using this
  unfold mZ;rw [if_pos (by simp only [decide_eq_true_eq,List.length_cons,List.length_nil];omega),bG rfl hg];simp only [Option.bind_some];rw [aSc hB d e];simp only [Option.bind_some];rw [lt_,w64 (by omega) (by omega)];rfl
 have ol:∀ c:List Int,c.length<=1048576->(sQ c).length<=1048586:=λc h=>by have:=aAh (c:=c) (by omega);omega
 have q:=ol c0 (by omega);have r:=ol c1 (by omega);have t:=ol c2 (by omega);have u:=ol c3 (by omega);have f:loop (λs:List Int×Int=>mZ c0 c1 c2 c3 c4 s.1 s.2) ([],0)=some (((([]++sQ c0)++sQ c1)++sQ c2)++sQ c3++sQ c4):=by refine (cH (st 0 c0 [] rfl b0 (by omega) (by simp))).trans ?_;refine (cH (st 1 c1 _ rfl b1 (by omega) (by simp;omega))).trans ?_;refine (cH (st 2 c2 _ rfl b2 (by omega) (by simp;omega))).trans ?_;refine (cH (st 3 c3 _ rfl a (by omega) (by simp;omega))).trans ?_;refine (cH (st 4 c4 _ rfl b (by omega) (by simp;omega))).trans ?_;refine bC ?_;show mZ c0 c1 c2 c3 c4 _ ((4+1:Nat):Int)=_;unfold mZ;rw [if_neg (by simp)]
 rw [f];simp only [Option.bind_some];unfold uT xN;have g:((([]++sQ c0)++sQ c1)++sQ c2)++sQ c3++sQ c4=sQ c0++(sQ c1++(sQ c2++(sQ c3++sQ c4))):=by simp
 rw [g];have v:=ol c4 (by omega);rw [zJ (by decide) ((wB b0).app ((wB b1).app ((wB b2).app ((wB a).app (wB b))))) (by simp only [List.length_append];omega) hp];rfl
theorem aT5 (x:S61) (k:Int):aE1 x k=some (pW x k):=aKv x k
theorem aQ1 (e:S61):aCg (dB e) e=some true:=by unfold aCg dB;simp only [beq_self_eq_true,if_true];rw [aT6,wJ];simp
theorem aKw (l:List S61) (h:l.length<2 ^ 62):wQ (l.map dB) l=some true:=by
 unfold wQ;rw [if_neg (by simp)];have:=iC (b:=λs=>oQ (l.map dB) l s) (λk=>(k:Int)) (t:=.inl ()) l.length (λk hk=>by
  have hx:l[k]?=some (l[k]'hk):=List.getElem?_eq_getElem hk;have a:(l.map dB)[k]?=some (dB (l[k]'hk)):=by rw [List.getElem?_map,hx];rfl
  unfold oQ;rw [if_pos (by simp;omega),bG rfl a,bG rfl hx];simp only [Option.bind_some,aQ1];rw [if_neg (by simp),w64 (by omega) (by omega)];rfl) (by
  unfold oQ;rw [if_neg (by simp)])
 rw [show (0:Int)=((0:Nat):Int) from rfl,this];rfl
def ckF (c:S90) (e:S61):S90 :=
 ⟨c.f0,c.f1,if e.f0<c.f2 then e.f0 else c.f2,if c.f3<e.f0 then e.f0 else c.f3,if e.f2<c.f4 then e.f2 else c.f4,if c.f5<e.f2 then e.f2 else c.f5,
  if (Op.bytesLess c.f6 e.f3||c.f6==e.f3)=true then c.f6 else e.f3,if Op.bytesLess c.f7 e.f3=true then e.f3 else c.f7⟩
def ck0 (l:List S61) (a:Int) (e:S61):S90:=⟨(l.length:Int),a,e.f0,e.f0,e.f2,e.f2,e.f3,e.f3⟩
def ckL (l:List S61) (a:Int):S90:=match l with
 | []=>⟨0,a,0,0,0,0,[],[]⟩
 | e::_=>l.foldl ckF (ck0 l a e)
theorem aSp (l:List S61) (c:S90):(l.foldl ckF c).f0=c.f0/\(l.foldl ckF c).f1=c.f1:=by
 induction l generalizing c with
 | nil=>exact⟨rfl,rfl⟩
 | cons e l ih=>exact ih (ckF c e)
theorem aOh (l:List S61) (a:Int):(ckL l a).f0=(l.length:Int)/\(ckL l a).f1=a:=by
 unfold ckL;cases l with
 | nil=>exact⟨rfl,rfl⟩
 | cons e l=>exact aSp _ _
theorem aH4 {α β:Type} (f:β->α->β) (b:β) {l:List α} {k:Nat} {x:α} (h:l[k]?=some x):(l.take (k+1)).foldl f b=f ((l.take k).foldl f b) x:=by rw [List.take_add_one,h,List.foldl_append];rfl
theorem aMp {l:List S61} (h:0<l.length) (hl:l.length<4611686018427387904) (a:Int):qI l a=some (ckL l a):=by
 cases l with
 | nil=>simp at h
 | cons e r =>
  obtain⟨m,hm⟩:∃ m,m=e::r:=⟨_,rfl⟩;rw [← hm] at hl ⊢;have h0:at_ m 0=some e:=by subst hm;rfl
  unfold qI;rw [h0];simp only [Option.bind_some];have hk:=iC (b:=λs:Int×Int×Int×Int×List UInt8×List UInt8×Int=>iA m s.1 s.2.1 s.2.2.1 s.2.2.2.1 s.2.2.2.2.1 s.2.2.2.2.2.1 s.2.2.2.2.2.2)
   (λk=>(((m.take k).foldl ckF (ck0 m a e)).f2,((m.take k).foldl ckF (ck0 m a e)).f3,((m.take k).foldl ckF (ck0 m a e)).f4,((m.take k).foldl ckF (ck0 m a e)).f5,((m.take k).foldl ckF (ck0 m a e)).f6,((m.take k).foldl ckF (ck0 m a e)).f7,(k:Int)))
   (t:=((m.foldl ckF (ck0 m a e)).f2,(m.foldl ckF (ck0 m a e)).f3,(m.foldl ckF (ck0 m a e)).f4,(m.foldl ckF (ck0 m a e)).f5,(m.foldl ckF (ck0 m a e)).f6,(m.foldl ckF (ck0 m a e)).f7)) m.length (λk hk=>by
    have hx:=List.getElem?_eq_getElem (l:=m) (i:=k) hk;show iA m _ _ _ _ _ _ (k:Int)=_;unfold iA;rw [if_pos (by simp only [decide_eq_true_eq];omega),bG rfl hx];simp only [Option.bind_some,lt_];rw [w64 (by omega) (by omega),aH4 ckF _ hx];rfl) (by
    show iA m _ _ _ _ _ _ ((m.length:Nat):Int)=_;unfold iA;rw [if_neg (by simp only [decide_eq_true_eq];omega),List.take_length])
  have e0:ckL m a=m.foldl ckF (ck0 m a e):=by subst hm;rfl
  refine (congrArg (λo:Option (Int×Int×Int×Int×List UInt8×List UInt8)=>o.bind λt=>lV m a t.1 t.2.1 t.2.2.1 t.2.2.2.1 t.2.2.2.2.1 t.2.2.2.2.2) hk).trans ?_;unfold lV sI;simp only [Option.bind_some];obtain⟨d,f⟩:=aSp m (ck0 m a e);rw [e0];generalize m.foldl ckF (ck0 m a e)=c at d f ⊢;obtain⟨g,c1,c2,c3,j,n,p,q⟩:=c;simp only [ck0] at d f;subst d;subst f;rfl
def ckB (c:S90):List Int:=uv c.f0.toNat++(uv c.f1.toNat++(uv c.f2.toNat++(uv c.f3.toNat++(uv (zz c.f4)++(uv (zz c.f5)++(uv c.f6.length++(stb c.f6++(uv c.f7.length++stb c.f7))))))))
def pgL (c:List S61):List Int:=jK 101 (yK c)
def bQ (cs:List (List S61)):List Int:=cs.flatMap pgL
def dM:List (List S61)->Nat->List S90
 | [],_=>[]
 | c::r,a=>ckL c (a:Int)::dM r (a+(pgL c).length)
def uX (k:Nat) (cs:List S90):List Int:=uv k++(uv cs.length++cs.flatMap ckB)
def xC (l:List S61) (k:Nat):List Int :=
 bQ (pcs 64 l)++jK 102 (uX k (dM (pcs 64 l) 0))++jK 116 (oX (bQ (pcs 64 l)).length)
def Gd (e:S61):Prop:=(0<=e.f0/\e.f0<18446744073709551616)/\e.f4<18446744073709551616
theorem bB3 {l:List S61} (h:gL 48 g61 l):∀ e∈l,Gd e:=λe he=>by obtain⟨a,c,d,f,b⟩:=h.2 e he;unfold gI Lit.wf at a;simp only [Bool.and_eq_true,decide_eq_true_eq] at a;refine⟨⟨a.1,Int.lt_of_le_of_lt a.2 (by decide)⟩,?_⟩;unfold gF Lit.wf at b;simpa using b
structure Run (k a:Int) (l:List S61):Prop where
 fm:∀ e∈l,pW e k=true
 gd:∀ e∈l,Gd e
 of:∀ (i:Nat) (x:S61),l[i]?=some x->x.f0=a+i
theorem xS {e:S61} {k:Int} (h:pW e k=true):0<=e.f1/\e.f1<k /\ -1099511627776<=e.f2/\e.f2<=1099511627776/\e.f3.length<=32/\e.f0<1099511627776:=by unfold pW at h;simp only [Bool.and_eq_true,decide_eq_true_eq] at h;omega
section
variable {k a:Int} {l:List S61}
theorem Run.laid (h:Run k a l) (hk:k<=8):aQz l:=λe he=>by have d:=xS (h.fm e he);obtain⟨b,c⟩:=h.gd e he;unfold i64;exact⟨b,by omega,by omega,by omega,c⟩
theorem Run.drop (h:Run k a l) (n:Nat):Run k (a+n) (l.drop n) :=
 ⟨λe he=>h.fm e (List.mem_of_mem_drop he),λe he=>h.gd e (List.mem_of_mem_drop he),λi x hx=>by
  rw [List.getElem?_drop] at hx;have:=h.of _ x hx;omega⟩
theorem Run.take (h:Run k a l) (n:Nat):Run k a (l.take n) :=
 ⟨λe he=>h.fm e (List.mem_of_mem_take he),λe he=>h.gd e (List.mem_of_mem_take he),λi x hx=>by
  rw [List.getElem?_take] at hx;split at hx
  ·exact h.of _ x hx
  ·cases hx⟩
end
def flt (k a:Int):List S61->Nat->Option Int
 | [],_=>none
 | e::r,i=>if pW e k=true then (if e.f0=a+i then flt k a r (i+1) else some 8) else some 3
theorem aP4 {k a:Int}:∀ {l:List S61} {i:Nat},flt k a l i=none->(∀ e∈l,Gd e)->Run k (a+i) l
 | [],i,_,_=>⟨λe he=>(by cases he),λe he=>(by cases he),λi x hx=>(by simp at hx)⟩
 | e::r,i,h,hg=>by
  unfold flt at h;split at h
  ·rename_i hf;split at h
   ·rename_i h0;have ih:=aP4 h λx hx=>hg x (List.mem_cons_of_mem _ hx);refine⟨λx hx=>?_,hg,λj x hx=>?_⟩
    ·rcases List.mem_cons.1 hx with rfl | hx
     ·exact hf
     ·exact ih.fm x hx
    ·cases j with
     | zero=>simp at hx;subst hx;simpa using h0
     | succ j =>
      have:=ih.of j x (by simpa using hx);omega
   ·cases h
  ·cases h
theorem aM7 {k a:Int}:∀ {l:List S61} {i:Nat},Run k (a+i) l->flt k a l i=none
 | [],i,_=>rfl
 | e::r,i,h=>by unfold flt;have h0:=h.of 0 e rfl;rw [if_pos (h.fm e List.mem_cons_self),if_pos (by simpa using h0)];refine aM7 ⟨λx hx=>h.fm x (List.mem_cons_of_mem _ hx),λx hx=>h.gd x (List.mem_cons_of_mem _ hx),λj x hx=>?_⟩;have:=h.of (j+1) x (by simpa using hx);omega
section
variable {k:Int} {l:List S61} {e0:S61} (hg:∀ e∈l,Gd e) (h0:l[0]?=some e0) (hlen:l.length<=1024)
include hg h0 hlen
theorem aQq:∀ (m i:Nat),i+m=l.length->(i=0\/e0.f0<1099511627776) ->
  loop (λs:Int=>hY l k s) (i:Int)=some (match flt k e0.f0 (l.drop i) i with | none=>.inl () | some c=>.inr ([],c))
 | 0,i,hi,_=>by rw [List.drop_of_length_le (by omega)];refine bC ?_;show hY l k (i:Int)=_;unfold hY;rw [if_neg (by simp only [decide_eq_true_eq];omega)];rfl
 | m+1,i,hi,hs=>by
  have a:i<l.length:=by omega
  have hx:=List.getElem?_eq_getElem (l:=l) (i:=i) a;obtain⟨⟨b,d⟩,e⟩:=hg _ (List.getElem_mem a);obtain⟨⟨f,g⟩,j⟩:=hg e0 (List.mem_of_getElem? h0);rw [List.drop_eq_getElem_cons a];have hl:hY l k (i:Int)=if pW l[i] k=true then (if l[i].f0=e0.f0+i then some (.inl ((i+1:Nat):Int)) else some (.inr (.inr ([],8)))) else some (.inr (.inr ([],3))):=by
   unfold hY;rw [if_pos (by simp only [decide_eq_true_eq];omega),bG rfl hx];simp only [Option.bind_some,lt_];rw [aKv];simp only [Option.bind_some];cases hf:pW l[i] k with
   | false=>rfl
   | true =>
    have o:=xS hf;rw [if_neg (by simp),show at_ l 0=some e0 from h0];simp only [Option.bind_some];have hw:IntKind.u64.wrap (e0.f0+IntKind.u64.wrap (i:Int))=e0.f0+i\/i=0:=by
     rcases hs with h | h
     ·exact .inr h
     ·left;rw [nN (n:=(i:Int)) (by omega) (by omega),nN (by omega) (by omega)]
    have hw:IntKind.u64.wrap (e0.f0+IntKind.u64.wrap (i:Int))=e0.f0+i:=by
     rcases hw with h | h
     ·exact h
     ·subst h;rw [nN (n:=((0:Nat):Int)) (by omega) (by omega),nN (by omega) (by omega)]
    rw [hw];by_cases he:l[i].f0=e0.f0+i
    ·rw [if_neg (by simpa using he),if_pos trivial,if_pos he,w64 (by omega) (by omega)];rfl
    ·rw [if_pos (by simpa using he),if_pos trivial,if_neg he]
  unfold flt;by_cases hf:pW l[i] k=true
  ·rw [if_pos hf] at hl ⊢;by_cases he:l[i].f0=e0.f0+i
   ·rw [if_pos he] at hl ⊢;refine (cH hl).trans (aQq m (i+1) (by omega) ?_);have:=xS hf;right;omega
   ·rw [if_neg he] at hl ⊢;exact bC hl
  ·rw [if_neg hf] at hl ⊢;exact bC hl
end
theorem aZo {α:Type} {q:Nat} (a:1<=q) (xs:List α) (k:Nat):(pcs q xs)[k]?=if k * q<xs.length then some ((xs.drop (k * q)).take q) else none:=by
 split
 ·rename_i h;exact aG7 a h
 ·rename_i h;rw [List.getElem?_eq_none];rw [zK];have:=(aAl (m:=xs.length) (k:=k) a);omega
structure Cut (k:Int) (c:List S61):Prop where
 ps:0<c.length
 le:c.length<=64
 run:∃ a:Int,0<=a/\a+c.length<=1099511627776/\Run k a c
theorem Run.cut {k a:Int} {l:List S61} (h:Run k a l) (d:0<=a/\(0<l.length->a+l.length<=1099511627776)):∀ c∈pcs 64 l,Cut k c:=by
 intro c hc;obtain⟨j,b⟩:=List.getElem?_of_mem hc;rw [aZo (by decide)] at b;split at b
 ·rename_i e;cases b;have hr:=(h.drop (j * 64)).take 64;have:=d.2 (by omega);exact⟨by simp;omega,by simp;omega,a+(j * 64:Nat),by omega,by simp only [List.length_take,List.length_drop];omega,hr⟩
 ·cases b
theorem aLe:∀ (l:List S61) (c:S90),((l.foldl ckF c).f2<=c.f2/\∀ e∈l,(l.foldl ckF c).f2<=e.f0)/\(c.f3<=(l.foldl ckF c).f3/\∀ e∈l,e.f0<=(l.foldl ckF c).f3)/\((l.foldl ckF c).f4<=c.f4/\∀ e∈l,(l.foldl ckF c).f4<=e.f2)/\(c.f5<=(l.foldl ckF c).f5/\∀ e∈l,e.f2<=(l.foldl ckF c).f5)
 | [],c=>by simp
 | x::l,c=>by
  obtain⟨⟨b,a2⟩,⟨b1,b2⟩,⟨c1,c2⟩,d,a⟩:=aLe l (ckF c x);simp only [List.foldl_cons];generalize l.foldl ckF (ckF c x)=z at *;have f:(ckF c x).f2<=c.f2/\(ckF c x).f2<=x.f0:=by show (if x.f0<c.f2 then x.f0 else c.f2)<=_/\(if x.f0<c.f2 then x.f0 else c.f2)<=_;split <;> omega
  have g:c.f3<=(ckF c x).f3/\x.f0<=(ckF c x).f3:=by show _<=(if c.f3<x.f0 then x.f0 else c.f3)/\_<=(if c.f3<x.f0 then x.f0 else c.f3);split <;> omega
  have h:(ckF c x).f4<=c.f4/\(ckF c x).f4<=x.f2:=by show (if x.f2<c.f4 then x.f2 else c.f4)<=_/\(if x.f2<c.f4 then x.f2 else c.f4)<=_;split <;> omega
  have i:c.f5<=(ckF c x).f5/\x.f2<=(ckF c x).f5:=by show _<=(if c.f5<x.f2 then x.f2 else c.f5)/\_<=(if c.f5<x.f2 then x.f2 else c.f5);split <;> omega
  refine⟨⟨by omega,λe he=>?_⟩,⟨by omega,λe he=>?_⟩,⟨by omega,λe he=>?_⟩,by omega,λe he=>?_⟩ <;> rcases List.mem_cons.1 he with rfl | he
  ·omega
  ·exact a2 e he
  ·omega
  ·exact b2 e he
  ·omega
  ·exact c2 e he
  ·omega
  ·exact a e he
theorem aEr (p2 a:Int->Prop) (b:List UInt8->Prop):∀ (l:List S61) (c:S90),(p2 c.f2/\p2 c.f3)/\(a c.f4/\a c.f5)/\(b c.f6/\b c.f7)->(∀ e∈l,p2 e.f0/\a e.f2/\b e.f3) ->
  (p2 (l.foldl ckF c).f2/\p2 (l.foldl ckF c).f3)/\(a (l.foldl ckF c).f4/\a (l.foldl ckF c).f5)/\(b (l.foldl ckF c).f6/\b (l.foldl ckF c).f7)
 | [],c,h,_=>h
 | x::l,c,h,hl=>by
  obtain⟨d,f,g⟩:=hl x List.mem_cons_self;refine aEr p2 a b l (ckF c x) ?_ λe he=>hl e (List.mem_cons_of_mem _ he);obtain⟨⟨i,j⟩,⟨k,m⟩,n,o⟩:=h;refine⟨⟨?_,?_⟩,⟨?_,?_⟩,?_,?_⟩
  ·show p2 (if x.f0<c.f2 then x.f0 else c.f2);split <;> assumption
  ·show p2 (if c.f3<x.f0 then x.f0 else c.f3);split <;> assumption
  ·show a (if x.f2<c.f4 then x.f2 else c.f4);split <;> assumption
  ·show a (if c.f5<x.f2 then x.f2 else c.f5);split <;> assumption
  ·show b (if (Op.bytesLess c.f6 x.f3||c.f6==x.f3)=true then c.f6 else x.f3);split <;> assumption
  ·show b (if Op.bytesLess c.f7 x.f3=true then x.f3 else c.f7);split <;> assumption
structure CkOk (c:S90):Prop where
 r0:0<c.f0/\c.f0<=64
 r1:0<=c.f1
 r2:0<=c.f2/\c.f2<=c.f3/\c.f3<1099511627776/\c.f3 - c.f2=c.f0 - 1
 r4:(-1099511627776<=c.f4/\c.f4<=1099511627776)/\(-1099511627776<=c.f5/\c.f5<=1099511627776)
 r6:c.f6.length<=32/\c.f7.length<=32
theorem aE6 {k a:Int} {c:List S61} (h:Run k a c) (hc:0<c.length):∃ x y,c[0]?=some x/\c[c.length - 1]?=some y/\x.f0=a/\y.f0=a+c.length - 1/\x∈c/\y∈c:=by have hx:=List.getElem?_eq_getElem (l:=c) (i:=0) hc;have b:=List.getElem?_eq_getElem (l:=c) (i:=c.length - 1) (by omega);have d:=h.of 0 _ hx;have e:=h.of _ _ b;exact⟨_,_,hx,b,by omega,by omega,List.getElem_mem _,List.getElem_mem _⟩
theorem aGy {k a:Int} {c:List S61} (h:Run k a c) (hc:0<c.length) (p:Int):(ckL c p).f2=a/\(ckL c p).f3=a+c.length - 1:=by
 obtain⟨x,y,hx,b,ex,ey,mx,my⟩:=aE6 h hc;have e:ckL c p=c.foldl ckF (ck0 c p x):=by
  cases c with
  | nil=>simp at hc
  | cons z c=>simp at hx;subst hx;rfl
 rw [e];obtain⟨⟨d,a2⟩,⟨b1,b2⟩,_⟩:=aLe c (ck0 c p x);have hi:=aEr (λv=>a<=v/\v<=a+c.length - 1) (λ_=>True) (λ_=>True) c (ck0 c p x) ⟨⟨by show a<=x.f0/\x.f0<=a+c.length - 1;omega,by show a<=x.f0/\x.f0<=a+c.length - 1;omega⟩,⟨trivial,trivial⟩,trivial,trivial⟩ λe he=>⟨by
  obtain⟨i,hi⟩:=List.getElem?_of_mem he;have:=h.of i e hi;have:=(List.getElem?_eq_some_iff.1 hi).1;omega,trivial,trivial⟩
 have f:=a2 x mx;have g:=b2 y my;omega
theorem Cut.ok {k:Int} {c:List S61} (h:Cut k c) {p:Int} (hp:0<=p):CkOk (ckL c p):=by
 obtain⟨a,h0,d,hr⟩:=h.run;have b:=h.ps;have hle:=h.le;obtain⟨f,g⟩:=aGy hr h.ps p;obtain⟨e0,i⟩:=aOh c p;obtain⟨x,y,hx,j,ex,ey,mx,my⟩:=aE6 hr h.ps;have e:ckL c p=c.foldl ckF (ck0 c p x):=by
  cases c with
  | nil=>simp at b
  | cons z c=>simp at hx;subst hx;rfl
 have hf:∀ e∈c,(-1099511627776<=e.f2/\e.f2<=1099511627776)/\e.f3.length<=32:=λe he=>by have:=xS (hr.fm e he);omega
 have hi:=aEr (λ_=>True) (λv => -1099511627776<=v/\v<=1099511627776) (λs=>s.length<=32) c (ck0 c p x) ⟨⟨trivial,trivial⟩,⟨(hf x mx).1,(hf x mx).1⟩,(hf x mx).2,(hf x mx).2⟩ λe he=>⟨trivial,(hf e he).1,(hf e he).2⟩;rw [← e] at hi;exact⟨by omega,by omega,by omega,hi.2.1,hi.2.2⟩
theorem CkOk.len {c:S90} (h:CkOk c) (a:c.f1<18446744073709551616):(ckB c).length<=144:=by
 obtain⟨a0,b,a2,a4,d⟩:=h;have e:=aO (n:=c.f0.toNat) (by omega);have f:=aO (n:=c.f1.toNat) (by omega);have g:=aO (n:=c.f2.toNat) (by omega);have i:=aO (n:=c.f3.toNat) (by omega);have j:=aO (n:=zz c.f4) (wU (by unfold i64;omega));have k:=aO (n:=zz c.f5) (wU (by unfold i64;omega));have l:=aO (n:=c.f6.length) (by omega);have m:=aO (n:=c.f7.length) (by omega);have o:(stb c.f6).length=c.f6.length:=by simp [stb]
 have p:(stb c.f7).length=c.f7.length:=by simp [stb]
 unfold ckB;simp only [List.length_append];omega
theorem Cut.pg {k:Int} {c:List S61} (h:Cut k c) (hk:k<=8):aQz c/\(pgL c).length<=6100/\9<=(pgL c).length/\Bs (pgL c):=by obtain⟨a,h0,b,hr⟩:=h.run;have hle:=h.le;have hL:=hr.laid hk;have hb:=aFh (by omega) hL;have e:=rZ 101 (yK c);exact⟨hL,by unfold pgL;omega,by unfold pgL;omega,aB9 (by decide) (aSm (by omega) hL)⟩
theorem aD7 (cs ds:List (List S61)):bQ (cs++ds)=bQ cs++bQ ds:=by simp [bQ]
theorem yL:∀ (cs:List (List S61)) (a:Nat),(dM cs a).length=cs.length
 | [],_=>rfl
 | c::cs,a=>by simp [dM,yL cs]
theorem aDa {k:Int} (hk:k<=8):∀ {cs:List (List S61)},(∀ c∈cs,Cut k c)->(bQ cs).length<=6100 * cs.length/\9 * cs.length<=(bQ cs).length/\Bs (bQ cs)
 | [],_=>⟨by simp [bQ],by simp [bQ],Bs.nil⟩
 | c::cs,h=>by obtain⟨a,b,d⟩:=aDa hk λx hx=>h x (List.mem_cons_of_mem _ hx);obtain⟨_,f,g,e⟩:=(h c List.mem_cons_self).pg hk;rw [show bQ (c::cs)=pgL c++bQ cs from rfl];exact⟨by simp;omega,by simp;omega,e.app d⟩
theorem aOi {k:Int} (hk:k<=8):∀ {cs:List (List S61)} {a:Nat},(∀ c∈cs,Cut k c)->∀ x∈dM cs a,CkOk x/\x.f1<=((a+(bQ cs).length:Nat):Int)/\(0<cs.length->x.f1<((a+(bQ cs).length:Nat):Int))
 | [],a,_,x,hx=>by cases hx
 | c::cs,a,h,x,hx=>by
  have hc:=h c List.mem_cons_self;obtain⟨_,d,f,g⟩:=hc.pg hk;rw [show bQ (c::cs)=pgL c++bQ cs from rfl,List.length_append];rcases List.mem_cons.1 hx with rfl | hx
  ·have e:=(aOh c (a:Int)).2;exact⟨hc.ok (by omega),by rw [e];omega,λ_=>by rw [e];omega⟩
  ·obtain⟨b,i,i3⟩:=aOi hk (λx hx=>h x (List.mem_cons_of_mem _ hx)) x hx;refine⟨b,by omega,λ_=>?_⟩;have:0<cs.length:=by rw [← yL cs (a+(pgL c).length)];exact List.length_pos_of_mem hx
   have:=i3 this;omega
theorem aNz {ns:List Nat} (h:∀ n∈ns,n<18446744073709551616) (p:List Int) (hl:p.length+10 * ns.length<=140737488355000):qJ p (ns.map λn:Nat=>(n:Int))=some (p++ns.flatMap uv):=by
 have hb:∀ m,m<=ns.length->((ns.take m).flatMap uv).length<=10 * m:=by
  intro m
  induction m with
  | zero=>intro _;simp
  | succ m ih =>
   intro hm;have hx:=List.getElem?_eq_getElem (l:=ns) (i:=m) (by omega);have:=aO (h _ (List.getElem_mem (l:=ns) (n:=m) (by omega)));rw [List.take_add_one,hx,List.flatMap_append,List.length_append];have:=ih (by omega);simp only [Option.toList_some,List.flatMap_cons,List.flatMap_nil,List.append_nil];omega
 unfold qJ;have hk:=iC (b:=λs:List Int×Int=>iB (ns.map λn:Nat=>(n:Int)) s.1 s.2) (λk=>(p++(ns.take k).flatMap uv,(k:Int))) (t:=p++ns.flatMap uv) ns.length (λk hk=>by
  have hx:=List.getElem?_eq_getElem (l:=ns) (i:=k) hk;have a:(ns.map λn:Nat=>(n:Int))[k]?=some ((ns[k]:Nat):Int):=by rw [List.getElem?_map,hx];rfl
  show iB _ _ (k:Int)=_;unfold iB;have c:=hb k (by omega);have d:=aO (h _ (List.getElem_mem hk));rw [if_pos (by simp only [decide_eq_true_eq,List.length_map];omega),bG rfl a];simp only [Option.bind_some];rw [sV _ _ (h _ (List.getElem_mem hk)) (by simp only [List.length_append];omega)];simp only [Option.bind_some,lt_];rw [w64 (by omega) (by omega),List.take_add_one,hx,List.flatMap_append];simp only [Option.toList_some,List.flatMap_cons,List.flatMap_nil,List.append_nil,List.append_assoc];rfl) (by
  show iB _ _ ((ns.length:Nat):Int)=_;unfold iB;rw [if_neg (by simp),List.take_length])
 rw [show (p,(0:Int))=(p++(ns.take 0).flatMap uv,((0:Nat):Int)) by simp,hk];rfl
def WL (k:Int) (l:List S61):List Int×Int :=
 if l.length=0\/k<1\/8<k then ([],1) else if 1024<l.length then ([],2) else
 match flt k (l.head?.map (·.f0) |>.getD 0) l 0 with
 | some c=>([],c)
 | none=>(xC l k.toNat,0)
section
variable {k:Int} (hk:k<=8)
include hk
theorem aKp:∀ (cs:List (List S61)) (p:List Int) (ch:List S90),(∀ c∈cs,Cut k c)->p.length+6100 * cs.length<=1000000->ch.length+cs.length<=100000 ->
  cs.foldlM (λ(s:List Int×List S90) l=>lO s.1 s.2 l) (p,ch)=some (p++bQ cs,ch++dM cs p.length)
 | [],p,ch,_,_,_=>by simp [bQ,dM]
 | c::cs,p,ch,h,hp,hch=>by
  have hc:=h c List.mem_cons_self;obtain⟨hL,a,b,d⟩:=hc.pg hk;have hle:=hc.le;simp only [List.length_cons] at hp hch;rw [List.foldlM_cons];have e:lO p ch c=some (p++pgL c,ch++[ckL c (p.length:Int)]):=by unfold lO;rw [aMp hc.ps (by omega)];simp only [Option.bind_some];rw [bN (by simp;omega),aK8 (by omega) hL (by omega)];rfl
  simp only [e,Option.bind_eq_bind,Option.bind_some];rw [aKp cs _ _ (λx hx=>h x (List.mem_cons_of_mem _ hx)) (by simp only [List.length_append];omega) (by simp;omega)];simp [bQ,dM]
end
theorem aWv {k:Int} (l:List S90) (h:∀ c∈l,CkOk c/\c.f1<1099511627776) (hl:l.length<=1000) (p:List Int) (hp:p.length<=100) :
  loop (λs:List Int×Int=>gJ l s.1 s.2) (p,0)=some (p++l.flatMap ckB):=by
 have hb:∀ m,m<=l.length->((l.take m).flatMap ckB).length<=144 * m:=by
  intro m
  induction m with
  | zero=>intro _;simp
  | succ m ih =>
   intro hm;have hx:=List.getElem?_eq_getElem (l:=l) (i:=m) (by omega);obtain⟨a,d⟩:=h _ (List.getElem_mem (l:=l) (n:=m) (by omega));have:=a.len (by omega);rw [List.take_add_one,hx,List.flatMap_append,List.length_append];have:=ih (by omega);simp only [Option.toList_some,List.flatMap_cons,List.flatMap_nil,List.append_nil];omega
 have hk:=iC (b:=λs:List Int×Int=>gJ l s.1 s.2) (λk=>(p++(l.take k).flatMap ckB,(k:Int))) (t:=p++l.flatMap ckB) l.length (λk hk=>by
  have hx:=List.getElem?_eq_getElem (l:=l) (i:=k) hk;obtain⟨a,d⟩:=h _ (List.getElem_mem hk);have e:=hb k (by omega);show gJ l _ (k:Int)=_;unfold gJ;rw [if_pos (by simp only [decide_eq_true_eq];omega),bG rfl hx];simp only [Option.bind_some,lt_];generalize l[k]=c at a d hx;obtain⟨a0,f,a2,a4,g⟩:=a;rw [nN (n:=c.f0) (by omega) (by omega),nN (n:=c.f1) (by omega) (by omega)];have hu:=aNz (ns:=[c.f0.toNat,c.f1.toNat,c.f2.toNat,c.f3.toNat]) (by simp;omega) (p++(l.take k).flatMap ckB) (by simp only [List.length_append,List.length_cons,List.length_nil];omega);simp only [List.map_cons,List.map_nil] at hu;rw [show ((c.f0.toNat:Nat):Int)=c.f0 by omega,show ((c.f1.toNat:Nat):Int)=c.f1 by omega,show ((c.f2.toNat:Nat):Int)=c.f2 by omega,show ((c.f3.toNat:Nat):Int)=c.f3 by omega] at hu;rw [hu];simp only [Option.bind_some];have j:=aO (n:=c.f0.toNat) (by omega);have o:=aO (n:=c.f1.toNat) (by omega);have q:=aO (n:=c.f2.toNat) (by omega);have r:=aO (n:=c.f3.toNat) (by omega);have i4:i64 c.f4:=by unfold i64;omega
  have i5:i64 c.f5:=by unfold i64;omega
  have u:=aO (n:=zz c.f4) (wU i4);have v:=aO (n:=zz c.f5) (wU i5);have w:=aO (n:=c.f6.length) (by omega);have x:(stb c.f6).length=c.f6.length:=by simp [stb]
  rw [zG i4 _ (by simp only [List.length_append,List.flatMap_cons,List.flatMap_nil,List.length_nil];omega)];simp only [Option.bind_some];rw [zG i5 _ (by simp only [List.length_append,List.flatMap_cons,List.flatMap_nil,List.length_nil];omega)];simp only [Option.bind_some];rw [aEh _ _ (by omega) (by simp only [List.length_append,List.flatMap_cons,List.flatMap_nil,List.length_nil];omega)];simp only [Option.bind_some];rw [aEh _ _ (by omega) (by simp only [List.length_append,List.flatMap_cons,List.flatMap_nil,List.length_nil];omega)];simp only [Option.bind_some];rw [w64 (by omega) (by omega),List.take_add_one,hx,List.flatMap_append];simp only [Option.toList_some,List.flatMap_cons,List.flatMap_nil,List.append_nil,List.append_assoc,ckB];rfl) (by
  show gJ l _ ((l.length:Nat):Int)=_;unfold gJ;rw [if_neg (by simp),List.take_length])
 rw [show (p,(0:Int))=(p++(l.take 0).flatMap ckB,((0:Nat):Int)) by simp,hk]
theorem aTa {k:Nat} (hk:k<=8) {l:List S90} (h:∀ c∈l,CkOk c/\c.f1<1099511627776) (hl:l.length<=1000):(uX k l).length<=20+144 * l.length/\Bs (uX k l):=by
 have e:=aO (n:=k) (by omega);have f:=aO (n:=l.length) (by omega);have key:∀ l:List S90,(∀ c∈l,CkOk c/\c.f1<1099511627776)->(l.flatMap ckB).length<=144 * l.length/\Bs (l.flatMap ckB):=by
  intro l
  induction l with
  | nil=>intro _;exact⟨by simp,Bs.nil⟩
  | cons c l ih =>
   intro h;obtain⟨g,a⟩:=ih λx hx=>h x (List.mem_cons_of_mem _ hx);obtain⟨b,i⟩:=h c List.mem_cons_self;have:=b.len (by omega);rw [List.flatMap_cons];refine⟨by simp only [List.length_append,List.length_cons];omega,Bs.app ?_ a⟩;exact (Bs.uv _).app ((Bs.uv _).app ((Bs.uv _).app ((Bs.uv _).app ((Bs.uv _).app ((Bs.uv _).app ((Bs.uv _).app ((Bs.stb _).app ((Bs.uv _).app (Bs.stb _)))))))))
 obtain⟨j,d⟩:=key l h;unfold uX;exact⟨by simp only [List.length_append];omega,(Bs.uv _).app ((Bs.uv _).app d)⟩
theorem aVz {n:Nat} (h:n<1099511627776):[IntKind.u8.wrap (n:Int),IntKind.u8.wrap (nX .i64 (n:Int) 8),IntKind.u8.wrap (nX .i64 (n:Int) 16),IntKind.u8.wrap (nX .i64 (n:Int) 24)]=oX n:=by have a:nX .i64 (n:Int) 8=((n / 256:Nat):Int):=kZ (k:=.i64) n 8 (by decide);have b:nX .i64 (n:Int) 16=((n / 65536:Nat):Int):=kZ (k:=.i64) n 16 (by decide);have c:nX .i64 (n:Int) 24=((n / 16777216:Nat):Int):=kZ (k:=.i64) n 24 (by decide);rw [a,b,c,xD,xD,xD,xD];rfl
structure Seg (k:Int) (l:List S61):Prop where
 k1:1<=k
 k8:k<=8
 ps:0<l.length
 le:l.length<=1024
 run:∃ a:Int,0<=a/\a+l.length<=1099511627776/\Run k a l
section
variable {k:Int} {l:List S61} (h:Seg k l)
include h
theorem Seg.cut:∀ c∈pcs 64 l,Cut k c:=by obtain⟨a,h0,b,hr⟩:=h.run;exact hr.cut ⟨h0,λ_=>b⟩
theorem Seg.num:(pcs 64 l).length<=16/\0<(pcs 64 l).length:=by have a:=h.le;have b:=h.ps;rw [zK];omega
theorem Seg.cks:(∀ x∈dM (pcs 64 l) 0,CkOk x/\x.f1<1099511627776)/\(dM (pcs 64 l) 0).length<=16/\(bQ (pcs 64 l)).length<=97600/\9<=(bQ (pcs 64 l)).length/\Bs (bQ (pcs 64 l)):=by obtain⟨n1,n2⟩:=h.num;obtain⟨p1,p2,p3⟩:=aDa h.k8 h.cut;refine⟨λx hx=>?_,by rw [yL];exact n1,by omega,by omega,p3⟩;obtain⟨c1,c2,_⟩:=aOi h.k8 h.cut x hx;exact⟨c1,by omega⟩
theorem Seg.foot:(uX k.toNat (dM (pcs 64 l) 0)).length<=2400/\Bs (uX k.toNat (dM (pcs 64 l) 0)):=by obtain⟨c1,c2,_⟩:=h.cks;have:=h.k8;obtain⟨f1,f2⟩:=aTa (k:=k.toNat) (by omega) c1 (by omega);exact⟨by omega,f2⟩
theorem bC2:oU l k=some (xC l k.toNat,0):=by
 obtain⟨n1,n2⟩:=h.num;obtain⟨c1,c2,c3,a,b⟩:=h.cks;obtain⟨f1,f2⟩:=h.foot;have c:=h.k1;have d:=h.k8;have hle:=h.le;unfold oU;rw [bN (by omega),aKp h.k8 _ _ _ h.cut (by simp;omega) (by simp;omega)];simp only [Option.bind_some,List.nil_append,List.length_nil];unfold qX;simp only [lt_];rw [nN (n:=k) (by omega) (by omega),nN (by omega) (by omega)];have hu:=aNz (ns:=[k.toNat,(dM (pcs 64 l) 0).length]) (by simp;omega) [] (by simp);simp only [List.map_cons,List.map_nil,List.nil_append] at hu;rw [show ((k.toNat:Nat):Int)=k by omega] at hu;rw [hu];simp only [Option.bind_some];have e:=aO (n:=k.toNat) (by omega);have f:=aO (n:=(dM (pcs 64 l) 0).length) (by omega);rw [aWv (k:=k) _ c1 (by omega) _ (by simp;omega)];simp only [Option.bind_some];unfold pN sH;have ef:([k.toNat,(dM (pcs 64 l) 0).length].flatMap uv++(dM (pcs 64 l) 0).flatMap ckB)=uX k.toNat (dM (pcs 64 l) 0):=by simp [uX]
 rw [ef,zJ (by decide) f2 (by omega) (by omega)];simp only [Option.bind_some,lt_];rw [aVz (by omega)];have g:=rZ 102 (uX k.toNat (dM (pcs 64 l) 0));rw [zJ (by decide) (aEt _) (by simp [qG]) (by simp only [List.length_append];omega)];rfl
end
theorem aMi {l:List S61} (hg:∀ e∈l,Gd e) (k:Int) (hl:l.length<4611686018427387904):tC l k=some (WL k l):=by
 unfold tC WL;have d:jQ l k true=some ([],1):=rfl;by_cases h0:l.length=0
 ·rw [if_pos (by simp [h0]),d,if_pos (.inl h0)]
 rw [if_neg (by simp;intro e;simp [e] at h0)];by_cases a:k<1
 ·rw [if_pos (by simpa using a),d,if_pos (.inr (.inl a))]
 rw [if_neg (by simpa using a)];by_cases b:8<k
 ·rw [show decide (8<k)=true by simpa using b,d,if_pos (.inr (.inr b))]
 rw [show decide (8<k)=false by simpa using b,if_neg (by rintro (h | h | h);exact h0 h;exact a h;exact b h)];unfold jQ;rw [if_neg (by simp)];by_cases hn:1024<l.length
 ·rw [if_pos (by simp only [decide_eq_true_eq];omega),if_pos hn]
 rw [if_neg (by simp only [decide_eq_true_eq];omega),if_neg hn];obtain⟨e0,f⟩:∃ e,l[0]?=some e:=⟨_,List.getElem?_eq_getElem (by omega)⟩;have g:(l.head?.map (·.f0) |>.getD 0)=e0.f0:=by rw [List.head?_eq_getElem?,f];rfl
 have:=aQq (k:=k) hg f (by omega) l.length 0 (by omega) (.inl rfl);rw [g,show (0:Int)=((0:Nat):Int) from rfl,this,List.drop_zero];simp only [Option.bind_some];cases hf:flt k e0.f0 l 0 with
 | some c=>rfl
 | none =>
  have hr:=aP4 hf hg;have i:=aE6 hr (by omega);obtain⟨x,y,hx,m,ex,ey,mx,my⟩:=i;have f1:=xS (hr.fm y my);have j:=hr.gd x mx;exact bC2 (l:=l) (k:=k) ⟨by omega,by omega,by omega,by omega,_,by have:=j.1;omega,by omega,hr⟩
theorem rdU {m:Nat} {most:Int} {r:List Int} (h:m<18446744073709551616) (hm:(m:Int)<=most) (hB:Bs (uv m++r)):bB ⟨uv m++r⟩ most=some (.inl ((m:Int),⟨r⟩)):=by have:=aCu most hB;rw [aIo h r hm] at this;exact this
theorem rdI {x:Int} {r:List Int} (h:i64 x) (hB:Bs (uv (zz x)++r)):cP ⟨uv (zz x)++r⟩=some (.inl (x,⟨r⟩)):=by have:=aHh hB;rw [aNj h r] at this;exact this
theorem rdT {s:List UInt8} {r:List Int} (h:s.length<=32) (hB:Bs (uv s.length++(stb s++r))) (hl:(uv s.length++(stb s++r)).length<9223372036854775808):fB ⟨uv s.length++(stb s++r)⟩ 32=some (.inl (s,⟨r⟩)):=by have:=aKz 32 hB hl;rw [aQf h r] at this;exact this
theorem aRf {a0:S128} {x:Int} {y:Int×S140} {ch:List S90} {c:S90} {r:List Int} {i:Nat} (hc:CkOk c) (o:c.f1<=(a0.f0.length:Int)) (q:a0.f0.length<=1000000) (hr:r.length<=1000000)
  (hB:Bs (ckB c++r)) (hi:(i:Int)<y.1) (hi':i<=1024) (s:ch.length=i) (h0:i=0->c.f1=0) (hp:0<i->∃ p,ch[i - 1]?=some p/\c.f2=p.f3+1/\p.f1<c.f1) :
  cV a0 x y ch (ckB c++r) (i:Int)=some (.inl (ch++[c],r,((i+1:Nat):Int))):=by
 obtain⟨t,u,v,w,b⟩:=hc;have z:=aO (n:=c.f2.toNat) (by omega);have i4:i64 c.f4:=by unfold i64;omega
 have i5:i64 c.f5:=by unfold i64;omega
 have A:=aO (n:=c.f6.length) (by omega);have B:=aO (n:=c.f7.length) (by omega);have C:(stb c.f6).length=c.f6.length:=by simp [stb]
 have D:(stb c.f7).length=c.f7.length:=by simp [stb]
 have e:ckB c++r=uv c.f0.toNat++(uv c.f1.toNat++(uv c.f2.toNat++(uv c.f3.toNat++(uv (zz c.f4)++(uv (zz c.f5)++(uv c.f6.length++(stb c.f6++(uv c.f7.length++(stb c.f7++r))))))))):=by simp only [ckB,List.append_assoc]
 rw [e] at hB ⊢;have b1:=hB.r;have b2:=b1.r;have d:=b2.r;have f:=d.r;have g:=f.r;have h:=g.r;have j:=h.r.r;unfold cV;rw [if_pos (by simpa using hi)];simp only [lt_];rw [nN (n:=(a0.f0.length:Int)) (by omega) (by omega),rdU (by omega) (by omega) hB];simp only [Option.bind_some,hF,lt_];rw [rdU (by omega) (by omega) b1];simp only [Option.bind_some,hF,lt_];rw [show ((c.f0.toNat:Nat):Int)=c.f0 by omega,show ((c.f1.toNat:Nat):Int)=c.f1 by omega,w64 (n:=c.f0) (by omega) (by omega),w64 (n:=c.f1) (by omega) (by omega)];unfold kU;rw [rdU (by omega) (by omega) b2];simp only [Option.bind_some,hF];rw [rdU (by omega) (by omega) d];simp only [Option.bind_some,hF];rw [rdI i4 f];simp only [Option.bind_some,hF];rw [rdI i5 g];simp only [Option.bind_some,hF];rw [rdT b.1 h (by simp only [List.length_append];omega)];simp only [Option.bind_some,hF];rw [rdT b.2 j (by simp only [List.length_append];omega)];simp only [Option.bind_some,hF,lt_];rw [show ((c.f2.toNat:Nat):Int)=c.f2 by omega,show ((c.f3.toNat:Nat):Int)=c.f3 by omega];rw [if_pos (by simp only [decide_eq_true_eq];omega),nN (n:=c.f3 - c.f2) (by omega) (by omega),w64 (n:=c.f0 - 1) (by omega) (by omega),nN (n:=c.f0 - 1) (by omega) (by omega),if_pos (by simp only [beq_iff_eq];omega),
  show decide (c.f2<=c.f3)=true by simp only [decide_eq_true_eq];omega,lY]
 simp only [Option.bind_some,hF];have a:eP ch (i:Int) c.f0 c.f1 (c.f2,⟨uv c.f3.toNat++(uv (zz c.f4)++(uv (zz c.f5)++(uv c.f6.length++(stb c.f6++(uv c.f7.length++(stb c.f7++r))))))⟩) (c.f3,⟨uv (zz c.f4)++(uv (zz c.f5)++(uv c.f6.length++(stb c.f6++(uv c.f7.length++(stb c.f7++r)))))⟩)
   (c.f4,⟨uv (zz c.f5)++(uv c.f6.length++(stb c.f6++(uv c.f7.length++(stb c.f7++r))))⟩) (c.f5,⟨uv c.f6.length++(stb c.f6++(uv c.f7.length++(stb c.f7++r)))⟩) (c.f6,⟨uv c.f7.length++(stb c.f7++r)⟩) (c.f7,⟨r⟩) r=some (.inl (ch++[c],r,((i+1:Nat):Int))):=by
  unfold eP;simp only [lt_];rw [bN (by simp only [List.length_cons,List.length_nil];omega),nN (by omega) (by omega)];rfl
 unfold fR;by_cases hz:i=0
 ·rw [if_neg (by simp only [decide_eq_true_eq];omega),h0 hz,show ((0:Int)==0)=true from rfl,lY];simp only [Option.bind_some,hF];rw [h0 hz] at a;exact a
 ·obtain⟨p,k,l,m⟩:=hp (by omega);rw [if_pos (by simp only [decide_eq_true_eq];omega)];simp only [lt_];rw [nN (n:=(i:Int) - 1) (by omega) (by omega),bG (n:=i - 1) (by omega) k];simp only [Option.bind_some,lt_];rw [nN (n:=p.f3+1) (by omega) (by omega),if_pos (by simp only [beq_iff_eq];exact l),show decide (p.f1<c.f1)=true by simpa using m,lY];simp only [Option.bind_some,hF];exact a
theorem aPr:∀ (cs:List (List S61)) (a i:Nat),(dM cs a)[i]?=(cs[i]?).map λc=>ckL c ((a+(bQ (cs.take i)).length:Nat):Int)
 | [],a,i=>by simp [dM]
 | c::cs,a,0=>by simp [dM,bQ]
 | c::cs,a,i+1=>by show (dM cs (a+(pgL c).length))[i]?=_;rw [aPr cs];simp only [List.getElem?_cons_succ,List.take_succ_cons];rw [show bQ (c::cs.take i)=pgL c++bQ (cs.take i) from rfl,List.length_append,Nat.add_assoc]
section
variable {k:Int} {l:List S61} (h:Seg k l)
include h
theorem Seg.at_ {i:Nat} {x:S90} (hx:(dM (pcs 64 l) 0)[i]?=some x):∃ a:Int,0<=a/\Run k a l/\x=ckL ((l.drop (i * 64)).take 64) (((bQ ((pcs 64 l).take i)).length:Nat):Int)/\i * 64<l.length/\x.f1=(((bQ ((pcs 64 l).take i)).length:Nat):Int)/\x.f2=a+(i * 64:Nat)/\x.f3=a+(min l.length (i * 64+64):Nat) - 1/\x.f0=((min 64 (l.length - i * 64):Nat):Int):=by
 obtain⟨a,d,m,hr⟩:=h.run;rw [aPr,Nat.zero_add] at hx;obtain⟨c,hc,rfl⟩:=Option.map_eq_some_iff.1 hx;have b:i * 64<l.length:=by have:=(List.getElem?_eq_some_iff.1 hc).1;rw [zK] at this;exact (aAl (by decide)).2 this
 rw [aG7 (by decide) b] at hc;cases hc;have e:=(hr.drop (i * 64)).take 64;have hl:((l.drop (i * 64)).take 64).length=min 64 (l.length - i * 64):=by simp
 obtain⟨f,g⟩:=aGy e (by omega) (((bQ ((pcs 64 l).take i)).length:Nat):Int);obtain⟨e0,j⟩:=aOh ((l.drop (i * 64)).take 64) (((bQ ((pcs 64 l).take i)).length:Nat):Int);exact⟨a,d,hr,rfl,b,j,f,by rw [g,hl];omega,by rw [e0,hl]⟩
theorem Seg.page_lt {i j:Nat} (a:i<j) (b:j<=(pcs 64 l).length):(bQ ((pcs 64 l).take i)).length<(bQ ((pcs 64 l).take j)).length:=by
 have e:(pcs 64 l).take j=(pcs 64 l).take i++((pcs 64 l).take j).drop i:=by have:=List.take_append_drop i ((pcs 64 l).take j);rw [List.take_take,Nat.min_eq_left (by omega)] at this;exact this.symm
 rw [e,aD7,List.length_append];have hc:∀ c∈((pcs 64 l).take j).drop i,Cut k c:=λc hc=>h.cut c (List.mem_of_mem_take (List.mem_of_mem_drop hc));obtain⟨p1,p2,p3⟩:=aDa h.k8 hc;have:((pcs 64 l).take j).drop i≠[]:=by intro e;have:=congrArg List.length e;simp at this;omega
 have:=List.length_pos_iff.2 this;omega
theorem aVy {Pg:List Int} (D:Pg.length=(bQ (pcs 64 l)).length):kH ⟨Pg,0,[]⟩ ⟨uX k.toNat (dM (pcs 64 l) 0)⟩=some (.inl (⟨Pg,k,dM (pcs 64 l) 0⟩,⟨[]⟩)):=by
 obtain⟨n1,n2⟩:=h.num;obtain⟨c1,c2,c3,E,F⟩:=h.cks;obtain⟨f1,f2⟩:=h.foot;have G:=h.k1;have g:=h.k8;have hn:=yL (pcs 64 l) 0;unfold uX at f2 f1 ⊢;unfold kH;rw [rdU (by omega) (by omega) f2];simp only [Option.bind_some,hF,lt_];rw [show ((k.toNat:Nat):Int)=k by omega,w64 (n:=k) (by omega) (by omega),rdU (by omega) (by omega) f2.r];simp only [Option.bind_some,hF];rw [if_pos (by simp only [decide_eq_true_eq];omega),show decide (0<(((dM (pcs 64 l) 0).length:Nat):Int))=true by simp only [decide_eq_true_eq];omega,lY];simp only [Option.bind_some,hF];have hB:=f2.r.r;have m:((dM (pcs 64 l) 0).flatMap ckB).length<=2400:=by simp only [List.length_append] at f1;omega
 have o:∀ x∈dM (pcs 64 l) 0,x.f1<=(Pg.length:Int):=λx hx=>by have:=(aOi g h.cut x hx).2.1;omega
 have c:=λ{i x}=>h.at_ (i:=i) (x:=x);have p:=λ{i j}=>h.page_lt (i:=i) (j:=j);generalize q:(((((dM (pcs 64 l) 0).length:Nat):Int)),(⟨(dM (pcs 64 l) 0).flatMap ckB⟩:S140))=Y;have u:Y.1=(((dM (pcs 64 l) 0).length:Nat):Int):=by rw [← q]
 unfold hX;generalize dM (pcs 64 l) 0=cks at *;have hk:=iC (b:=λs:List S90×List Int×Int=>cV ⟨Pg,0,[]⟩ k Y s.1 s.2.1 s.2.2) (λi=>(cks.take i,(cks.drop i).flatMap ckB,(i:Int)))
  (t:=.inl (cks,[])) cks.length (λi hi=>by
   have hx:=List.getElem?_eq_getElem (l:=cks) (i:=i) hi;obtain⟨a,H,v,I,J,d,w,K,L⟩:=c hx;have hd:cks.drop i=cks[i]::cks.drop (i+1):=List.drop_eq_getElem_cons hi;have y:(cks.flatMap ckB)=(cks.take i).flatMap ckB++(ckB cks[i]++(cks.drop (i+1)).flatMap ckB):=by rw [← List.flatMap_cons, ← hd, ← List.flatMap_append,List.take_append_drop]
   have f:=m;rw [y] at hB f;simp only [List.length_append] at f;have hm:=List.getElem_mem hi;show cV _ k Y (cks.take i) ((cks.drop i).flatMap ckB) (i:Int)=_;rw [hd,List.flatMap_cons];rw [aRf (c1 _ hm).1 (o _ hm) (by show Pg.length<=_;omega) (by omega) hB.r (by rw [u];omega) (by omega) (by simp;omega) (λe=>by subst e;rw [d];simp [bQ]) (λM=>by
    have hp:=List.getElem?_eq_getElem (l:=cks) (i:=i - 1) (by omega);obtain⟨b,N,z,O,P,A,Q,B,R⟩:=c hp;have C:a=b:=by have S:=v.of 0 _ (List.getElem?_eq_getElem (by omega));have T:=z.of 0 _ (List.getElem?_eq_getElem (by omega));omega
    refine⟨_,by rw [List.getElem?_take,if_pos (by omega)];exact hp,by rw [w,B,C];omega,?_⟩;rw [d,A];have:=p (i:=i - 1) (j:=i) (by omega) (by omega);omega),List.take_add_one,hx]
   rfl) (by
   show cV _ k Y _ _ ((cks.length:Nat):Int)=_;unfold cV;rw [if_neg (by simp only [decide_eq_true_eq];omega),List.take_length,List.drop_length];rfl)
 rw [show (([]:List S90),cks.flatMap ckB,(0:Int))=(cks.take 0,(cks.drop 0).flatMap ckB,((0:Nat):Int)) by simp,hk];rfl
end
theorem aLg {a b:Nat} (c:a<4294967296) (hb:b<4294967296):ior .i64 (a:Int) (b:Int)=((a ||| b:Nat):Int):=by unfold ior;rw [fG,fG];have h:a ||| b<2 ^ 32:=Nat.or_lt_two_pow (show a<2 ^ 32 by omega) (show b<2 ^ 32 by omega);simp only [BitVec.toNat_or,BitVec.toNat_ofNat,show IntKind.i64.bits=64 from rfl];rw [Nat.mod_eq_of_lt (show a<2 ^ 64 by omega),Nat.mod_eq_of_lt (show b<2 ^ 64 by omega),w64 (by omega) (by omega)]
theorem aIb {a n:Nat} (hn:n<=24) (c:a<256):wL .i64 (a:Int) (n:Int)=((a * 2 ^ n:Nat):Int):=by have b:2 ^ n<=2 ^ 24:=Nat.pow_le_pow_right (by decide) hn;have d:a * 2 ^ n<=255 * 2 ^ 24:=Nat.mul_le_mul (by omega) b;unfold wL;rw [show min ((n:Int).toNat) IntKind.i64.bits=n from by rw [Int.toNat_natCast,show IntKind.i64.bits=64 from rfl];omega,aFc];rw [show (a:Int) * ((2 ^ n:Nat):Int)=((a * 2 ^ n:Nat):Int) from rfl,w64 (by omega) (by omega)]
theorem aWo {n:Nat} (h:n<4294967296):ior .i64 (ior .i64 (ior .i64 ((n % 256:Nat):Int) (wL .i64 ((n / 256 % 256:Nat):Int) 8)) (wL .i64 ((n / 65536 % 256:Nat):Int) 16)) (wL .i64 ((n / 16777216 % 256:Nat):Int) 24)=(n:Int):=by have b:=aIb (a:=n / 256 % 256) (n:=8) (by decide) (by omega);have c:=aIb (a:=n / 65536 % 256) (n:=16) (by decide) (by omega);have d:=aIb (a:=n / 16777216 % 256) (n:=24) (by decide) (by omega);rw [show ((8:Nat):Int)=8 from rfl] at b;rw [show ((16:Nat):Int)=16 from rfl] at c;rw [show ((24:Nat):Int)=24 from rfl] at d;have k:(2:Nat) ^ 8=256:=rfl;have i:(2:Nat) ^ 16=65536:=rfl;have j:(2:Nat) ^ 24=16777216:=rfl;have e:n % 256 ||| n / 256 % 256 * 2 ^ 8=n % 256+n / 256 % 256 * 2 ^ 8:=aA7 (by omega) _;rw [b,c,d,aLg (by omega) (by omega),e];have f:n % 256+n / 256 % 256 * 2 ^ 8 ||| n / 65536 % 256 * 2 ^ 16=n % 256+n / 256 % 256 * 2 ^ 8+n / 65536 % 256 * 2 ^ 16:=aA7 (by omega) _;rw [aLg (by omega) (by omega),f];have g:n % 256+n / 256 % 256 * 2 ^ 8+n / 65536 % 256 * 2 ^ 16 ||| n / 16777216 % 256 * 2 ^ 24=n % 256+n / 256 % 256 * 2 ^ 8+n / 65536 % 256 * 2 ^ 16+n / 16777216 % 256 * 2 ^ 24:=aA7 (by omega) _;rw [aLg (by omega) (by omega),g];omega
def yW (l:List S61) (k:Int):S128:=⟨bQ (pcs 64 l),k,dM (pcs 64 l) 0⟩
section
variable {k:Int} {l:List S61} (h:Seg k l)
include h
theorem Seg.bytes:Bs (xC l k.toNat)/\(xC l k.toNat).length=(bQ (pcs 64 l)).length+(uX k.toNat (dM (pcs 64 l) 0)).length+22:=by obtain⟨c1,c2,c3,c,a⟩:=h.cks;obtain⟨f1,f2⟩:=h.foot;have d:=rZ 102 (uX k.toNat (dM (pcs 64 l) 0));have b:=rZ 116 (oX (bQ (pcs 64 l)).length);rw [qG] at b;unfold xC;exact⟨(a.app (aB9 (by decide) f2)).app (aB9 (by decide) (aEt _)),by simp only [List.length_append];omega⟩
theorem aPl:sG (xC l k.toNat)=some (some (yW l k),0):=by
 obtain⟨c1,c2,c3,i,j⟩:=h.cks;obtain⟨f1,f2⟩:=h.foot;obtain⟨b1,b2⟩:=h.bytes;have m:=rZ 102 (uX k.toNat (dM (pcs 64 l) 0));have e:=rZ 116 (oX (bQ (pcs 64 l)).length);rw [qG] at e;have a:=aA8 (p:=bQ (pcs 64 l)++jK 102 (uX k.toNat (dM (pcs 64 l) 0))) (b:=oX (bQ (pcs 64 l)).length) (q:=[]) (kind:=116) (by simp [qG]);have c:=aA8 (p:=bQ (pcs 64 l)) (b:=uX k.toNat (dM (pcs 64 l) 0)) (q:=jK 116 (oX (bQ (pcs 64 l)).length)) (kind:=102) (by omega);rw [List.append_nil,show bQ (pcs 64 l)++jK 102 (uX k.toNat (dM (pcs 64 l) 0))++jK 116 (oX (bQ (pcs 64 l)).length)=xC l k.toNat from rfl] at a;rw [show bQ (pcs 64 l)++jK 102 (uX k.toNat (dM (pcs 64 l) 0))++jK 116 (oX (bQ (pcs 64 l)).length)=xC l k.toNat from rfl] at c;have f:=aVy h (Pg:=bQ (pcs 64 l)) rfl;have g:(xC l k.toNat).take (bQ (pcs 64 l)).length=bQ (pcs 64 l):=by unfold xC;rw [List.append_assoc,List.take_left' rfl]
 unfold yW;rw [List.length_append] at a;generalize xC l k.toNat=B at *;generalize uX k.toNat (dM (pcs 64 l) 0)=Ft at *;generalize dM (pcs 64 l) 0=cks at *;generalize bQ (pcs 64 l)=Pg at *;unfold sG;rw [if_neg (by simp only [decide_eq_true_eq];omega)];simp only [lt_];rw [w64 (n:=(B.length:Int) - 13) (by omega) (by omega),show (B.length:Int) - 13=((Pg.length+(jK 102 Ft).length:Nat):Int) by omega,xW b1 (by omega),a];simp only [Option.bind_some];rw [if_neg (by simp),if_neg (by simp),if_neg (by rw [qG];simp)];unfold mR;rw [if_neg (by simp only [bne_iff_ne,ne_eq,Decidable.not_not];omega)];simp only [show at_ (oX Pg.length) 0=some ((Pg.length % 256:Nat):Int) from rfl,show at_ (oX Pg.length) 1=some ((Pg.length / 256 % 256:Nat):Int) from rfl,show at_ (oX Pg.length) 2=some ((Pg.length / 65536 % 256:Nat):Int) from rfl,show at_ (oX Pg.length) 3=some ((Pg.length / 16777216 % 256:Nat):Int) from rfl,Option.bind_some,lt_];rw [w64 (n:=((Pg.length % 256:Nat):Int)) (by omega) (by omega),w64 (n:=((Pg.length / 256 % 256:Nat):Int)) (by omega) (by omega),w64 (n:=((Pg.length / 65536 % 256:Nat):Int)) (by omega) (by omega),w64 (n:=((Pg.length / 16777216 % 256:Nat):Int)) (by omega) (by omega),aWo (by omega)];rw [w64 (n:=(B.length:Int) - 13) (by omega) (by omega),if_neg (by simp only [decide_eq_true_eq];omega),xW b1 (by omega),c];simp only [Option.bind_some];have d:=qV (xs:=B) (l:=0) (u:=Pg.length) (by omega) (by omega);rw [g,List.drop_zero,show ((0:Nat):Int)=0 from rfl] at d;rw [if_neg (by simp),d];simp only [Option.bind_some];rw [aGa (by omega)];simp only [Option.bind_some];rw [if_neg (by simp),if_neg (by simp only [bne_iff_ne,ne_eq,Decidable.not_not];omega)];unfold nR;rw [f];rfl
theorem bAg:WL k l=(xC l k.toNat,0):=by
 obtain⟨a,b,c,hr⟩:=h.run;have d:=h.k1;have f:=h.k8;have g:=h.ps;have j:=h.le;unfold WL;rw [if_neg (by omega),if_neg (by omega)];have hx:=List.getElem?_eq_getElem (l:=l) (i:=0) (by omega);have e:(l.head?.map (·.f0) |>.getD 0)=a:=by rw [List.head?_eq_getElem?,hx];have:=hr.of 0 _ hx;simp at this ⊢;exact this
 rw [e,aM7 (by simpa using hr)]
end
def aCr (n:Nat):List S61:=(List.range n).map λi:Nat=>⟨(i:Int),0,(i:Int),[],0⟩
theorem aI4 {n i:Nat} {x:S61} (h:(aCr n)[i]?=some x):x=⟨(i:Int),0,(i:Int),[],0⟩/\i<n:=by unfold aCr at h;rw [List.getElem?_map] at h;obtain⟨j,a,rfl⟩:=Option.map_eq_some_iff.1 h;obtain⟨b,rfl⟩:=List.getElem?_eq_some_iff.1 a;rw [List.getElem_range];exact⟨rfl,by simpa using b⟩
theorem Run.seg {k f:Int} {m:List S61} (h:Run k f m) (hk:1<=k/\k<=8) (hf:0<=f/\f<=4294967296) (h0:0<m.length) (hl:m.length<=150):Seg k m :=
 ⟨hk.1,hk.2,h0,by omega,f,hf.1,by omega,h⟩
def dX (f:S26) (e:S61):Bool:=decide (f.f0<=e.f0)&&(decide (e.f0<f.f1)&&(decide (f.f2<=e.f2)&&decide (e.f2<=f.f3)))
def nH (f:S26) (c:S90):Bool:=decide (f.f0<f.f1)&&(decide (f.f0<=c.f3)&&(decide (c.f2<f.f1)&&(decide (f.f2<=f.f3)&&(decide (f.f2<=c.f5)&&decide (c.f4<=f.f3)))))
theorem aSe (f:S26) (e:S61):kD f e=some (dX f e):=by unfold kD dX;cases decide (f.f0<=e.f0) <;> cases decide (e.f0<f.f1) <;> cases decide (f.f2<=e.f2) <;> rfl
theorem aR9 (f:S26) (c:S90):jP f c=some (nH f c):=by unfold jP nH;cases decide (f.f0<f.f1) <;> cases decide (f.f0<=c.f3) <;> cases decide (c.f2<f.f1) <;> cases decide (f.f2<=f.f3) <;> cases decide (f.f2<=c.f5) <;> rfl
theorem aOg (l:List S61) (p:Int):∀ e∈l,(ckL l p).f2<=e.f0/\e.f0<=(ckL l p).f3/\(ckL l p).f4<=e.f2/\e.f2<=(ckL l p).f5:=λe he=>by
 cases l with
 | nil=>cases he
 | cons x r =>
  obtain⟨⟨_,a2⟩,⟨_,b2⟩,⟨_,c2⟩,_,a⟩:=aLe (x::r) (ck0 (x::r) p x);exact⟨a2 e he,b2 e he,c2 e he,a e he⟩
theorem aN3 {f:S26} {l:List S61} {p:Int} (h:nH f (ckL l p)=false):l.filter (dX f)=[]:=by
 rw [List.filter_eq_nil_iff];intro e he hw;obtain⟨b1,b2,a,b⟩:=aOg l p e he;unfold dX at hw;simp only [Bool.and_eq_true,decide_eq_true_eq] at hw;have:nH f (ckL l p)=true:=by unfold nH;simp only [Bool.and_eq_true,decide_eq_true_eq];omega
 rw [h] at this;cases this
theorem aHo (l:List S61) (p:Int):ckL (l.map dB) p=ckL l p:=by
 have key:∀ (l:List S61) (c:S90),(l.map dB).foldl ckF c=l.foldl ckF c:=by
  intro l
  induction l with
  | nil=>intro c;rfl
  | cons e l ih=>intro c;exact ih (ckF c e)
 cases l with
 | nil=>rfl
 | cons e r =>
  show ((e::r).map dB).foldl ckF (ck0 ((e::r).map dB) p (dB e))=_;rw [key,show ck0 ((e::r).map dB) p (dB e)=ck0 (e::r) p e from by unfold ck0;rw [List.length_map];rfl];rfl
theorem aS3 (c:S90):aJc c c=true:=by unfold aJc;simp
theorem aGe (f:S26) (l:List S61):(l.map dB).filter (dX f)=(l.filter (dX f)).map dB:=by rw [List.filter_map];rfl
section
variable {k:Int} {l:List S61} (h:Seg k l) (f:S26)
include h
theorem aUh {c:S90} {Y:List S61×Int×Int} {m:List S61} {a:Int} (d:Y.1=m.map dB) (hm:Run k a m) (h:0<=a/\a+m.length<=1099511627776) (hl:m.length<=64) (hc:c.f2=a) (out:List S61) (i:out.length<=1024) :
  loop (λs:List S61×Int=>cU f c Y s.1 s.2) (out,0)=some (.inl (out++(m.map dB).filter (dX f))):=by
 have hb:∀ j,((m.map dB).take j |>.filter (dX f)).length<=64:=λj=>by have:=List.length_filter_le (dX f) ((m.map dB).take j);simp at this ⊢;omega
 have hk:=iC (b:=λs:List S61×Int=>cU f c Y s.1 s.2) (λj=>(out++((m.map dB).take j).filter (dX f),(j:Int))) (t:=.inl (out++(m.map dB).filter (dX f))) m.length (λj e=>by
  have hx:(m.map dB)[j]?=some (dB m[j]):=by rw [List.getElem?_map,List.getElem?_eq_getElem e];rfl
  have g:=hm.of j _ (List.getElem?_eq_getElem e);have l:=hb j;show cU f c Y (out++((m.map dB).take j).filter (dX f)) (j:Int)=_;unfold cU;rw [d,if_pos (by simp only [decide_eq_true_eq,List.length_map];omega),bG rfl hx];simp only [Option.bind_some,lt_];rw [nN (n:=(j:Int)) (by omega) (by omega),hc,nN (n:=a+(j:Int)) (by omega) (by omega),if_neg (by simp only [bne_iff_ne,ne_eq,Decidable.not_not];exact g),aSe];simp only [Option.bind_some];rw [List.take_add_one,hx,List.filter_append];simp only [Option.toList_some];cases hw:dX f (dB m[j]) with
  | true =>
   rw [if_pos rfl,bN (by simp only [List.length_append,List.length_cons,List.length_nil];omega)];unfold fP;rw [lt_,w64 (by omega) (by omega),List.filter_cons_of_pos hw,List.filter_nil,List.append_assoc];rfl
  | false =>
   rw [if_neg (by simp)];unfold fP;rw [lt_,w64 (by omega) (by omega),List.filter_cons_of_neg (by rw [hw];simp),List.filter_nil,List.append_nil];rfl) (by
  show cU f c Y _ ((m.length:Nat):Int)=_;unfold cU;rw [d,if_neg (by simp),List.take_of_length_le (by simp)])
 rw [show (out,(0:Int))=(out++((m.map dB).take 0).filter (dX f),((0:Nat):Int)) by simp,hk]
theorem aU7:kG (some (yW l k)) f=some ((l.filter (dX f)).map dB,(((dM (pcs 64 l) 0).countP (nH f):Nat):Int),0):=by
 obtain⟨n1,n2⟩:=h.num;obtain⟨c1,c2,c3,R,D⟩:=h.cks;have E:=h.k8;have hle:=h.le;have r:=λ{i x}=>h.at_ (i:=i) (x:=x);have hn:=yL (pcs 64 l) 0;obtain⟨a,S,T,hr⟩:=h.run;have hlen:(pcs 64 l).length=(l.length+64 - 1) / 64:=zK;unfold kG;simp only;have hk:=iC (b:=λs:List S61×Int×Int=>dL f (yW l k) s.1 s.2.1 s.2.2) (λi=>(((l.take (i * 64)).map dB).filter (dX f),((((dM (pcs 64 l) 0).take i).countP (nH f):Nat):Int),(i:Int)))
  (t:=.inl ((l.map dB).filter (dX f),(((dM (pcs 64 l) 0).countP (nH f):Nat):Int))) (pcs 64 l).length (λi hi=>by
   have hx:=List.getElem?_eq_getElem (l:=dM (pcs 64 l) 0) (i:=i) (by omega);obtain⟨a',U,F,j,G,u,v,H,w⟩:=r hx;have I:a=a':=by have W:=hr.of 0 _ (List.getElem?_eq_getElem (by omega));have X:=F.of 0 _ (List.getElem?_eq_getElem (by omega));omega
   subst I;have g:=aG7 (q:=64) (by decide) G;have J:=h.cut _ (List.mem_of_getElem? g);have o:=(hr.drop (i * 64)).take 64;have K:l.take ((i+1) * 64)=l.take (i * 64)++(l.drop (i * 64)).take 64:=by rw [Nat.add_mul,Nat.one_mul,List.take_add]
   have L:((l.drop (i * 64)).take 64).length=min 64 (l.length - i * 64):=by simp
   have M:((dM (pcs 64 l) 0).take i).countP (nH f)<=16:=by have:=List.countP_le_length (p:=nH f) (l:=(dM (pcs 64 l) 0).take i);simp at this;omega
   have N:(((l.take (i * 64)).map dB).filter (dX f)).length<=1024:=by have:=List.length_filter_le (dX f) ((l.take (i * 64)).map dB);simp at this ⊢;omega
   have O:((dM (pcs 64 l) 0).take (i+1))=(dM (pcs 64 l) 0).take i++[(dM (pcs 64 l) 0)[i]'(by omega)]:=by rw [List.take_add_one,hx];rfl
   show dL f (yW l k) (((l.take (i * 64)).map dB).filter (dX f)) ((((dM (pcs 64 l) 0).take i).countP (nH f):Nat):Int) (i:Int)=_;rw [K,O,List.map_append,List.filter_append,List.countP_append];generalize ((l.take (i * 64)).map dB).filter (dX f)=out at N ⊢;generalize Y:((dM (pcs 64 l) 0).take i).countP (nH f)=d at M ⊢;generalize Z:(dM (pcs 64 l) 0)[i]'(by omega)=c at j u v H w hx ⊢;unfold dL;rw [show (yW l k).f2=dM (pcs 64 l) 0 from rfl,if_pos (by simp only [decide_eq_true_eq];omega),bG rfl hx];simp only [Option.bind_some];rw [aR9];simp only [Option.bind_some];cases hmay:nH f c with
   | false =>
    rw [if_pos (show (!false)=true from rfl)];have P:((l.drop (i * 64)).take 64).filter (dX f)=[]:=aN3 (p:=(((bQ ((pcs 64 l).take i)).length:Nat):Int)) (by rw [← j];exact hmay);rw [aGe,P];unfold fO;rw [lt_,w64 (by omega) (by omega)];simp [hmay]
   | true =>
    rw [if_neg (by simp)];simp only [lt_];rw [w64 (n:=((d:Nat):Int)+1) (by omega) (by omega),w64 (n:=(i:Int)+1) (by omega) (by omega)];have y:bQ (pcs 64 l)=bQ ((pcs 64 l).take i)++pgL ((l.drop (i * 64)).take 64)++bQ ((pcs 64 l).drop (i+1)):=by
     have:=List.take_append_drop i (pcs 64 l);rw [List.drop_eq_getElem_cons (by omega)] at this;rw [List.getElem?_eq_getElem (by omega)] at g;rw [Option.some.inj g] at this
     conv=>lhs;rw [← this,aD7]
     rw [List.append_assoc];rfl
    have z:∀ e:Int,e=(((bQ ((pcs 64 l).take i)).length+(pgL ((l.drop (i * 64)).take 64)).length:Nat):Int) ->
      fQ f (yW l k) out (i:Int) c (((d:Nat):Int)+1) e=some (.inl (out++(((l.drop (i * 64)).take 64).map dB).filter (dX f),((d:Nat):Int)+1,((i+1:Nat):Int))):=by
     intro e he;unfold fQ;rw [show (yW l k).f0=bQ (pcs 64 l) from rfl,show (yW l k).f1=k from rfl,aJd D (by omega),u];have A:=aS7 (l:=(l.drop (i * 64)).take 64) (by omega) (o.laid E) k (bQ ((pcs 64 l).take i)) (bQ ((pcs 64 l).drop (i+1)));rw [show jK 101 (yK ((l.drop (i * 64)).take 64))=pgL ((l.drop (i * 64)).take 64) from rfl, ← y,if_pos (List.all_eq_true.2 o.fm)] at A;rw [A];simp only [Option.bind_some];rw [if_pos (by rfl),if_neg (by simp only [bne_iff_ne,ne_eq,Decidable.not_not];exact he.symm),if_neg (by simp only [bne_iff_ne,ne_eq,Decidable.not_not,List.length_map];rw [L,w]),aMp (by rw [List.length_map];exact J.ps) (by rw [List.length_map];omega),aHo, ← j];simp only [Option.bind_some,aS3];unfold eO;rw [if_neg (by simp)];unfold hW;rw [if_neg (by simp),aUh h f (m:=(l.drop (i * 64)).take 64) rfl o (by omega) (by omega) v out (by omega)];simp only [Option.bind_some];unfold jF kT fO;rw [lt_,w64 (by omega) (by omega)];rfl
    have B:((d+[c].countP (nH f):Nat):Int)=((d:Nat):Int)+1:=by rw [List.countP_cons_of_pos hmay];simp
    by_cases a0:i+1<(pcs 64 l).length
    ·have C:=List.getElem?_eq_getElem (l:=dM (pcs 64 l) 0) (i:=i+1) (by omega);obtain⟨_,_,_,_,_,Q,_⟩:=r C;rw [if_pos (by simp only [decide_eq_true_eq];omega),bG (n:=i+1) (by omega) C];simp only [Option.bind_some];rw [z _ (by rw [Q,List.take_add_one,g,Option.toList_some,aD7,List.length_append];simp [bQ]),B]
    ·rw [if_neg (by simp only [decide_eq_true_eq];omega),z _ (by
      rw [show (yW l k).f0=bQ (pcs 64 l) from rfl,y,List.drop_of_length_le (l:=pcs 64 l) (i:=i+1) (by omega)];simp [bQ]),B]) (by
   show dL f (yW l k) _ _ (((pcs 64 l).length:Nat):Int)=_;unfold dL;rw [show (yW l k).f2=dM (pcs 64 l) 0 from rfl,if_neg (by simp only [decide_eq_true_eq];omega),List.take_of_length_le (l:=l) (by omega),List.take_of_length_le (l:=dM (pcs 64 l) 0) (by omega)])
 rw [show (([]:List S61),(0:Int),(0:Int))=(((l.take (0 * 64)).map dB).filter (dX f),((((dM (pcs 64 l) 0).take 0).countP (nH f):Nat):Int),((0:Nat):Int)) by simp,hk];simp only [Option.bind_some];rw [aGe];rfl
end
section
variable (f:S26)
def inO (e:S61):Bool:=decide (f.f0<=e.f0)&&decide (e.f0<f.f1)
theorem aWw {l:List S61} {j q:Nat} {e:S61} (hx:l[q]?=some e) (i:j<=100000) (k:q<j+64) (out:List S61) (m:out.length<=100000) (o b a:Bool) :
  lF l f.f0 f.f1 f.f2 f.f3 (j:Int) out o b a (q:Int)=some (.inl (if dX f e=true then out++[e] else out,o||inO f e,b||decide (e.f2<=f.f3),a||decide (f.f2<=e.f2),((q+1:Nat):Int))):=by
 have n:=(List.getElem?_eq_some_iff.1 hx).1;have c:∀ o b a w,nK out (q:Int) e o b a w=some (.inl (if w=true then out++[e] else out,o,b,a,((q+1:Nat):Int))):=by
  intro o b a w;unfold nK;cases w with
  | true =>
   rw [if_pos rfl,bN (by simp;omega)];unfold sC;rw [lt_,w64 (by omega) (by omega)];rfl
  | false =>
   rw [if_neg (by simp)];unfold sC;rw [lt_,w64 (by omega) (by omega)];rfl
 have d:∀ o b a,sF f.f0 f.f1 f.f2 f.f3 out (q:Int) e o b a=some (.inl (if dX f e=true then out++[e] else out,o,b,a,((q+1:Nat):Int))):=by intro o b a;unfold sF dX;simp only [c];cases decide (f.f0<=e.f0) <;> cases decide (e.f0<f.f1) <;> cases decide (f.f2<=e.f2) <;> rfl
 have g:∀ o b,sE f.f0 f.f1 f.f2 f.f3 out a (q:Int) e o b=some (.inl (if dX f e=true then out++[e] else out,o,b,a||decide (f.f2<=e.f2),((q+1:Nat):Int))):=by intro o b;unfold sE;simp only [d];cases a <;> rfl
 have h:∀ o,pM f.f0 f.f1 f.f2 f.f3 out b a (q:Int) e o=some (.inl (if dX f e=true then out++[e] else out,o,b||decide (e.f2<=f.f3),a||decide (f.f2<=e.f2),((q+1:Nat):Int))):=by intro o;unfold pM;simp only [g];cases b <;> rfl
 unfold lF;rw [if_pos (by simp only [decide_eq_true_eq];omega),lt_,w64 (by omega) (by omega),show decide ((q:Int)<(j:Int)+64)=true by simp only [decide_eq_true_eq];omega];unfold sD;rw [if_pos rfl,bG rfl hx];simp only [Option.bind_some,h];unfold inO;cases o <;> cases decide (f.f0<=e.f0) <;> cases decide (e.f0<f.f1) <;> rfl
theorem bC3 {l:List S61} {j:Nat} (g:j<l.length) (hl:l.length<=1024) (out:List S61) (h:out.length<=1024) :
  loop (λs:List S61×Bool×Bool×Bool×Int=>lF l f.f0 f.f1 f.f2 f.f3 (j:Int) s.1 s.2.1 s.2.2.1 s.2.2.2.1 s.2.2.2.2) (out,false,false,false,(j:Int)) =
   some (out++((l.drop j).take 64).filter (dX f),((l.drop j).take 64).any (inO f),((l.drop j).take 64).any (λe=>decide (e.f2<=f.f3)),((l.drop j).take 64).any (λe=>decide (f.f2<=e.f2))):=by
 obtain⟨m,hm⟩:∃ m,m=(l.drop j).take 64:=⟨_,rfl⟩;have k:m.length=min 64 (l.length - j):=by subst hm;simp
 have hb:∀ q,((m.take q).filter (dX f)).length<=64:=λq=>by have:=List.length_filter_le (dX f) (m.take q);simp at this;omega
 rw [← hm];have hk:=iC (b:=λs:List S61×Bool×Bool×Bool×Int=>lF l f.f0 f.f1 f.f2 f.f3 (j:Int) s.1 s.2.1 s.2.2.1 s.2.2.2.1 s.2.2.2.2)
  (λq=>(out++(m.take q).filter (dX f),(m.take q).any (inO f),(m.take q).any (λe=>decide (e.f2<=f.f3)),(m.take q).any (λe=>decide (f.f2<=e.f2)),((j+q:Nat):Int)))
  (t:=(out++m.filter (dX f),m.any (inO f),m.any (λe=>decide (e.f2<=f.f3)),m.any (λe=>decide (f.f2<=e.f2)))) m.length (λq c=>by
   have hx:=List.getElem?_eq_getElem (l:=m) (i:=q) c;have d:l[j+q]?=some m[q]:=by
    have a:m[q]?=if q<64 then l[j+q]? else none:=by rw [hm,List.getElem?_take,List.getElem?_drop]
    rw [hx,if_pos (by omega)] at a;exact a.symm
   have n:=hb q;refine (aWw f d (by omega) (by omega) _ (by simp only [List.length_append];omega) _ _ _).trans ?_;rw [List.take_add_one,hx,List.filter_append,List.any_append,List.any_append,List.any_append];simp only [Option.toList_some,List.any_cons,List.any_nil,Bool.or_false];cases hw:dX f m[q] with
   | true=>rw [if_pos rfl,List.filter_cons_of_pos hw,List.filter_nil,List.append_assoc];rfl
   | false=>rw [if_neg (by simp),List.filter_cons_of_neg (by rw [hw];simp),List.filter_nil,List.append_nil];rfl) (by
   show lF l f.f0 f.f1 f.f2 f.f3 (j:Int) _ _ _ _ ((j+m.length:Nat):Int)=_;unfold lF sD;rw [List.take_length];by_cases hc:j+m.length<l.length
   ·rw [if_pos (by simp only [decide_eq_true_eq];omega),lt_,w64 (by omega) (by omega),show decide (((j+m.length:Nat):Int)<(j:Int)+64)=false by simp only [decide_eq_false_iff_not];omega];rfl
   ·rw [if_neg (by simp only [decide_eq_true_eq];omega)];rfl)
 rw [show (out,false,false,false,(j:Int))=(out++(m.take 0).filter (dX f),(m.take 0).any (inO f),(m.take 0).any (λe=>decide (e.f2<=f.f3)),(m.take 0).any (λe=>decide (f.f2<=e.f2)),((j+0:Nat):Int)) by simp,hk]
theorem aTm {k a:Int} {c:List S61} (hr:Run k a c) (hc:0<c.length) (p:Int) :
  nH f (ckL c p)=(c.any (inO f)&&(c.any (λe=>decide (e.f2<=f.f3))&&(c.any (λe=>decide (f.f2<=e.f2))&&decide (f.f2<=f.f3)))):=by
 obtain⟨d,g⟩:=aGy hr hc p;have b:=aOg c p;obtain⟨x,y,hx,s,ex,ey,mx,my⟩:=aE6 hr hc;have e:ckL c p=c.foldl ckF (ck0 c p x):=by
  cases c with
  | nil=>simp at hc
  | cons z c=>simp at hx;subst hx;rfl
 have h:=aEr (λ_=>True) (λv=>∃ e∈c,e.f2=v) (λ_=>True) c (ck0 c p x) ⟨⟨trivial,trivial⟩,⟨⟨x,mx,rfl⟩,⟨x,mx,rfl⟩⟩,trivial,trivial⟩ λe he=>⟨trivial,⟨e,he,rfl⟩,trivial⟩;rw [← e] at h;obtain⟨_,⟨⟨u,mu,eu⟩,w,mw,ew⟩,_⟩:=h;rw [Bool.eq_iff_iff];unfold nH;simp only [Bool.and_eq_true,decide_eq_true_eq,List.any_eq_true,inO];rw [d,g];constructor
 ·rintro⟨t,A,B,j,C,D⟩;refine⟨?_,⟨u,mu,by omega⟩,⟨w,mw,by omega⟩,j⟩
  
  obtain⟨i,hi,E⟩:∃ i:Nat,i<c.length/\f.f0<=a+i/\a+i<f.f1:=by
   by_cases F:f.f0<=a
   ·exact⟨0,hc,by omega,by omega⟩
   ·exact⟨(f.f0 - a).toNat,by omega,by omega,by omega⟩
  have m:=List.getElem?_eq_getElem (l:=c) (i:=i) hi;have:=hr.of i _ m;exact⟨c[i],List.getElem_mem hi,by omega,by omega⟩
 ·rintro⟨⟨o,mo,G,H⟩,⟨n,q,I⟩,⟨w',r,J⟩,j⟩;have b1:=b o mo;have b2:=b n q;have K:=b w' r;rw [d,g] at b1;omega
theorem aJ7 {k:Int} {l:List S61} (h:Seg k l):sB l f.f0 f.f1 f.f2 f.f3=some (l.filter (dX f),(((dM (pcs 64 l) 0).countP (nH f):Nat):Int)):=by
 obtain⟨n1,n2⟩:=h.num;have hle:=h.le;have hn:=yL (pcs 64 l) 0;have hlen:(pcs 64 l).length=(l.length+64 - 1) / 64:=zK;have o:=λ{i x}=>h.at_ (i:=i) (x:=x);unfold sB;have hk:=iC (b:=λs:List S61×Int×Int=>iQ l f.f0 f.f1 f.f2 f.f3 s.1 s.2.1 s.2.2) (λi=>((l.take (i * 64)).filter (dX f),((((dM (pcs 64 l) 0).take i).countP (nH f):Nat):Int),((i * 64:Nat):Int)))
  (t:=(l.filter (dX f),(((dM (pcs 64 l) 0).countP (nH f):Nat):Int))) (pcs 64 l).length (λi hi=>by
   have hx:=List.getElem?_eq_getElem (l:=dM (pcs 64 l) 0) (i:=i) (by omega);obtain⟨a,C,q,j,r,D,E,F,G⟩:=o hx;have u:=(q.drop (i * 64)).take 64;have H:((l.drop (i * 64)).take 64).length=min 64 (l.length - i * 64):=by simp
   have w:((dM (pcs 64 l) 0).take i).countP (nH f)<=16:=by have:=List.countP_le_length (p:=nH f) (l:=(dM (pcs 64 l) 0).take i);simp at this;omega
   have n:((l.take (i * 64)).filter (dX f)).length<=1024:=by have:=List.length_filter_le (dX f) (l.take (i * 64));simp at this;omega
   show iQ l f.f0 f.f1 f.f2 f.f3 ((l.take (i * 64)).filter (dX f)) ((((dM (pcs 64 l) 0).take i).countP (nH f):Nat):Int) ((i * 64:Nat):Int)=_;have y:l.take ((i+1) * 64)=l.take (i * 64)++(l.drop (i * 64)).take 64:=by rw [Nat.add_mul,Nat.one_mul,List.take_add]
   have z:((dM (pcs 64 l) 0).take (i+1))=(dM (pcs 64 l) 0).take i++[(dM (pcs 64 l) 0)[i]'(by omega)]:=by rw [List.take_add_one,hx];rfl
   rw [y,z,List.filter_append,List.countP_append];generalize I:(dM (pcs 64 l) 0)[i]'(by omega)=c at j ⊢;have g:=aTm f u (by omega) (((bQ ((pcs 64 l).take i)).length:Nat):Int);rw [← j] at g;generalize J:((dM (pcs 64 l) 0).take i).countP (nH f)=d at w ⊢;generalize (l.take (i * 64)).filter (dX f)=out at n ⊢;unfold iQ;rw [if_pos (by simp only [decide_eq_true_eq];omega),bC3 f r hle out n];simp only [Option.bind_some];generalize ((l.drop (i * 64)).take 64)=m at g ⊢;have A:∀ v:Bool,nJ ((d:Nat):Int) ((i * 64:Nat):Int) (out++m.filter (dX f)) v=some (.inl (out++m.filter (dX f),(if v=true then ((d:Nat):Int)+1 else ((d:Nat):Int)),(((i+1) * 64:Nat):Int))):=by
    intro v;unfold nJ vC;cases v with
    | true=>rw [if_pos rfl,if_pos rfl,lt_,w64 (by omega) (by omega),lt_,w64 (by omega) (by omega),show ((i * 64:Nat):Int)+64=(((i+1) * 64:Nat):Int) by omega]
    | false=>rw [if_neg (by simp),if_neg (by simp),lt_,w64 (by omega) (by omega),show ((i * 64:Nat):Int)+64=(((i+1) * 64:Nat):Int) by omega]
   have B:((d+[c].countP (nH f):Nat):Int)=if nH f c=true then ((d:Nat):Int)+1 else ((d:Nat):Int):=by
    cases hm:nH f c with
    | true=>rw [if_pos rfl,List.countP_cons_of_pos hm];simp
    | false=>rw [if_neg (by simp),List.countP_cons_of_neg (by rw [hm];simp)];simp
   rw [B,g];unfold vD xX;simp only [A];cases m.any (inO f) <;> cases (m.any λe=>decide (e.f2<=f.f3)) <;> cases (m.any λe=>decide (f.f2<=e.f2)) <;> rfl) (by
   show iQ l f.f0 f.f1 f.f2 f.f3 _ _ (((pcs 64 l).length * 64:Nat):Int)=_;unfold iQ;rw [if_neg (by simp only [decide_eq_true_eq];omega),List.take_of_length_le (l:=l) (by omega),List.take_of_length_le (l:=dM (pcs 64 l) 0) (by omega)])
 rw [show (([]:List S61),(0:Int),(0:Int))=((l.take (0 * 64)).filter (dX f),((((dM (pcs 64 l) 0).take 0).countP (nH f):Nat):Int),((0 * 64:Nat):Int)) by simp,hk];rfl
end
theorem aMf {k f:Int} {m:List S61} (h:Seg k m) (hr:Run k f m) (hf:0<=f/\f<=4294967296):gZ (some (yW m k))=some (f,f+m.length):=by
 obtain⟨n1,n2⟩:=h.num;have hle:=h.le;have d:=h.ps;have hn:=yL (pcs 64 m) 0;have hlen:(pcs 64 m).length=(m.length+64 - 1) / 64:=zK;have hx:=List.getElem?_eq_getElem (l:=dM (pcs 64 m) 0) (i:=0) (by omega);have c:=List.getElem?_eq_getElem (l:=dM (pcs 64 m) 0) (i:=(dM (pcs 64 m) 0).length - 1) (by omega);obtain⟨a,o,e,p,q,r,g,s,t⟩:=h.at_ hx;obtain⟨b,u,p1,p2,p3,v,x,j,y⟩:=h.at_ c;have w:=List.getElem?_eq_getElem (l:=m) (i:=0) d;have z:=e.of 0 _ w;have A:=p1.of 0 _ w;have B:=hr.of 0 _ w;unfold gZ;simp only;rw [show (yW m k).f2=dM (pcs 64 m) 0 from rfl,show at_ (dM (pcs 64 m) 0) 0=_ from bG (n:=0) rfl hx];simp only [Option.bind_some,lt_];rw [w64 (by omega) (by omega),bG (n:=(dM (pcs 64 m) 0).length - 1) (by omega) c];simp only [Option.bind_some];rw [nN (by omega) (by omega),g,j];have:f+(m.length:Int)=b+((min m.length (((dM (pcs 64 m) 0).length - 1) * 64+64):Nat):Int) - 1+1:=by omega
 rw [this,show a+((0 * 64:Nat):Int)=f by omega]
theorem aJy {l:List S61} {f:S26} (h:∀ e∈l,dX f e=false):l.filter (dX f)=[]:=by rw [List.filter_eq_nil_iff];intro e he;rw [h e he];simp
def aBp:List Int->Nat
 | []=>0
 | x::r=>x.toNat+256 * aBp r
theorem aPp:∀ {xs:List Int},Bs xs->aBp xs<2 ^ (8 * xs.length)
 | [],_=>by simp [aBp]
 | x::r,h=>by obtain⟨b,a⟩:=h.cons;have ih:=aPp a;rw [List.length_cons,show 8 * (r.length+1)=8+8 * r.length by omega,Nat.pow_add,show (2:Nat) ^ 8=256 from rfl];show x.toNat+256 * aBp r<_;omega
theorem aMm:∀ (a b:List Int),aBp (a++b)=aBp a+2 ^ (8 * a.length) * aBp b
 | [],b=>by simp [aBp]
 | x::a,b=>by show x.toNat+256 * aBp (a++b)=x.toNat+256 * aBp a+_;rw [aMm a b,List.length_cons,show 8 * (a.length+1)=8+8 * a.length by omega,Nat.pow_add,show (2:Nat) ^ 8=256 from rfl,Nat.mul_add,Nat.mul_assoc,Nat.add_assoc]
theorem aA0 {xs:List Int} (h:Bs xs) {o:Nat} (b:o<=xs.length):aBp (xs.drop o)=aBp xs / 2 ^ (8 * o)/\aBp (xs.take o)=aBp xs % 2 ^ (8 * o):=by
 have e:=aMm (xs.take o) (xs.drop o);have hl:(xs.take o).length=o:=by simp;omega
 have a:=aPp (h.take o);rw [List.take_append_drop,hl] at e;rw [hl] at a;rw [e];exact⟨by rw [Nat.add_mul_div_left _ _ (Nat.two_pow_pos _),Nat.div_eq_of_lt a,Nat.zero_add],by rw [Nat.add_mul_mod_self_left,Nat.mod_eq_of_lt a]⟩
def Burst (D:Nat):Prop:=∃ k w:Nat,D=2 ^ k * w/\w<4294967296
theorem Burst.div {D:Nat} (h:Burst D) (j:Nat):Burst (D / 2 ^ j):=by
 obtain⟨k,w,rfl,hw⟩:=h;rcases Nat.le_total j k with a | a
 ·refine⟨k - j,w,?_,hw⟩;rw [show k=j+(k - j) by omega,Nat.pow_add,Nat.mul_assoc,Nat.mul_div_cancel_left _ (Nat.two_pow_pos j),Nat.add_sub_cancel_left]
 ·refine⟨0,w / 2 ^ (j - k),?_,Nat.lt_of_le_of_lt (Nat.div_le_self _ _) hw⟩;rw [show j=k+(j - k) by omega,Nat.pow_add,Nat.mul_div_mul_left _ _ (Nat.two_pow_pos k),Nat.add_sub_cancel_left,Nat.pow_zero,Nat.one_mul]
theorem Burst.mod {D:Nat} (h:Burst D) (j:Nat):Burst (D % 2 ^ j):=by
 obtain⟨k,w,rfl,hw⟩:=h;rcases Nat.le_total k j with a | a
 ·refine⟨k,w % 2 ^ (j - k),?_,Nat.lt_of_le_of_lt (Nat.mod_le _ _) hw⟩;rw [show j=k+(j - k) by omega,Nat.pow_add,Nat.mul_mod_mul_left,Nat.add_sub_cancel_left]
 ·refine⟨0,0,?_,by decide⟩;rw [show k=j+(k - j) by omega,Nat.pow_add,Nat.mul_assoc,Nat.mul_mod_right]
theorem Burst.part {A B:List Int} (hA:Bs A) (hB:Bs B) (hl:A.length=B.length) (h:Burst (aBp A ^^^ aBp B)) (o n:Nat) (b:o+n<=A.length):Burst (aBp ((A.drop o).take n) ^^^ aBp ((B.drop o).take n)):=by have a:=(aA0 hA (o:=o) (by omega)).1;have b1:=(aA0 hB (o:=o) (by omega)).1;have a2:=(aA0 (hA.drop o) (o:=n) (by simp;omega)).2;have b2:=(aA0 (hB.drop o) (o:=n) (by simp;omega)).2;rw [a2,b2,a,b1, ← Nat.xor_mod_two_pow, ← Nat.xor_div_two_pow];exact (h.div _).mod _
section
variable {p:List Int} {k a2:Nat}
end
section
variable {k:Int} {l:List S61} (h:Seg k l)
include h
end
section
variable {k:Int} {l:List S61} (h:Seg k l)
include h
end
theorem aYs {kind:Int} {b:List Int} (hk:0<=kind/\kind<256) (hB:Bs b) (hb:b.length<=1048576):aCa (jK kind b) kind=some (b,0):=by
  have d:sA (jK kind b) 0=some (kind,b,((jK kind b).length:Int),0):=by have e:=xW (b:=jK kind b) (a:=0) (aB9 hk hB) (by rw [rZ];omega);have c:=aA8 (p:=[]) (q:=[]) (kind:=kind) hb;rw [List.nil_append,List.append_nil] at c;rw [e];congr 1;refine c.trans ?_;simp
  unfold aCa;rw [d];simp only [Option.bind_some];rw [if_pos (by simp),if_neg (by simp)];unfold uA;rw [if_neg (by simp)];unfold wO;rw [if_neg (by simp)]
theorem IsR.of {ρ:Type} {o:Option ((ρ×S140)⊕S140)} {a:ρ} {r:List Int} (h:IsR o (some (a,r))):o=some (.inl (a,⟨r⟩)):=by
  rcases h.cases with ⟨a',r',e,b⟩ | ⟨e,_⟩
  · cases e;exact b
  · cases e
section
end
theorem aP5 {f:List UInt8} (h:sY f=true):f.length<=32:=by unfold sY at h;simp only [Bool.and_eq_true,decide_eq_true_eq] at h;exact h.2
def Kp (s s':S77):Prop:=s'.f1=s.f1/\(s.f2=0->s.f3=false->s'.f2=0/\s'.f3=false)
theorem Kp.refl (s:S77):Kp s s:=⟨rfl,λa b=>⟨a,b⟩⟩
theorem Kp.trans {a b c:S77} (h:Kp a b) (d:Kp b c):Kp a c:=⟨d.1.trans h.1,λx y=>d.2 (h.2 x y).1 (h.2 x y).2⟩
theorem Kp.off {s s':S77} (h:Kp s s') (a:s.f2=0) (b:s.f3=false) (c:s'.f3=true):False:=by have:=(h.2 a b).2;rw [c] at this;cases this
theorem aL2 (s:S77) (l:List S98):Kp s { step s with f0:=l }:=by refine⟨rfl,λa b=>?_⟩;unfold step;rw [a,b];exact⟨rfl,rfl⟩
theorem aC5 {s:S77} {n:List UInt8} (hn:sY n=true) (h:s.f3=false):tY s n=0:=by unfold tY;rw [if_pos hn,h];rfl
theorem aTb {kk:Nat} {s:S77} (h:SI kk s) {n:List UInt8} {x:S98} (hx:get s.f0 n=some x):sY n=true:=by obtain⟨a,rfl⟩:=xU hx;exact h.form x a
theorem aHn {kk:Nat} {s:S77} (h:SI kk s) (a:s.f3=false) {n:List UInt8} {x:S98} (hx:get s.f0 n=some x) (f:S98->List S98) :
    Kp s (aB3 s n f).2/\(((aB3 s n f).1=0/\(aB3 s n f).2.f3=false/\(aB3 s n f).2.f0=f x)\/((aB3 s n f).1=9/\(aB3 s n f).2.f3=true/\(aB3 s n f).2.f0=s.f0)):=by
  unfold aB3;rw [if_pos (aC5 (aTb h hx) a),hx];dsimp only;split
  · rename_i c
    exact⟨aL2 s s.f0,.inr ⟨rfl,c,rfl⟩⟩
  · rename_i c
    exact⟨aL2 s (f x),.inl ⟨rfl,by simpa using c,rfl⟩⟩
theorem aSi {kk:Nat} {s:S77} (h:SI kk s) (a:s.f3=false) {n:List UInt8} (hn:sY n=true) (p:List Int) :
    Kp s (qY s n p).2/\(((qY s n p).1=10/\(qY s n p).2=s/\(s.f1 - used s.f0<p.length\/500<=s.f0.length)) \/
      (((qY s n p).1=0/\(qY s n p).2.f3=false\/(qY s n p).1=9/\(qY s n p).2.f3=true)/\(qY s n p).2.f0=put s.f0 ⟨n,((get s.f0 n).getD ⟨n,[],0⟩).f1++p,((get s.f0 n).getD ⟨n,[],0⟩).f2⟩)):=by
  unfold qY;rw [if_pos (aC5 hn a)];split
  · rename_i c
    exact⟨Kp.refl s,.inl ⟨rfl,rfl,c.elim .inl λc=>.inr c.2⟩⟩
  · refine⟨aL2 s _,.inr ⟨?_,rfl⟩⟩
    dsimp only;split
    · rename_i c
      exact .inr ⟨rfl,c⟩
    · rename_i c
      exact .inl ⟨rfl,by simpa using c⟩
theorem aB7:∀ {l:List S98},lP l->(l.map S98.f0).Nodup
  | [],_=>List.nodup_nil
  | x::l,h=>by obtain⟨a,b⟩:=List.pairwise_cons.1 h;refine List.nodup_cons.2 ⟨λhm=>?_,aB7 b⟩;obtain⟨y,c,e⟩:=List.mem_map.1 hm;have:=a y c;rw [e,yJ] at this;cases this
theorem aLl:∀ {l:List S98},lP l->∀ {x:S98},x∈l->get l x.f0=some x
  | [],_,x,hx=>by cases hx
  | y::l,h,x,hx=>by
    obtain⟨a,b⟩:=List.pairwise_cons.1 h;rcases List.mem_cons.1 hx with rfl | hx
    · simp [get]
    · have c:(y.f0==x.f0)=false:=by rw [beq_eq_false_iff_ne];intro e;have:=a x hx;rw [e,yJ] at this;cases this
      have:=aLl b hx;unfold get at this ⊢;rw [List.find?_cons_of_neg (by simp [c])];exact this
def aM9 (f:List UInt8) (p:List Int):S98:=⟨f,p,p.length⟩
def aD4 (n:Nat):List UInt8:=if n<10 then [UInt8.ofNat (48+n)] else if n<100 then [UInt8.ofNat (48+n / 10),UInt8.ofNat (48+n % 10)] else [UInt8.ofNat (48+n / 10 / 10),UInt8.ofNat (48+n / 10 % 10),UInt8.ofNat (48+n % 10)]
theorem aHs {u:Nat} (h:u<10):Lib.decDigits u=[UInt8.ofNat (48+u)]:=by rw [Lib.decDigits,dif_pos h]
theorem aSu {u:Nat} (h:¬ u<10):Lib.decDigits u=Lib.decDigits (u / 10)++[UInt8.ofNat (48+u % 10)]:=by rw [Lib.decDigits,dif_neg h]
theorem aTh {n:Nat} (h:n<1000):Lib.itoa (n:Int)=aD4 n:=by
  unfold Lib.itoa aD4;rw [if_neg (by omega),show ((n:Int)).toNat=n from rfl];by_cases a:n<10
  · rw [if_pos a,aHs a]
  · rw [if_neg a,aSu a]
    by_cases b:n<100
    · rw [if_pos b,aHs (by omega)];rfl
    · rw [if_neg b,aSu (by omega),aHs (by omega)];rfl
theorem aEo (n:Nat):(aD4 n).length<=3:=by unfold aD4;split <;> (try split) <;> simp
def bFf (l:List UInt8):Nat:=l.foldl (λa c=>10 * a+(c.toNat - 48)) 0
def preS:List UInt8:=[115,101,103,46]
def vF:List UInt8:=[99,97,116]
def qW:List UInt8:=[99,97,116,46,116,109,112]
def pX (a b:Nat):List UInt8:=((preS++aD4 a)++[46])++aD4 b
def xA (f:List UInt8):Bool:=decide (4<=f.length)&&(f.take 4==preS)
theorem aB0 {n:Nat} (h:n<1000):jR (n:Int) 10=some (aD4 n):=by unfold jR sP;rw [bN ⟨by omega,by omega,rfl⟩,aTh h];rfl
theorem aQb {a b:Nat} (c:a<1000) (hb:b<1000):rO (a:Int) (b:Int)=some (pX a b):=by have d:=aEo a;have e:=aEo b;unfold rO;rw [aB0 c];simp only [Option.bind_some];rw [bN (by simp only [List.length_cons,List.length_nil,maxLen];omega),bN (by simp only [List.length_append,List.length_cons,List.length_nil,maxLen];omega),aB0 hb];simp only [Option.bind_some];rw [bN (by simp only [List.length_append,List.length_cons,List.length_nil,maxLen];omega)];rfl
theorem aNv (a b:Nat):(pX a b).length<=11:=by have c:=aEo a;have d:=aEo b;simp only [pX,preS,List.length_append,List.length_cons,List.length_nil];omega
theorem aPt:∀ n<1000,(aD4 n).all (λc=>decide (48<=c.toNat)&&decide (c.toNat<=57))=true:=by decide +kernel
theorem aEp:∀ n<1000,bFf (aD4 n)=n:=by decide +kernel
theorem aMx {n:Nat} (h:n<1000):∀ c∈aD4 n,c≠46:=by intro c hc e;have:=List.all_eq_true.1 (aPt n h) c hc;subst e;revert this;decide
theorem aKk:∀ {x y p q:List UInt8},(∀ c∈x,c≠46)->(∀ c∈y,c≠46)->x++46::p=y++46::q->x=y/\p=q
  | [],[],p,q,_,_,h=>by injection h with _ h;exact⟨rfl,h⟩
  | [],c::y,p,q,_,hy,h=>by injection h with h _;exact absurd h.symm (hy c (List.mem_cons_self ..))
  | c::x,[],p,q,hx,_,h=>by injection h with h _;exact absurd h (hx c (List.mem_cons_self ..))
  | c::x,d::y,p,q,hx,hy,h=>by injection h with h1 h2;obtain⟨a,b⟩:=aKk (λc hc=>hx c (List.mem_cons_of_mem _ hc)) (λc hc=>hy c (List.mem_cons_of_mem _ hc)) h2;exact⟨by rw [h1,a],b⟩
theorem aNu {a b c d:Nat} (e:a<1000) (hb:b<1000) (hc:c<1000) (hd:d<1000) (h:pX a b=pX c d):a=c/\b=d:=by
  have f:aD4 a++46::aD4 b=aD4 c++46::aD4 d:=by have:=congrArg (List.drop 4) h;simpa [pX,preS] using this
  obtain⟨g,i⟩:=aKk (aMx e) (aMx hc) f;have:=aEp a e;have:=aEp b hb;rw [g,aEp c hc] at *;rw [i,aEp d hd] at *;omega
theorem aFz {a b:Nat} (e:a<1000) (hb:b<1000):sY (pX a b)=true:=by
  have hl:=aNv a b;have d:∀ n<1000,(aD4 n).all okc=true:=λn hn=>by refine List.all_eq_true.2 λc hc=>?_;have:=List.all_eq_true.1 (aPt n hn) c hc;unfold okc;rw [this];simp
  unfold sY;rw [decide_eq_true (show (pX a b).length<=32 by omega),decide_eq_true (show 1<=(pX a b).length by simp [pX,preS])];simp only [pX,List.all_append,d a e,d b hb,Bool.and_true];decide
theorem aHl:sY vF=true:=by decide
theorem aJm:sY qW=true:=by decide
theorem aC3 (a b:Nat):xA (pX a b)=true:=by simp [xA,pX,preS]
theorem aRi:xA vF=false:=by decide
theorem aRu (f:List UInt8) (hf:f.length<4611686018427387904):nM f preS=some (xA f):=by
  unfold nM mD xA;rw [show ((preS.length:Nat):Int)=4 from rfl];by_cases h:4<=f.length
  · rw [if_pos (by simp only [decide_eq_true_eq];omega),show (4:Int)=((4:Nat):Int) from rfl,show (0:Int)=((0:Nat):Int) from rfl,qV (by omega) h]
    simp [h]
  · rw [if_neg (by simp only [decide_eq_true_eq];omega)]
    simp [h]
def aBi (l:List S46):Int:=match l.getLast? with | none=>0 | some x=>x.f2
theorem aXg (c:S79) (h:c.f2.length<4611686018427387904):dY c=some (aBi c.f2,c):=by
  unfold dY aBi;rcases hc:c.f2 with _ | ⟨x,l⟩
  · rfl
  · have a:0<c.f2.length:=by rw [hc];simp
    rw [← hc,if_neg (by simp only [beq_iff_eq];omega),lt_,w64 (by omega) (by omega)];have hi:c.f2.length - 1<c.f2.length:=by omega
    have hx:c.f2[c.f2.length - 1]?=some c.f2[c.f2.length - 1]:=List.getElem?_eq_getElem hi;rw [show (c.f2.length:Int) - 1=((c.f2.length - 1:Nat):Int) by omega,bG rfl hx,List.getLast?_eq_getElem?,hx];rfl
theorem aN7 (c:S79) (h:c.f2.length<=1000000):cF c=some (c.f2,c):=by
  unfold cF bJ;rw [bN (by simp only [List.length_nil];omega)];unfold tA;cases hc:c.f2 with
  | nil=>simp
  | cons x l=>rfl
theorem aNc (l:List S46) (n:List UInt8) (hl:l.length<4611686018427387904):∀ (m i:Nat),i+m=l.length ->
    ∃ j:Int,((loop (λs:List UInt8×Int=>aM l s.1 s.2) (n,(i:Int))).bind λt=>match t with | (.inl t)=>cE t | (.inr t)=>some t)=some (j,n)/\decide (0<=j)=(l.drop i).any (λe=>e.f0==n)
  | 0,i,hi=>by
    rw [bC (b:=λs:List UInt8×Int=>aM l s.1 s.2) (t:=.inl n) (by
      show aM l n (i:Int)=_;unfold aM;rw [if_neg (by simp only [decide_eq_true_eq];omega)]),List.drop_of_length_le (by omega)]
    exact⟨-1,rfl,rfl⟩
  | m+1,i,hi=>by
    have hx:=List.getElem?_eq_getElem (l:=l) (i:=i) (by omega);have hr:aM l n (i:Int)=if (l[i].f0==n)=true then some (.inr (.inr ((i:Int),n))) else some (.inl (n,((i+1:Nat):Int))):=by
      unfold aM kN;rw [if_pos (by simp only [decide_eq_true_eq];omega),bG rfl hx];simp only [Option.bind_some];split
      · rfl
      · rw [lt_,w64 (by omega) (by omega)];rfl
    rw [List.drop_eq_getElem_cons (by omega),List.any_cons];by_cases c:(l[i].f0==n)=true
    · rw [if_pos c] at hr
      rw [bC (b:=λs:List UInt8×Int=>aM l s.1 s.2) hr,c];exact⟨(i:Int),rfl,by simp⟩
    · rw [if_neg c] at hr
      rw [cH (b:=λs:List UInt8×Int=>aM l s.1 s.2) hr,show (l[i].f0==n)=false by simpa using c,Bool.false_or];exact aNc l n hl m (i+1) (by omega)
theorem aMb (l:List S46) (n:List UInt8) (hl:l.length<4611686018427387904):bU l n=some (l.any (λe=>e.f0==n),n):=by obtain⟨j,a,b⟩:=aNc l n hl l.length 0 (by omega);have c:cW l n=some (j,n):=a;unfold bU;rw [c];simp only [Option.bind_some];rw [b,List.drop_zero]
def sZ (l:List S46) (f:List UInt8):Bool:=(f==qW)||(xA f && !(l.any λe=>e.f0==f))
def swg (go:List UInt8->Bool):List (List UInt8)->S77->Int×S77
  | [],s=>(0,s)
  | f::r,s=>if go f=true then (if (uF s f).1=0 then swg go r (uF s f).2 else uF s f) else swg go r s
def wc (c:S79) (p:Int×S77):Int×S79×S77:=(p.1,c,p.2)
theorem aRv {kk:Nat} {s:S77} (h:SI kk s) (hk:kk<4611686018427387904) (c:S79) (hc:c.f2.length<=1000000) {L:List (List UInt8)} {i:Nat} {f:List UInt8} (hf:L[i]?=some f) (hl:f.length<=32) (hL:L.length<=500) :
    bO c L s.f0 s.f1 s.f2 s.f3 s.f4 (i:Int)=if sZ c.f2 f=true then (if (uF s f).1=0 then some (.inl ((uF s f).2.f0,(uF s f).2.f1,(uF s f).2.f2,(uF s f).2.f3,(uF s f).2.f4,((i+1:Nat):Int))) else some (.inr (.inr (wc c (uF s f))))) else some (.inl (s.f0,s.f1,s.f2,s.f3,s.f4,((i+1:Nat):Int))):=by
  have hi:=(List.getElem?_eq_some_iff.1 hf).1;have j:∀ (l:List S98) (a b:Int) (c:Bool) (d:Int),fE (i:Int) l a b c d=some (.inl (l,a,b,c,d,((i+1:Nat):Int))):=by intro l a b c d;unfold fE;rw [lt_,w64 (by omega) (by omega)];rfl
  have k:∀ (b g:Bool),eA c s.f0 s.f1 s.f2 s.f3 s.f4 (i:Int) (b,f) g=if g=true then (if (uF s f).1=0 then some (.inl ((uF s f).2.f0,(uF s f).2.f1,(uF s f).2.f2,(uF s f).2.f3,(uF s f).2.f4,((i+1:Nat):Int))) else some (.inr (.inr (wc c (uF s f))))) else some (.inl (s.f0,s.f1,s.f2,s.f3,s.f4,((i+1:Nat):Int))):=by
    intro b g;unfold eA;cases g with
    | false=>rw [if_neg (by simp),if_neg (by simp),j]
    | true =>
      rw [if_pos rfl,if_pos rfl,show (⟨s.f0,s.f1,s.f2,s.f3,s.f4⟩:S77)=s from rfl,show ((b,f):Bool×List UInt8).2=f from rfl,h.Delete hk (by omega)];simp only [Option.bind_some];by_cases c1:(uF s f).1=0
      · rw [if_neg (by simp [c1]),if_pos c1,j]
      · rw [if_pos (by simpa using c1),if_neg c1]
        rfl
  unfold bO;rw [if_pos (by simp only [decide_eq_true_eq];omega),bG rfl hf];simp only [Option.bind_some];rw [aMb _ _ (by omega)];simp only [Option.bind_some];rw [show ([99,97,116,46,116,109,112]:List UInt8)=qW from rfl,show ([115,101,103,46]:List UInt8)=preS from rfl,aRu f (by omega)];simp only [Option.bind_some,k];unfold sZ;cases (f==qW) <;> cases xA f <;> cases (c.f2.any λe=>e.f0==f) <;> rfl
theorem aIz (c:S79) (hc:c.f2.length<=1000000) {L:List (List UInt8)} (hL:L.length<=500) (h32:∀ f∈L,f.length<=32):∀ (m i kk:Nat) (s:S77),i+m=L.length->SI kk s->kk+m<4611686018427387904 ->
    ((loop (λq:List S98×Int×Int×Bool×Int×Int=>bO c L q.1 q.2.1 q.2.2.1 q.2.2.2.1 q.2.2.2.2.1 q.2.2.2.2.2) (s.f0,s.f1,s.f2,s.f3,s.f4,(i:Int))).bind λt=>match t with | (.inl t)=>iJ c t.1 t.2.1 t.2.2.1 t.2.2.2.1 t.2.2.2.2 | (.inr t)=>some t)=some (wc c (swg (sZ c.f2) (L.drop i) s))
  | 0,i,kk,s,hi,h,hk=>by
    rw [bC (b:=λq:List S98×Int×Int×Bool×Int×Int=>bO c L q.1 q.2.1 q.2.2.1 q.2.2.2.1 q.2.2.2.2.1 q.2.2.2.2.2) (t:=.inl (s.f0,s.f1,s.f2,s.f3,s.f4)) (by
      show bO c L s.f0 s.f1 s.f2 s.f3 s.f4 (i:Int)=_;unfold bO;rw [if_neg (by simp only [decide_eq_true_eq];omega)]),List.drop_of_length_le (by omega)]
    rfl
  | m+1,i,kk,s,hi,h,hk=>by
    have hx:=List.getElem?_eq_getElem (l:=L) (i:=i) (by omega);have hr:=aRv h (by omega) c hc hx (h32 _ (List.getElem_mem (by omega))) hL;rw [List.drop_eq_getElem_cons (by omega)];unfold swg;by_cases c1:sZ c.f2 L[i]=true
    · rw [if_pos c1] at hr ⊢
      by_cases c2:(uF s L[i]).1=0
      · rw [if_pos c2] at hr ⊢
        rw [cH (b:=λq:List S98×Int×Int×Bool×Int×Int=>bO c L q.1 q.2.1 q.2.2.1 q.2.2.2.1 q.2.2.2.2.1 q.2.2.2.2.2) hr];exact aIz c hc hL h32 m (i+1) (kk+1) _ (by omega) (h.del (n:=L[i])) (by omega)
      · rw [if_neg c2] at hr ⊢
        rw [bC (b:=λq:List S98×Int×Int×Bool×Int×Int=>bO c L q.1 q.2.1 q.2.2.1 q.2.2.2.1 q.2.2.2.2.1 q.2.2.2.2.2) hr];rfl
    · rw [if_neg c1] at hr ⊢
      rw [cH (b:=λq:List S98×Int×Int×Bool×Int×Int=>bO c L q.1 q.2.1 q.2.2.1 q.2.2.2.1 q.2.2.2.2.1 q.2.2.2.2.2) hr];exact aIz c hc hL h32 m (i+1) kk _ (by omega) h (by omega)
theorem aI1 (go:List UInt8->Bool):∀ (L:List (List UInt8)) (s:S77) (kk:Nat),SI kk s->s.f3=false->L.Nodup->(∀ f∈L,∃ x,get s.f0 f=some x) ->
    SI (kk+L.length) (swg go L s).2/\Kp s (swg go L s).2/\(∀ f,go f=false->get (swg go L s).2.f0 f=get s.f0 f)/\(∀ f x,get (swg go L s).2.f0 f=some x->get s.f0 f=some x) /\
      (used (swg go L s).2.f0<=used s.f0/\(swg go L s).2.f0.length<=s.f0.length) /\
      (((swg go L s).1=0/\(swg go L s).2.f3=false/\∀ f∈L,go f=true->get (swg go L s).2.f0 f=none)\/((swg go L s).1=9/\(swg go L s).2.f3=true))
  | [],s,kk,h,hon,hnd,hL=>⟨h,Kp.refl s,λ_ _=>rfl,λ_ _ q=>q,⟨Nat.le_refl _,Nat.le_refl _⟩,.inl ⟨rfl,hon,λf hf=>by cases hf⟩⟩
  | f::L,s,kk,h,hon,hnd,hL=>by
    obtain⟨hf,p⟩:=List.nodup_cons.1 hnd;unfold swg;by_cases c:go f=true
    · rw [if_pos c]
      obtain⟨x,hx⟩:=hL f List.mem_cons_self;have r:=h.del (n:=f);obtain⟨kp,hd⟩:=aHn h hon hx λx=>del s.f0 f;have C:=aI3 h.rise f;have D:=aLk h.rise f;rcases hd with ⟨e0,u,k⟩ | ⟨v,w,k⟩
      · have z:(uF s f).1=0:=e0
        have i:(uF s f).2.f0=del s.f0 f:=k;rw [if_pos z];have A:∀ g∈L,∃ x,get (uF s f).2.f0 g=some x:=λg hg=>by obtain⟨y,j⟩:=hL g (List.mem_cons_of_mem _ hg);refine⟨y,?_⟩;rw [i,aC0 h.rise,if_neg (λe=>hf (by rw [e];exact hg))];exact j
        obtain⟨l,m,i3,i4,⟨i5,B⟩,o⟩:=aI1 go L (uF s f).2 (kk+1) r u p A;refine⟨by rw [List.length_cons,show kk+(L.length+1)=kk+1+L.length by omega];exact l,Kp.trans kp m,λg hg=>?_,λg y j=>?_,⟨?_,?_⟩,?_⟩
        · rw [i3 g hg,i,aC0 h.rise,if_neg (λe=>by subst e;rw [c] at hg;cases hg)]
        · have:=i4 g y j
          rw [i,aC0 h.rise] at this;split at this
          · cases this
          · exact this
        · rw [i] at i5;omega
        · rw [i] at B;omega
        · rcases o with ⟨a,b,d⟩ | q
          · refine .inl ⟨a,b,λg hg cg=>?_⟩
            rcases List.mem_cons.1 hg with rfl | hg
            · cases hq:get (swg go L (uF s g).2).2.f0 g with
              | none=>rfl
              | some y =>
                have:=i4 g y hq;rw [i,aC0 h.rise,if_pos rfl] at this;cases this
            · exact d g hg cg
          · exact .inr q
      · have t:(uF s f).1=9:=v
        have i:(uF s f).2.f0=s.f0:=k;rw [if_neg (by rw [t];decide)];exact⟨r.mono (by rw [List.length_cons];omega),kp,λg _=>by rw [i],λg y j=>by rw [i] at j;exact j,⟨by rw [i];exact Nat.le_refl _,by rw [i];exact Nat.le_refl _⟩,.inr ⟨t,w⟩⟩
    · rw [if_neg c]
      obtain⟨l,m,i3,i4,i5,o⟩:=aI1 go L s kk h hon p λg hg=>hL g (List.mem_cons_of_mem _ hg);refine⟨l.mono (by rw [List.length_cons];omega),m,i3,i4,i5,?_⟩;rcases o with ⟨a,b,d⟩ | q
      · refine .inl ⟨a,b,λg hg cg=>?_⟩
        rcases List.mem_cons.1 hg with rfl | hg
        · exact absurd cg c
        · exact d g hg cg
      · exact .inr q
theorem aRw {kk:Nat} {s:S77} (h:SI kk s) (hk:kk+500<4611686018427387904) (c:S79) (hc:c.f2.length<=1000000):cX c s=some (wc c (swg (sZ c.f2) (s.f0.map S98.f0) s)):=by
  have hl:=h.len;unfold cX;rw [h.Names];simp only [Option.bind_some];have:=aIz c hc (L:=s.f0.map S98.f0) (by simpa using hl) (λf hf=>by
    obtain⟨x,hx,rfl⟩:=List.mem_map.1 hf;exact aP5 (h.form x hx)) s.f0.length 0 kk s (by simp) h (by omega)
  rw [List.drop_zero] at this;exact this
def aGt (e:S46):List Int:=uv e.f1.toNat++(uv e.f2.toNat++(uv (zz e.f3)++uv (zz e.f4)))
def zI:List S46->List Int
  | []=>[]
  | e::l=>aGt e++zI l
def aEm (pt:Int) (l:List S46):List Int:=uv pt.toNat++(uv l.length++zI l)
structure EOk (a:Nat) (e:S46):Prop where
  fr:e.f1=a
  lt:e.f1<e.f2
  le:e.f2<1000
  nm:e.f0=pX e.f1.toNat e.f2.toNat
  lo : -1099511627776<=e.f3
  hi:e.f4<=1099511627776
  lh:e.f3<=e.f4
inductive Chain:Nat->List S46->Prop
  | nil (a:Nat):Chain a []
  | cons {a:Nat} {e:S46} {l:List S46} (h:EOk a e) (hl:Chain e.f2.toNat l):Chain a (e::l)
theorem aPz (e:S46):Bs (aGt e):=(Bs.uv _).app ((Bs.uv _).app ((Bs.uv _).app (Bs.uv _)))
theorem aHu:∀ l:List S46,Bs (zI l)
  | []=>Bs.nil
  | e::l=>(aPz e).app (aHu l)
theorem aK4 (pt:Int) (l:List S46):Bs (aEm pt l):=(Bs.uv _).app ((Bs.uv _).app (aHu l))
theorem EOk.i64 {a:Nat} {e:S46} (h:EOk a e):P.i64 e.f3/\P.i64 e.f4:=by have:=h.lo;have:=h.hi;have:=h.lh;unfold P.i64;omega
theorem EOk.len {a:Nat} {e:S46} (h:EOk a e):(aGt e).length<=40:=by have b:=aO (n:=e.f1.toNat) (by have:=h.le;have:=h.lt;omega);have c:=aO (n:=e.f2.toNat) (by have:=h.le;omega);have d:=aO (wU h.i64.1);have f:=aO (wU h.i64.2);simp only [aGt,List.length_append];omega
theorem Chain.len:∀ {a:Nat} {l:List S46},Chain a l->(zI l).length<=40 * l.length
  | _,_,.nil _=>Nat.le_refl _
  | _,_,.cons h hl=>by have:=h.len;have:=Chain.len hl;simp only [zI,List.length_append,List.length_cons];omega
theorem Chain.few:∀ {a:Nat} {l:List S46},Chain a l->a<1000->a+l.length<1000
  | _,_,.nil _,h=>by simpa using h
  | _,_,.cons h hl,_=>by have:=h.fr;have:=h.lt;have:=h.le;have:=Chain.few hl (by omega);simp only [List.length_cons];omega
theorem Chain.app:∀ {a:Nat} {l:List S46} {e:S46},Chain a l->EOk (match l.getLast? with | none=>a | some x=>x.f2.toNat) e->Chain a (l++[e])
  | a,[],e,_,h=>.cons h (.nil _)
  | a,x::l,e,.cons hx hl,h=>by
    refine .cons hx (Chain.app hl ?_);cases l with
    | nil=>exact h
    | cons y l =>
      rw [List.getLast?_cons_cons] at h;cases hq:(y::l).getLast? with
      | none=>simp at hq
      | some z=>rw [hq] at h;exact h
theorem aNm (es:List S46):∀ (m i a:Nat) (b:List Int),i+m=es.length->Chain a (es.drop i)->b.length+40 * m<=1000000->es.length<=1000 ->
    loop (λs:List Int×Int=>cB es s.1 s.2) (b,(i:Int))=some (b++zI (es.drop i))
  | 0,i,a,b,hi,hc,hb,hl=>by refine bC ?_;show cB es b (i:Int)=_;unfold cB;rw [if_neg (by simp only [decide_eq_true_eq];omega),List.drop_of_length_le (by omega),zI,List.append_nil]
  | m+1,i,a,b,hi,hc,hb,hl=>by
    have hx:=List.getElem?_eq_getElem (l:=es) (i:=i) (by omega);rw [List.drop_eq_getElem_cons (by omega)] at hc ⊢;obtain⟨he,e⟩:EOk a es[i]/\Chain es[i].f2.toNat (es.drop (i+1)):=by cases hc with | cons c d=>exact⟨c,d⟩
    have c:=aO (n:=es[i].f1.toNat) (by have:=he.le;have:=he.lt;omega);have d:=aO (n:=es[i].f2.toNat) (by have:=he.le;omega);have f:=aO (wU he.i64.1);have hf:=he.fr;have g:=he.lt;have hr:cB es b (i:Int)=some (.inl (b++aGt es[i],((i+1:Nat):Int))):=by unfold cB;rw [if_pos (by simp only [decide_eq_true_eq];omega),bG rfl hx];simp only [Option.bind_some];rw [show es[i].f1=((es[i].f1.toNat:Nat):Int) by omega,sV _ _ (by have:=he.le;omega) (by omega)];simp only [Option.bind_some,Int.toNat_natCast];rw [show es[i].f2=((es[i].f2.toNat:Nat):Int) by omega,sV _ _ (by have:=he.le;omega) (by simp only [List.length_append,Int.toNat_natCast];omega)];simp only [Option.bind_some,Int.toNat_natCast];rw [zG he.i64.1 _ (by simp only [List.length_append];omega)];simp only [Option.bind_some];rw [zG he.i64.2 _ (by simp only [List.length_append];omega)];simp only [Option.bind_some];rw [lt_,w64 (by omega) (by omega)];simp [aGt,List.append_assoc]
    rw [cH (b:=λs:List Int×Int=>cB es s.1 s.2) hr,aNm es m (i+1) _ (b++aGt es[i]) (by omega) e (by have:=he.len;simp only [List.length_append];omega) hl,zI,List.append_assoc]
theorem aOn (l:List S46) (e:S46):aBi (l++[e])=e.f2:=by simp [aBi]
theorem aRd {e:S46} {n:List UInt8} (h:e.f0=n):(⟨n,e.f1,e.f2,e.f3,e.f4⟩:S46)=e:=by subst h;rfl
theorem aSk {α β γ:Type} (v:α) (f:α->Option γ) (g:β->Option γ):((some (Sum.inl v:α⊕β)).bind λy=>fL y f g)=f v:=rfl
theorem aRj {y:Int×S140} {pt:Int} {acc:List S46} {e:S46} {r:List Int} {i a:Nat} (he:EOk a e) (b:aBi acc=(a:Int)) (hB:Bs (aGt e++r)) (hi:(i:Int)<y.1) (hi':i<=1000) (c:acc.length<=1000) :
    cG y (aGt e++r) pt acc (i:Int)=some (.inl (r,pt,acc++[e],((i+1:Nat):Int))):=by
  have hf:=he.fr;have j:=he.lt;have hle:=he.le;have d:=he.lh;have f:((e.f1.toNat:Nat):Int)=e.f1:=by omega
  have g:((e.f2.toNat:Nat):Int)=e.f2:=by omega
  have e0:aGt e++r=uv e.f1.toNat++(uv e.f2.toNat++(uv (zz e.f3)++(uv (zz e.f4)++r))):=by simp only [aGt,List.append_assoc]
  rw [e0] at hB ⊢;have b1:=hB.r;have b2:=b1.r;have h:=b2.r;unfold cG;rw [if_pos (by simpa using hi),rdU (by omega) (by omega) hB];rw [aSk];rw [rdU (by omega) (by omega) b1];rw [aSk];rw [rdI he.i64.1 b2];rw [aSk];rw [rdI he.i64.2 h];rw [aSk];rw [aQb (by omega) (by omega),Option.bind_some];rw [aXg ⟨(),pt,acc⟩ (Nat.lt_of_le_of_lt c (by decide)),Option.bind_some];rw [b,if_pos (by rw [beq_iff_eq];omega),if_pos (by rw [decide_eq_true_eq];omega),decide_eq_true d,lY];rw [aSk];unfold eW;rw [bN (by simp only [List.length_cons,List.length_nil];omega),lt_,nN (n:=(i:Int)+1) (by omega) (by omega)];simp only [f,g,aRd he.nm];rw [show ((i+1:Nat):Int)=(i:Int)+1 by omega]
theorem aJv {y:Int×S140} {pt:Int}:∀ (es:List S46) (i a:Nat) (acc:List S46),Chain a es->aBi acc=(a:Int)->acc.length=i->y.1=((i+es.length:Nat):Int)->i+es.length<=500 ->
    loop (λs:List Int×Int×List S46×Int=>cG y s.1 s.2.1 s.2.2.1 s.2.2.2) (zI es,pt,acc,(i:Int))=some (.inl ([],pt,acc++es))
  | [],i,a,acc,hc,hend,hacc,hy,hl=>by refine bC ?_;show cG y [] pt acc (i:Int)=_;unfold cG;rw [if_neg (by rw [hy];simp),List.append_nil]
  | e::es,i,a,acc,.cons he hc,hend,hacc,hy,hl=>by simp only [List.length_cons] at hy hl;have hr:=aRj (y:=y) (pt:=pt) (r:=zI es) (i:=i) he hend ((aPz e).app (aHu es)) (by rw [hy];omega) (by omega) (by omega);rw [show zI (e::es)=aGt e++zI es from rfl,cH (b:=λs:List Int×Int×List S46×Int=>cG y s.1 s.2.1 s.2.2.1 s.2.2.2) hr];have:=he.fr;have:=he.lt;rw [aJv es (i+1) e.f2.toNat (acc++[e]) hc (by rw [aOn];omega) (by simp [hacc]) (by rw [hy];congr 1;omega) (by omega),List.append_assoc];rfl
theorem aV6 {pt:Int} {es:List S46} (hp:1<=pt/\pt<=8) (hc:Chain 0 es) (hl:es.length<=500):kA ⟨(),pt,[]⟩ (jK 99 (aEm pt es))=some (0,⟨(),pt,es⟩):=by have a:=aO (n:=pt.toNat) (by omega);have b:=aO (n:=es.length) (by omega);have c:=hc.len;have hB:=aK4 pt es;unfold kA;rw [aYs (by decide) hB (by simp only [aEm,List.length_append];omega)];simp only [Option.bind_some];rw [if_neg (by decide)];unfold lQ lA;simp only [lt_];rw [nN (n:=pt) (by omega) (by omega),show aEm pt es=uv pt.toNat++(uv es.length++zI es) from rfl,rdU (by omega) (by omega) hB];simp only [Option.bind_some,hF];rw [show ((pt.toNat:Nat):Int)=pt by omega,show (pt==pt)=true by simp,lY];simp only [Option.bind_some,hF];rw [rdU (by omega) (by omega) hB.r];simp only [Option.bind_some,hF];have hL:=aJv (y:=((es.length:Int),(⟨zI es⟩:S140))) (pt:=pt) es 0 0 [] hc rfl rfl (by simp) (by omega);rw [show ((0:Nat):Int)=0 from rfl] at hL;rw [hL];rfl
theorem aUe (l:List Nat):rl (l.map jU)=rl l:=by unfold rl;rw [List.map_map];exact List.map_congr_left λx _=>by show IntKind.i64.wrap ((jU (jU x):Nat):Int)=_;rw [wJ]
theorem aHi (l:List S61):yK (l.map dB)=yK l:=by
  have a:nV (l.map dB)=nV l:=by unfold nV;rw [List.map_map];rfl
  have b:jA (l.map dB)=jA l:=by unfold jA;rw [List.map_map];rfl
  have c:jB (l.map dB)=jB l:=by unfold jB;rw [List.map_map];rfl
  have d:nF (l.map dB)=nF l:=by unfold nF;rw [List.map_map];rfl
  have e:mF (l.map dB)=(mF l).map jU:=by unfold mF;rw [List.map_map,List.map_map];rfl
  unfold yK;rw [a,b,c,d,e,aUe]
theorem aT2 (l:List S61):pcs 64 (l.map dB)=(pcs 64 l).map (List.map dB):=by unfold pcs;rw [List.length_map,List.map_map];refine List.map_congr_left λk _=>?_;show ((l.map dB).drop (k * 64)).take 64=List.map dB ((l.drop (k * 64)).take 64);rw [List.map_take,List.map_drop]
theorem aIp:∀ cs:List (List S61),bQ (cs.map (List.map dB))=bQ cs
  | []=>rfl
  | c::cs=>by show pgL (c.map dB)++bQ (cs.map (List.map dB))=pgL c++bQ cs;rw [aIp cs];unfold pgL;rw [aHi]
theorem aMr:∀ (cs:List (List S61)) (a:Nat),dM (cs.map (List.map dB)) a=dM cs a
  | [],_=>rfl
  | c::cs,a=>by show ckL (c.map dB) (a:Int)::dM (cs.map (List.map dB)) (a+(pgL (c.map dB)).length)=ckL c (a:Int)::dM cs (a+(pgL c).length);rw [aMr cs,aHo,show pgL (c.map dB)=pgL c by unfold pgL;rw [aHi]]
theorem aRt (l:List S61) (k:Nat):xC (l.map dB) k=xC l k:=by unfold xC;rw [aT2,aIp,aMr]
theorem Run.back {k a:Int} {l:List S61} (h:Run k a l):Run k a (l.map dB):=by
  refine⟨λe he=>?_,λe he=>?_,λi x hx=>?_⟩
  · obtain⟨x,hx,rfl⟩:=List.mem_map.1 he
    exact h.fm x hx
  · obtain⟨x,hx,rfl⟩:=List.mem_map.1 he
    exact⟨(h.gd x hx).1,aMn (h.gd x hx).2⟩
  · rw [List.getElem?_map] at hx
    obtain⟨y,b,rfl⟩:=Option.map_eq_some_iff.1 hx;exact h.of i y b
theorem Seg.back {k:Int} {l:List S61} (h:Seg k l):Seg k (l.map dB):=by obtain⟨a,h0,b,hr⟩:=h.run;exact⟨h.k1,h.k8,by rw [List.length_map];exact h.ps,by rw [List.length_map];exact h.le,a,h0,by rw [List.length_map];exact b,hr.back⟩
def pc (m:List S61) (a b:Nat):List S61:=(m.drop a).take (b - a)
structure Lg (k:Int) (m:List S61):Prop where
  run:Run k 0 m
  le:m.length<=250
  k1:1<=k
  k8:k<=8
theorem zW {m:List S61} {a b:Nat} (h:b<=m.length):(pc m a b).length=b - a:=by unfold pc;simp;omega
theorem aO2 {m:List S61} {a b c:Nat} (d:a<=b) (e:b<=c):pc m a b++pc m b c=pc m a c:=by
  unfold pc;have:(m.drop a).take (c - a)=(m.drop a).take (b - a)++((m.drop a).drop (b - a)).take (c - b):=by rw [show c - a=(b - a)+(c - b) by omega,List.take_add]
  rw [this,List.drop_drop,show a+(b - a)=b by omega]
theorem aG6 (m:List S61) (b:Nat):pc m 0 b=m.take b:=by unfold pc;simp
theorem aCd {k:Int} {m:List S61} (h:Run k 0 m) (a b:Nat):Run k a (pc m a b):=by have:=(h.drop a).take (b - a);rw [Int.zero_add] at this;exact this
theorem Lg.seg {k:Int} {m:List S61} (h:Lg k m) {a b:Nat} (c:a<b) (hb:b<=m.length):Seg k (pc m a b):=by have:=h.le;exact⟨h.k1,h.k8,by rw [zW hb];omega,by rw [zW hb];omega,a,by omega,by rw [zW hb];omega,aCd h.run a b⟩
def szB (n:Nat):Nat:=6100 * ((n+63) / 64)+2422
theorem Seg.size {k:Int} {l:List S61} (h:Seg k l):(xC l k.toNat).length<=szB l.length:=by
  obtain⟨b1,b2⟩:=h.bytes;obtain⟨f1,f2⟩:=h.foot;obtain⟨p1,p2,p3⟩:=aDa h.k8 h.cut;have hlen:(pcs 64 l).length=(l.length+64 - 1) / 64:=zK;unfold szB;rw [b2];rw [hlen] at p1;have:l.length+64 - 1=l.length+63:=by omega
  rw [this] at p1;omega
theorem aFb {a b:Nat} (h:a<=b):szB a<=szB b:=by have:(a+63) / 64<=(b+63) / 64:=Nat.div_le_div_right (by omega);unfold szB;omega
def aGv (l:List S61):Int:=(ckL l 0).f4
def aBj (l:List S61):Int:=(ckL l 0).f5
def lM (m:List S61) (a b:Nat):S46:=⟨pX a b,(a:Int),(b:Int),aGv (pc m a b),aBj (pc m a b)⟩
def bA (m:List S61):Nat->List Nat->List S46
  | _,[]=>[]
  | a,b::r=>lM m a b::bA m b r
def eL:Nat->List Nat->Nat
  | a,[]=>a
  | _,b::r=>eL b r
def RiseN:Nat->List Nat->Nat->Prop
  | a,[],n=>a<=n
  | a,b::r,n=>a<b/\RiseN b r n
theorem RiseN.end_le:∀ {r:List Nat} {a n:Nat},RiseN a r n->a<=eL a r/\eL a r<=n
  | [],a,n,h=>⟨Nat.le_refl _,h⟩
  | b::r,a,n,h=>by have:=RiseN.end_le h.2;have:=h.1;show a<=eL b r/\eL b r<=n;omega
theorem RiseN.len:∀ {r:List Nat} {a n:Nat},RiseN a r n->a+r.length<=eL a r
  | [],a,n,h=>Nat.le_refl _
  | b::r,a,n,h=>by have:=RiseN.len h.2;have:=h.1;show a+(r.length+1)<=eL b r;omega
theorem aM4:∀ (r s:List Nat) (a:Nat),eL a (r++s)=eL (eL a r) s
  | [],_,_=>rfl
  | b::r,s,_=>aM4 r s b
theorem aCx (m:List S61):∀ (r s:List Nat) (a:Nat),bA m a (r++s)=bA m a r++bA m (eL a r) s
  | [],_,_=>rfl
  | b::r,s,a=>by show lM m a b::bA m b (r++s)=lM m a b::(bA m b r++bA m (eL b r) s);rw [aCx m r s b]
theorem eM (m:List S61):∀ (r:List Nat) (a:Nat),(bA m a r).length=r.length
  | [],_=>rfl
  | b::r,a=>by show (bA m b r).length+1=r.length+1;rw [eM m r b]
theorem RiseN.app:∀ {r s:List Nat} {a n:Nat},RiseN a (r++s) n↔RiseN a r (eL a r)/\RiseN (eL a r) s n
  | [],s,a,n=>⟨λh=>⟨Nat.le_refl _,h⟩,λh=>h.2⟩
  | b::r,s,a,n=>by show a<b/\RiseN b (r++s) n↔(a<b/\RiseN b r (eL b r))/\RiseN (eL b r) s n;rw [RiseN.app (r:=r) (s:=s) (a:=b) (n:=n)];exact⟨λh=>⟨⟨h.1,h.2.1⟩,h.2.2⟩,λh=>⟨h.1.1,h.1.2,h.2⟩⟩
theorem RiseN.mono:∀ {r:List Nat} {a n b:Nat},RiseN a r n->n<=b->RiseN a r b
  | [],_,_,_,h,h'=>Nat.le_trans h h'
  | _::_,_,_,_,h,h'=>⟨h.1,RiseN.mono h.2 h'⟩
theorem aAc {m:List S61}:∀ {r:List Nat} {a n:Nat},RiseN a r n->∀ e∈bA m a r,∃ x y:Nat,a<=x/\x<y/\y<=n/\e=lM m x y
  | [],_,_,_,e,he=>by cases he
  | b::r,a,n,h,e,he=>by
    rcases List.mem_cons.1 he with rfl | he
    · exact⟨a,b,Nat.le_refl _,h.1,Nat.le_trans (RiseN.end_le h.2).1 (RiseN.end_le h.2).2,rfl⟩
    · obtain⟨x,y,g,c,d,f⟩:=aAc h.2 e he
      have:=h.1;exact⟨x,y,by omega,c,d,f⟩
theorem aM5 (m:List S61):∀ (r:List Nat) (a:Nat),r≠[]->aBi (bA m a r)=(eL a r:Int)
  | [],a,h=>absurd rfl h
  | [b],a,_=>rfl
  | b::c::r,a,_=>by have:=aM5 m (c::r) b (by simp);show aBi (lM m a b::bA m b (c::r))=_;unfold aBi at this ⊢;rw [show bA m b (c::r)=lM m b c::bA m c r from rfl] at this ⊢;rw [List.getLast?_cons_cons];exact this
theorem aRe (m:List S61) (r:List Nat):aBi (bA m 0 r)=(eL 0 r:Int):=by
  by_cases h:r=[]
  · subst h;rfl
  · exact aM5 m r 0 h
theorem aTl {l:List S61} {k a:Int} (h:Run k a l) (h0:0<l.length) : -1099511627776<=aGv l/\aBj l<=1099511627776/\aGv l<=aBj l:=by
  have hb:=aOg l 0;have hx:=List.getElem_mem h0;obtain⟨_,_,i,j⟩:=hb _ hx;have e:ckL l 0=l.foldl ckF (ck0 l 0 (l[0]'h0)):=by
    cases l with
    | nil=>simp at h0
    | cons z c=>rfl
  have b:=aEr (λ_=>True) (λv => -1099511627776<=v/\v<=1099511627776) (λ_=>True) l (ck0 l 0 (l[0]'h0))
    ⟨⟨trivial,trivial⟩,⟨by have:=xS (h.fm _ hx);exact⟨this.2.2.1,this.2.2.2.1⟩,by have:=xS (h.fm _ hx);exact⟨this.2.2.1,this.2.2.2.1⟩⟩,trivial,trivial⟩
    λv d=>⟨trivial,by have:=xS (h.fm _ d);exact⟨this.2.2.1,this.2.2.2.1⟩,trivial⟩
  rw [← e] at b;obtain⟨_,⟨f,g⟩,_⟩:=b;exact⟨f.1,g.2,by unfold aGv aBj;omega⟩
theorem aA1 {k:Int} {m:List S61} (h:Lg k m):∀ {r:List Nat} {a:Nat},RiseN a r m.length->Chain a (bA m a r)
  | [],_,_=>.nil _
  | b::r,a,hr=>by have hb:=(RiseN.end_le hr.2);have hle:=h.le;have g:=hr.1;obtain⟨c,d,f⟩:=aTl (aCd h.run a b) (by rw [zW (by omega)];omega);exact .cons (e:=lM m a b) ⟨rfl,by show (a:Int)<b;omega,by show (b:Int)<1000;omega,rfl,c,d,f⟩ (aA1 h hr.2)
theorem aCy {k:Int} {m:List S61} (h:Lg k m) {r:List Nat} (hr:RiseN 0 r m.length) {e:S46} (he:e∈bA m 0 r):xA e.f0=true/\sY e.f0=true:=by obtain⟨x,y,a,b,c,rfl⟩:=aAc hr e he;have:=h.le;exact⟨aC3 x y,aFz (by omega) (by omega)⟩
theorem aP0 {m:List S61}:∀ {r:List Nat} {a n x y:Nat},RiseN a r n->n<=250->x<1000->y<1000->(bA m a r).any (λe=>e.f0==pX x y)=true->lM m x y∈bA m a r
  | [],_,_,_,_,_,_,_,_,h=>by cases h
  | b::r,a,n,x,y,hr,hn,hx,hy,h=>by
    have c:=hr.1;have d:=RiseN.end_le hr.2;rw [show bA m a (b::r)=lM m a b::bA m b r from rfl,List.any_cons,Bool.or_eq_true] at h;rcases h with h | h
    · obtain⟨rfl,rfl⟩:=aNu (by omega) (by omega) hx hy (beq_iff_eq.1 h:pX a b=pX x y)
      exact List.mem_cons_self
    · exact List.mem_cons_of_mem _ (aP0 hr.2 hn hx hy h)
def aVf (k:Int) (m:List S61) (r:List Nat):List Int:=jK 99 (aEm k (bA m 0 r))
def aL1 (k:Int) (m:List S61) (e:S46):S98:=aM9 e.f0 (xC (pc m e.f1.toNat e.f2.toNat) k.toNat)
structure Ct (k:Int) (m:List S61) (r:List Nat) (l:List S98):Prop where
  cat0:r=[]->get l vF=none
  cat:r≠[]->get l vF=some (aM9 vF (aVf k m r))
  segs:∀ e∈bA m 0 r,get l e.f0=some (aL1 k m e)
def aSb (m:List S61) (r:List Nat) (f:List UInt8):Prop:=f=vF\/∃ e∈bA m 0 r,f=e.f0
theorem Ct.of {k:Int} {m:List S61} {r:List Nat} {l a:List S98} (h:Ct k m r l) (hp:∀ f,aSb m r f->get a f=get l f):Ct k m r a :=
  ⟨λe=>(hp _ (.inl rfl)).trans (h.cat0 e),λe=>(hp _ (.inl rfl)).trans (h.cat e),λe he=>(hp _ (.inr ⟨e,he,rfl⟩)).trans (h.segs e he)⟩
theorem aJo (l:List S46):sZ l vF=false:=by unfold sZ;rw [aRi];rfl
theorem aH5 (l:List S46):sZ l qW=true:=by unfold sZ;simp
theorem aE8 {f:List UInt8} (h:xA f=true):f≠qW/\f≠vF :=
  ⟨λe=>by rw [e] at h;exact absurd h (by decide),λe=>by rw [e] at h;exact absurd h (by decide)⟩
theorem aCe {k:Int} {m:List S61} (h:Lg k m) {r:List Nat} (hr:RiseN 0 r m.length) {f:List UInt8} (hf:aSb m r f):sZ (bA m 0 r) f=false:=by
  rcases hf with rfl | ⟨e,he,rfl⟩
  · exact aJo _
  · have a:=(aE8 (aCy h hr he).1).1
    unfold sZ;rw [show ((bA m 0 r).any λx=>x.f0==e.f0)=true from List.any_eq_true.2 ⟨e,he,by simp⟩,show (e.f0==qW)=false by simpa using a];simp
theorem aTc {m:List S61} {r:List Nat} {n x y:Nat} (hr:RiseN 0 r n) (hn:n<=250) (hx:x<1000) (a:y<1000) (h:lM m x y∉bA m 0 r):sZ (bA m 0 r) (pX x y)=true:=by
  have:(bA m 0 r).any (λe=>e.f0==pX x y)=false:=by
    cases c:(bA m 0 r).any (λe=>e.f0==pX x y) with
    | false=>rfl
    | true=>exact absurd (aP0 hr hn hx a c) h
  unfold sZ;rw [this,aC3];simp
def CleanC (es:List S46) (l:List S98):Prop:=∀ f x,get l f=some x->sZ es f=false
theorem CleanC.none {es:List S46} {l:List S98} (h:CleanC es l) {f:List UInt8} (hf:sZ es f=true):get l f=none:=by
  cases hg:get l f with
  | none=>rfl
  | some x=>rw [h f x hg] at hf;cases hf
def aYp (l:List S98):Prop:=∀ f x,get l f=some x->f=vF\/f=qW\/xA f=true
theorem aNy {kk:Nat} {s:S77} (h:SI kk s) (hk:kk+500<4611686018427387904) (j:s.f3=false) (c:S79) (hc:c.f2.length<=1000000) :
    ∃ e s',cX c s=some (e,c,s')/\SI (kk+500) s'/\Kp s s'/\(∀ f,sZ c.f2 f=false->get s'.f0 f=get s.f0 f)/\(∀ f x,get s'.f0 f=some x->get s.f0 f=some x)/\(used s'.f0<=used s.f0/\s'.f0.length<=s.f0.length) /\
      ((e=0/\s'.f3=false/\CleanC c.f2 s'.f0)\/(e=9/\s'.f3=true)):=by
  obtain⟨k,l,i3,i4,i5,m⟩:=aI1 (sZ c.f2) (s.f0.map S98.f0) s kk h j (aB7 h.rise) λf hf=>by obtain⟨x,hx,rfl⟩:=List.mem_map.1 hf;exact⟨x,aLl h.rise hx⟩
  refine⟨_,_,aRw h hk c hc,k.mono (by have:=h.len;rw [List.length_map];omega),l,i3,i4,i5,?_⟩;rcases m with ⟨a,b,d⟩ | q
  · refine .inl ⟨a,b,λf x hx=>?_⟩
    cases g:sZ c.f2 f with
    | false=>rfl
    | true =>
      have i:=i4 f x hx;have n:=d f (List.mem_map.2 ⟨x,(xU i).1,(xU i).2⟩) g;rw [n] at hx;cases hx
  · exact .inr q
def FitC (s:S77) (m c:Nat):Prop:=(used s.f0:Int)+m<=s.f1/\s.f0.length+c<=500
theorem FitC.mono {s:S77} {m a c b:Nat} (h:FitC s m c) (d:a<=m) (e:b<=c):FitC s a b:=⟨by have:=h.1;omega,by have:=h.2;omega⟩
theorem aJ6 {kk:Nat} {s:S77} (h:SI kk s) (hk:kk+500<4611686018427387904) (y:s.f3=false) (c:S79) {n:List UInt8} (hn:sY n=true) (hg:get s.f0 n=none) {p:List Int} (hp:Bs p) :
    ∃ e s',fI c n p s=some (e,c,s')/\SI (kk+2) s'/\Kp s s'/\(∀ f,f≠n->get s'.f0 f=get s.f0 f) /\
      ((e=0/\s'.f3=false/\get s'.f0 n=some (aM9 n p))\/(e=9/\s'.f3=true)\/(e=10/\s'=s)) /\
      (∀ m c,FitC s (p.length+m) (c+1)->e≠10/\(e=0->FitC s' m c)):=by
  have h32:=aP5 hn;obtain⟨j,r⟩:=aSi h y hn p;have g:=h.app (n:=n) (p:=p) hp;have k:fI c n p s=(if ((qY s n p).1==0)=true then some ((aDo (qY s n p).2 n).1,c,(aDo (qY s n p).2 n).2) else some ((qY s n p).1,c,(qY s n p).2)):=by
    unfold fI;rw [h.Append (by omega) (by omega) p];simp only [Option.bind_some];split
    · rw [show oM (some (qY s n p).2) n=_ from g.Sync (by omega) (by omega)]
      rfl
    · rfl
  rw [hg] at r;have hu:=aCn h.rise ⟨n,[]++p,0⟩;have hl:=aEu h.rise ⟨n,[]++p,0⟩;rw [hg] at hu hl;simp only [Option.getD_none,List.nil_append,Option.isSome_none,List.length_nil,Nat.add_zero] at hu hl;rcases r with ⟨e,es,hr⟩ | ⟨⟨e,on⟩ | ⟨e,off⟩,i⟩
  · refine⟨10,s,?_,h.mono (by omega),Kp.refl s,λ_ _=>rfl,.inr (.inr ⟨rfl,rfl⟩),λm c hf=>?_⟩
    · rw [k,e,es];rfl
    · exfalso
      obtain⟨f1,f2⟩:=hf;rcases hr with hr | hr <;> omega
  · simp only [Option.getD_none,List.nil_append] at i hu hl
    have hx:get (qY s n p).2.f0 n=some ⟨n,p,0⟩:=by rw [i,xV h.rise,if_pos rfl]
    obtain⟨t,l⟩:=aHn g on hx λx=>put (qY s n p).2.f0 ⟨x.f0,x.f1,x.f1.length⟩;have z:=g.syn (n:=n);have u:=aCn g.rise ⟨n,p,p.length⟩;have o:=aEu g.rise ⟨n,p,p.length⟩;rw [hx] at u o;simp only [Option.getD_some,Option.isSome_some,if_true] at u o;refine⟨(aDo (qY s n p).2 n).1,(aDo (qY s n p).2 n).2,?_,z,Kp.trans j t,λf hf=>?_,?_,λm c v=>?_⟩
    · rw [k,e];rfl
    · rcases l with ⟨_,_,d⟩ | ⟨_,_,d⟩
      · rw [show (aDo (qY s n p).2 n).2.f0=_ from d,xV g.rise,if_neg (λq=>hf q.symm),i,xV h.rise,if_neg (λq=>hf q.symm)]
      · rw [show (aDo (qY s n p).2 n).2.f0=_ from d,i,xV h.rise,if_neg (λq=>hf q.symm)]
    · rcases l with ⟨a,b,d⟩ | ⟨a,b,d⟩
      · exact .inl ⟨a,b,by rw [show (aDo (qY s n p).2 n).2.f0=_ from d,xV g.rise,if_pos rfl];rfl⟩
      · exact .inr (.inl ⟨a,b⟩)
    · rcases l with ⟨a,b,d⟩ | ⟨a,b,d⟩
      · refine⟨by rw [show (aDo (qY s n p).2 n).1=0 from a];decide,λ_=>?_⟩
        obtain⟨f1,f2⟩:=v;have w:(aDo (qY s n p).2 n).2.f0=put (qY s n p).2.f0 ⟨n,p,p.length⟩:=d;have A:=(Kp.trans j t).1;refine⟨?_,?_⟩
        · rw [show (aDo (qY s n p).2 n).2.f1=s.f1 from A,w]
          have B:used (put (qY s n p).2.f0 ⟨n,p,p.length⟩)=used (qY s n p).2.f0:=by omega
          rw [B,i];omega
        · rw [w,o,i,hl]
          simp only [if_neg (by simp:¬ (false=true))];omega
      · refine⟨by rw [show (aDo (qY s n p).2 n).1=9 from a];decide,λq=>?_⟩
        rw [show (aDo (qY s n p).2 n).1=9 from a] at q;cases q
  · simp only [Option.getD_none,List.nil_append] at i
    refine⟨9,(qY s n p).2,?_,g.mono (by omega),j,λf hf=>?_,.inr (.inl ⟨rfl,off⟩),λm c v=>⟨by decide,λq=>by cases q⟩⟩
    · rw [k,e];rfl
    · rw [i,xV h.rise,if_neg (λq=>hf q.symm)]
theorem aMo {k:Int} {es:List S46} (hk:1<=k/\k<=8) (hc:Chain 0 es) (hl:es.length<=250):(jK 99 (aEm k es)).length<=40 * es.length+40:=by have a:=aO (n:=k.toNat) (by omega);have b:=aO (n:=es.length) (by omega);have c:=hc.len;rw [rZ];simp only [aEm,List.length_append];omega
theorem aLt {kk:Nat} {s:S77} (h:SI kk s) (hk:kk+500<4611686018427387904) (q:s.f3=false) {k:Int} (w:1<=k/\k<=8) {old es:List S46} (hc:Chain 0 es) (hl:es.length<=250) (hg:get s.f0 qW=none) :
    ∃ e s',cO ⟨(),k,old⟩ es s=some (e,⟨(),k,if e=0 then es else old⟩,s')/\SI (kk+3) s'/\Kp s s'/\(∀ f,f≠qW->f≠vF->get s'.f0 f=get s.f0 f) /\
      ((e=0/\s'.f3=false/\get s'.f0 vF=some (aM9 vF (jK 99 (aEm k es)))/\get s'.f0 qW=none)\/((e=9/\s'.f3=true\/e=10/\s'.f3=false)/\get s'.f0 vF=get s.f0 vF)) /\
      (FitC s (40 * es.length+40) 1->e≠10):=by
  have H:=aMo w hc hl;have hBs:Bs (jK 99 (aEm k es)):=aB9 (by decide) (aK4 k es);have I:=aO (n:=k.toNat) (by omega);have J:=aO (n:=es.length) (by omega);have K:=hc.len;have y:=sV k.toNat [] (by omega) (by simp only [List.length_nil];omega);have z:=sV es.length (uv k.toNat) (by omega) (by omega);have r:=aNm es es.length 0 0 (uv k.toNat++uv es.length) (by omega) (by rw [List.drop_zero];exact hc) (by simp only [List.length_append];omega) (by omega);rw [List.drop_zero] at r;have A:=zJ (p:=[]) (kind:=99) (by decide) (aK4 k es) (by simp only [aEm,List.length_append];omega) (by simp);have dTC:qW≠vF:=by decide
  obtain⟨l,s1,B,g,m,i,t,C⟩:=aJ6 h hk q ⟨(),k,old⟩ aJm hg hBs;have D:cO ⟨(),k,old⟩ es s=fU ⟨(),k,old⟩ es s (aEm k es):=by unfold cO;rw [lt_,nN (n:=k) (by omega) (by omega),show k=((k.toNat:Nat):Int) by omega,y];simp only [Option.bind_some,List.nil_append];rw [lt_,nN (by omega) (by omega),z];simp only [Option.bind_some];rw [show (0:Int)=((0:Nat):Int) from rfl,r];simp only [Option.bind_some];unfold hM aEm;rw [List.append_assoc];simp only [Int.toNat_natCast]
  rw [D];unfold fU;rw [A];simp only [Option.bind_some,List.nil_append];rw [show ([99,97,116,46,116,109,112]:List UInt8)=qW from rfl,B];simp only [Option.bind_some];have E:FitC s (40 * es.length+40) 1->l≠10:=λhf=>(C 0 0 (hf.mono (by omega) (by omega))).1;by_cases c1:l=0
  rotate_left
  · rw [if_pos (by simpa using c1)]
    refine⟨l,s1,by rw [if_neg c1],g.mono (by omega),m,λf a b=>i f a,?_,E⟩;rcases t with ⟨a,_⟩ | ⟨a,b⟩ | ⟨a,b⟩
    · exact absurd a c1
    · exact .inr ⟨.inl ⟨a,b⟩,i _ dTC.symm⟩
    · exact .inr ⟨.inr ⟨a,by rw [b];exact q⟩,i _ dTC.symm⟩
  rw [if_neg (by simp [c1])];obtain⟨u,F⟩:s1.f3=false/\get s1.f0 qW=some (aM9 qW (jK 99 (aEm k es))):=by
    rcases t with ⟨_,a,b⟩ | ⟨a,_⟩ | ⟨a,_⟩
    · exact⟨a,b⟩
    · rw [c1] at a;cases a
    · rw [c1] at a;cases a
  rw [show ([99,97,116]:List UInt8)=vF from rfl,g.Rename (by omega) (by decide) (by decide)];simp only [Option.bind_some];have G:aPa s1 qW vF=aB3 s1 qW λx=>put (del s1.f0 qW) ⟨vF,x.f1,x.f2⟩:=by unfold aPa;rw [if_pos aJm,if_pos (aC5 aHl u)]
  obtain⟨o,v⟩:=aHn g u F λx=>put (del s1.f0 qW) ⟨vF,x.f1,x.f2⟩;have i4:=g.ren (a:=qW) (b:=vF);rw [← G] at o v;rcases v with ⟨a,b,j⟩ | ⟨a,b,j⟩
  · rw [if_neg (by rw [a];simp)]
    refine⟨0,_,rfl,i4.mono (by omega),Kp.trans m o,λf c d=>?_,.inl ⟨rfl,b,?_,?_⟩,λ_=>by decide⟩
    · rw [j,xV (yQ g.rise _),if_neg (λe=>d e.symm),aC0 g.rise,if_neg (λe=>c e.symm)]
      exact i f c
    · rw [j,xV (yQ g.rise _),if_pos rfl]
      rfl
    · rw [j,xV (yQ g.rise _),if_neg dTC.symm,aC0 g.rise,if_pos rfl]
  · rw [if_pos (by rw [a];simp)]
    refine⟨9,_,by rw [a];rfl,i4.mono (by omega),Kp.trans m o,λf c d=>by rw [j];exact i f c,.inr ⟨.inl ⟨rfl,b⟩,by rw [j];exact i _ dTC.symm⟩,λ_=>by decide⟩
theorem aOo {l:List S61} (hl:l.length<=100000) {x:S61} (hx:l[0]?=some x) :
    loop (λs:Int×Int×Int=>cI l s.1 s.2.1 s.2.2) (x.f2,x.f2,0)=some (aGv l,aBj l):=by
  have e0:ckL l 0=l.foldl ckF (ck0 l 0 x):=by
    cases l with
    | nil=>cases hx
    | cons y l=>cases hx;rfl
  have hk:=iC (b:=λs:Int×Int×Int=>cI l s.1 s.2.1 s.2.2)
    (λk=>(((l.take k).foldl ckF (ck0 l 0 x)).f4,((l.take k).foldl ckF (ck0 l 0 x)).f5,(k:Int)))
    (t:=((l.foldl ckF (ck0 l 0 x)).f4,(l.foldl ckF (ck0 l 0 x)).f5)) l.length (λk hk=>by
      have a:=List.getElem?_eq_getElem (l:=l) (i:=k) hk;show cI l _ _ (k:Int)=_;unfold cI;rw [if_pos (by simp only [decide_eq_true_eq];omega),bG rfl a];simp only [Option.bind_some,lt_];rw [w64 (by omega) (by omega),aH4 ckF _ a];rfl) (by
      show cI l _ _ ((l.length:Nat):Int)=_;unfold cI;rw [if_neg (by simp only [decide_eq_true_eq];omega),List.take_length])
  unfold aGv aBj;rw [e0];exact hk
theorem aS2 {k:Int} {l:List S61} {a b:Nat} (hs:Seg k l) (hr:Run k a l) (hb:b=a+l.length) (f:b<1000) (old:List S46) (s:S77) :
    dJ ⟨(),k,old⟩ l s=(fI ⟨(),k,old⟩ (pX a b) (xC l k.toNat) s).bind λy=>some (⟨pX a b,(a:Int),(b:Int),aGv l,aBj l⟩,y.1,y.2.1,y.2.2):=by
  have g:=hs.ps;have hx:=List.getElem?_eq_getElem (l:=l) (i:=0) g;have c:at_ l 0=some l[0]:=hx;have d:=aOo (by omega) hx;generalize l[0]=x0 at c d;have e:=aMf hs hr (by omega);rw [show (a:Int)+(l.length:Int)=(b:Int) by omega] at e;unfold dJ;rw [aMi hr.gd k (by omega),bAg hs,Option.bind_some,if_neg (by simp),aPl hs,Option.bind_some,e,Option.bind_some,c,Option.bind_some,aQb (by omega) f,Option.bind_some];unfold jW;rw [d,Option.bind_some];unfold iI jV;exact rfl
theorem wR {c:S79} {e:Int} (h:e=0\/e=9) (s:S77):dE c e s=some (e,c,s):=by unfold dE eY eX;rcases h with rfl | rfl <;> rfl
theorem aPc {c:S79} {e f:Int} {s s':S77} (h0:e≠0) (b:e≠9) (hw:cX c s=some (f,c,s')):dE c e s=some (if f=0 then e else f,c,s'):=by
  unfold dE eY eX;rw [if_pos (by simpa using h0),if_pos (by simpa using b),hw];simp only [Option.bind_some];by_cases a:f=0
  · rw [if_neg (by simp [a]),if_pos a]
  · rw [if_pos (by simpa using a),if_neg a]
end Go.Proofs.YtdkpjpoajlmmfaaGreatDoor.P
