/- Texts of the claim, joined: what it uses of Qh, Qi, Qj, Qk, Qm, Qn, Qo, Qp, Qq, Pa, Pb, Pc, Pd, Pf, Pg, Ph, Pi, Pj, Pk, Pl, Pm, Po, Rb, Rc, Rd, Re, Rf, Rj, Rh, Rk, Rp, Rm, Rn, Ro, Rq, Sa, Sb, Sc, Sd. -/
import Derived.Test.YtdkpjpoajlmmfaaGreatDoorZk
import Derived.Sort.Walk0
import Derived.IntWalk
import Derived.Lib.SlicesCompact
namespace Go.Proofs.YtdkpjpoajlmmfaaGreatDoor.P
open Go Go.RowKit Go.Proofs.YtdkpjpoajlmmfaaGreatDoor.E Go.Proofs.YtdkpjpoajlmmfaaGreatDoor.M
set_option linter.unusedVariables false
set_option linter.unusedSectionVars false
def aBk:Nat->List Int->Option (List Int×List Int)
 | 0,xs=>some ([],xs)
 | n+1,xs=>match pI xs with
  | some (x,r)=>match aBk n r with
   | some (l,r')=>some (x::l,r')
   | none=>none
  | none=>none
def pD:Int->Nat->List Int->Option (List Int×List Int)
 | _,0,xs=>some ([],xs)
 | a,n+1,xs=>match pI xs with
  | some (x,r)=>match pD (IntKind.i64.wrap (a+x)) n r with
   | some (l,r')=>some (IntKind.i64.wrap (a+x)::l,r')
   | none=>none
  | none=>none
def pR:Nat->Nat->List Int->Option (List Int×List Int)
 | 0,_,xs=>some ([],xs)
 | f+1,n,xs=>if n=0 then some ([],xs) else match pI xs with
  | some (x,r)=>match pU ((n - 1:Nat):Int) r with
   | some (k,r')=>match pR f (n - (k.toNat+1)) r' with
    | some (l,r'')=>some (List.replicate (k.toNat+1) x++l,r'')
    | none=>none
   | none=>none
  | none=>none
def toN (xs:List Int):List Nat:=xs.map Int.toNat
def part (n w v:Nat):List Int:=(List.range n).map λq=>IntKind.i64.wrap ((v / 2 ^ (q * w) % 2 ^ w:Nat):Int)
def pP (n:Nat) (xs:List Int):Option (List Int×List Int):=match pI xs with
 | some (lo,r)=>match pB r with
  | some (w,r')=>if w<=64/\r'.length=(n * w.toNat+7) / 8/\V 8 (toN r')<2 ^ (n * w.toNat) then some ((part n w.toNat (V 8 (toN r'))).map λx=>IntKind.i64.wrap (x+lo),[]) else none
  | none=>none
 | none=>none
def aJ0 (w:Int) (n:Nat) (r:List Int):Option (List Int×List Int) :=
 if w=0 then aBk n r else if w=1 then pD 0 n r else if w=2 then pR n n r else if 0<n then pP n r else some ([],r)
def aGh (xs:List Int):Option (List Int×List Int):=match pB xs with
 | some (w,r)=>if w<=3 then (match pU 4096 r with
  | some (n,r')=>aJ0 w n.toNat r'
  | none=>none) else none
 | none=>none
theorem aX3 {xs r:List Int} {b:Int} (hB:Bs xs) (h:pB xs=some (b,r)):(0<=b/\b<256)/\Bs r/\xs=b::r:=by
 cases xs with
 | nil=>cases h
 | cons c xs=>cases h;exact⟨hB.cons.1,hB.cons.2,rfl⟩
theorem aJu (n:Nat) (hn:n<=4096):∀ (m k:Nat) (acc xs:List Int),Bs xs->k+m=n->acc.length=k ->
  ∃ y,loop (λs:List Int×List Int×Int=>dH (n:Int) s.1 s.2.1 s.2.2) (xs,acc,(k:Int))=some y/\match aBk m xs with
   | some (l,r)=>y=.inl (r,acc++l)
   | none=>∃ s,y=.inr (.inr s)
 | 0,k,acc,xs,hB,hk,ha=>by refine⟨_,bC (t:=Sum.inl (xs,acc)) ?_,by simp [aBk]⟩;show dH (n:Int) xs acc (k:Int)=_;unfold dH;rw [if_neg (by simp only [decide_eq_true_eq];omega)]
 | m+1,k,acc,xs,hB,hk,ha=>by
  unfold aBk;rcases (aHh hB).cases with ⟨x,r,a,b⟩ | ⟨a,s,b⟩
  ·rw [a];obtain⟨y,c,hm⟩:=aJu n hn m (k+1) (acc++[x]) r (aQd hB a).1 (by omega) (by simp [ha]);refine⟨y,(cH (s':=(r,acc++[x],((k+1:Nat):Int))) ?_).trans c,?_⟩
   ·show dH (n:Int) xs acc (k:Int)=_;unfold dH;rw [if_pos (by simp only [decide_eq_true_eq];omega),b];simp only [Option.bind_some,hF,lt_];rw [bN (by simp;omega),w64 (by omega) (by omega)];rfl
   ·simp only;revert hm;cases aBk m r with
    | none=>exact id
    | some q=>intro hm;simpa using hm
  ·rw [a];refine⟨_,bC (t:=Sum.inr (.inr s)) ?_,s,rfl⟩;show dH (n:Int) xs acc (k:Int)=_;unfold dH;rw [if_pos (by simp only [decide_eq_true_eq];omega),b];rfl
theorem aV5 {n:Nat} (hn:n<=4096) {xs:List Int} (hB:Bs xs):IsR (mY (n:Int) ⟨xs⟩) (aBk n xs):=by
 obtain⟨y,a,hm⟩:=aJu n hn n 0 [] xs hB (by omega) rfl;unfold mY;rw [show (0:Int)=((0:Nat):Int) from rfl,a];simp only [Option.bind_some];revert hm;cases aBk n xs with
 | none=>rintro⟨s,rfl⟩;exact⟨s,rfl⟩
 | some q=>intro hm;subst hm;rfl
theorem aPv (n:Nat) (hn:n<=4096):∀ (m k:Nat) (a:Int) (acc xs:List Int),Bs xs->k+m=n->acc.length=k ->
  ∃ y,loop (λs:List Int×List Int×Int×Int=>hD (n:Int) s.1 s.2.1 s.2.2.1 s.2.2.2) (xs,acc,a,(k:Int))=some y/\match pD a m xs with
   | some (l,r)=>y=.inl (r,acc++l)
   | none=>∃ s,y=.inr (.inr s)
 | 0,k,a,acc,xs,hB,hk,ha=>by refine⟨_,bC (t:=Sum.inl (xs,acc)) ?_,by simp [pD]⟩;show hD (n:Int) xs acc a (k:Int)=_;unfold hD;rw [if_neg (by simp only [decide_eq_true_eq];omega)]
 | m+1,k,a,acc,xs,hB,hk,ha=>by
  unfold pD;rcases (aHh hB).cases with ⟨x,r,b,c⟩ | ⟨b,s,c⟩
  ·rw [b];obtain⟨y,d,hm⟩:=aPv n hn m (k+1) (IntKind.i64.wrap (a+x)) (acc++[IntKind.i64.wrap (a+x)]) r (aQd hB b).1 (by omega) (by simp [ha]);refine⟨y,(cH (s':=(r,acc++[IntKind.i64.wrap (a+x)],IntKind.i64.wrap (a+x),((k+1:Nat):Int))) ?_).trans d,?_⟩
   ·show hD (n:Int) xs acc a (k:Int)=_;unfold hD;rw [if_pos (by simp only [decide_eq_true_eq];omega),c];simp only [Option.bind_some,hF,lt_];rw [bN (by simp;omega),w64 (n:=(k:Int)+1) (by omega) (by omega)];rfl
   ·simp only;revert hm;cases pD (IntKind.i64.wrap (a+x)) m r with
    | none=>exact id
    | some q=>intro hm;simpa using hm
  ·rw [b];refine⟨_,bC (t:=Sum.inr (.inr s)) ?_,s,rfl⟩;show hD (n:Int) xs acc a (k:Int)=_;unfold hD;rw [if_pos (by simp only [decide_eq_true_eq];omega),c];rfl
theorem aUd (y:Int×S140) (k:Nat) (acc:List Int) (h:acc.length+k<=8192):loop (λs:List Int×Int=>iL y (k:Int) s.1 s.2) (acc,0)=some (acc++List.replicate k y.1):=by
 have:=iC (b:=λs:List Int×Int=>iL y (k:Int) s.1 s.2) (λj=>(acc++List.replicate j y.1,(j:Int))) (t:=acc++List.replicate k y.1) k (λj a=>by
  show iL y (k:Int) (acc++List.replicate j y.1) (j:Int)=_;unfold iL;rw [if_pos (by simp only [decide_eq_true_eq];omega),bN (by simp;omega),lt_,nN (by omega) (by omega),List.replicate_succ',List.append_assoc];rfl) (by
  show iL y (k:Int) (acc++List.replicate k y.1) (k:Int)=_;unfold iL;rw [if_neg (by simp)])
 simpa using this
theorem aQk (n:Nat) (hn:n<=4096):∀ (f m:Nat) (acc xs:List Int),Bs xs->acc.length+m=n->m<=f ->
  ∃ y,loop (λs:List Int×List Int=>dT (n:Int) s.1 s.2) (xs,acc)=some y/\match pR f m xs with
   | some (l,r)=>y=.inl (r,acc++l)
   | none=>∃ s,y=.inr (.inr s)
 | 0,m,acc,xs,hB,hk,hf=>by refine⟨_,bC (t:=Sum.inl (xs,acc)) ?_,by simp [pR]⟩;show dT (n:Int) xs acc=_;unfold dT;rw [if_neg (by simp only [decide_eq_true_eq];omega)]
 | f+1,m,acc,xs,hB,hk,hf=>by
  unfold pR;by_cases g:m=0
  ·rw [if_pos g];refine⟨_,bC (t:=Sum.inl (xs,acc)) ?_,by simp⟩;show dT (n:Int) xs acc=_;unfold dT;rw [if_neg (by simp only [decide_eq_true_eq];omega)]
  ·rw [if_neg g];rcases (aHh hB).cases with ⟨x,r,b,d⟩ | ⟨b,s,d⟩
   ·rw [b];simp only;have h:=(aQd hB b).1;have i:IntKind.u64.wrap (IntKind.i64.wrap (IntKind.i64.wrap ((n:Int) - (acc.length:Int)) - 1))=((m - 1:Nat):Int):=by rw [w64 (n:=(n:Int) - (acc.length:Int)) (by omega) (by omega),w64 (by omega) (by omega),nN (by omega) (by omega)];omega
    rcases (aCu ((m - 1:Nat):Int) h).cases with ⟨k,r',a,e⟩ | ⟨a,s,e⟩
    ·rw [a];simp only;obtain⟨o,p,u⟩:=(tG a).1;obtain⟨c,rfl⟩:∃ c:Nat,k=(c:Int):=⟨k.toNat,by omega⟩;rw [Int.toNat_natCast];obtain⟨y,j,hm⟩:=aQk n hn f (m - (c+1)) (acc++List.replicate (c+1) x) r' (aNl h a) (by simp;omega) (by omega);refine⟨y,(cH (s':=(r',acc++List.replicate (c+1) x)) ?_).trans j,?_⟩
     ·show dT (n:Int) xs acc=_;unfold dT;rw [if_pos (by simp only [decide_eq_true_eq];omega),d];simp only [Option.bind_some,hF,lt_];rw [i,e];simp only [Option.bind_some,hF];rw [nN (by omega) (by omega),show (1:Int)+(c:Int)=((c+1:Nat):Int) by omega,aUd _ _ _ (by omega)];rfl
     ·revert hm;cases pR f (m - (c+1)) r' with
      | none=>exact id
      | some q=>intro hm;simpa using hm
    ·rw [a];refine⟨_,bC (t:=Sum.inr (.inr s)) ?_,s,rfl⟩;show dT (n:Int) xs acc=_;unfold dT;rw [if_pos (by simp only [decide_eq_true_eq];omega),d];simp only [Option.bind_some,hF,lt_];rw [i,e];rfl
   ·rw [b];refine⟨_,bC (t:=Sum.inr (.inr s)) ?_,s,rfl⟩;show dT (n:Int) xs acc=_;unfold dT;rw [if_pos (by simp only [decide_eq_true_eq];omega),d];rfl
theorem aWp {xs:List Int} (hB:Bs xs) {j:Nat} (h:j<xs.length):∃ b:Nat,xs[j]?=some (b:Int)/\(toN xs)[j]?=some b/\b<256:=by have hx:=List.getElem?_eq_getElem h;have:=hB _ (List.mem_of_getElem? hx);refine⟨xs[j].toNat,by rw [hx];congr 1;omega,by simp [toN,hx],by omega⟩
theorem aZx {xs:List Int} (hB:Bs xs):Lt 8 (toN xs):=by intro d hd;obtain⟨b,hb,rfl⟩:=List.mem_map.1 hd;have:=hB b hb;omega
theorem rG (n w v:Nat):(part n w v).length=n:=by simp [part]
theorem aEy {n w v q:Nat} (h:q<n):(part n w v)[q]?=some (IntKind.i64.wrap ((v / 2 ^ (q * w) % 2 ^ w:Nat):Int)):=by unfold part;rw [List.getElem?_map,List.getElem?_range h];rfl
theorem aP2 {xs ys:List Int} (hl:xs.length=ys.length) (h:∀ j:Nat,j<xs.length->xs[j]?=ys[j]?):xs=ys:=by
 apply List.ext_getElem? λj=>?_;rcases Nat.lt_or_ge j xs.length with a | a
 ·exact h j a
 ·rw [List.getElem?_eq_none a,List.getElem?_eq_none (by omega)]
theorem aIk (a:Nat):BitVec.ofInt 64 (IntKind.i64.wrap (a:Int))=BitVec.ofNat 64 a:=by apply BitVec.eq_of_toNat_eq;rw [BitVec.toNat_ofInt,BitVec.toNat_ofNat,IntWalk.i64_left];unfold wrap64;omega
theorem aTg (a b:Nat) (c:a<18446744073709551616) (hb:b<18446744073709551616):ior .i64 (IntKind.i64.wrap (a:Int)) (IntKind.i64.wrap (b:Int))=IntKind.i64.wrap ((a ||| b:Nat):Int):=by show IntKind.i64.wrap (((BitVec.ofInt 64 (IntKind.i64.wrap (a:Int)) ||| BitVec.ofInt 64 (IntKind.i64.wrap (b:Int))).toNat:Nat):Int)=_;rw [aIk,aIk,BitVec.toNat_or,BitVec.toNat_ofNat,BitVec.toNat_ofNat,Nat.mod_eq_of_lt (show a<2 ^ 64 by omega),Nat.mod_eq_of_lt (show b<2 ^ 64 by omega)]
theorem aRn {n w v i:Nat} (hw:0<w) (h:i / w<n):(part n w (v % 2 ^ i)).set (i / w) (IntKind.i64.wrap ((v % 2 ^ i / 2 ^ (i / w * w) % 2 ^ w+bt v i * 2 ^ (i % w):Nat):Int))=part n w (v % 2 ^ (i+1)):=by
 refine aP2 (by simp [rG]) λj a=>?_;rw [List.length_set,rG] at a;rw [aEy a];by_cases e:i / w=j
 ·subst e;rw [List.getElem?_set_self (by rw [rG];exact a),(aEz v i w hw).1]
 ·rw [List.getElem?_set_ne e,aEy a,aJ3 v i j w hw (Ne.symm e)]
theorem aN0 {n w:Nat} (hn:n<=4096) (hw:w<=64) {xs:List Int} (hB:Bs xs) (hlen:xs.length=(n * w+7) / 8) :
  ∃ y,loop (λs:List Int×List Int×Int=>hT (n:Int) (w:Int) ((8 * xs.length:Nat):Int) s.1 s.2.1 s.2.2) (xs,List.replicate n 0,0)=some y /\
   ((V 8 (toN xs)<2 ^ (n * w)/\y=.inl (xs,part n w (V 8 (toN xs))))\/(¬ V 8 (toN xs)<2 ^ (n * w)/\∃ s,y=.inr (.inr s))):=by
 have H:n * w<=4096 * 64:=Nat.mul_le_mul hn hw;have hL:=aZx hB;have m:V 8 (toN xs)<2 ^ (8 * xs.length):=by have:=aU9 hL;rw [show (toN xs).length=xs.length by simp [toN],Nat.mul_comm] at this;exact this
 obtain⟨v,e⟩:∃ v,v=V 8 (toN xs):=⟨_,rfl⟩;have x:∀ j t b,(toN xs)[j]?=some b->t<8->bt v (j * 8+t)=bt b t:=λj t b hb ht=>by rw [e];exact bAj hL hb ht
 rw [← e] at m ⊢;clear e hL;refine aC6 (b:=λs:List Int×List Int×Int=>hT (n:Int) (w:Int) ((8 * xs.length:Nat):Int) s.1 s.2.1 s.2.2) (s:=(xs,List.replicate n 0,0))
  (λs=>∃ i:Nat,s=(xs,part n w (v % 2 ^ i),(i:Int))/\i<=8 * xs.length/\(n * w<=i->v % 2 ^ i<2 ^ (n * w))) (λs=>(((8 * xs.length:Nat):Int) - s.2.2).toNat)
  (λy=>(v<2 ^ (n * w)/\y=.inl (xs,part n w v))\/(¬ v<2 ^ (n * w)/\∃ s,y=.inr (.inr s))) ⟨0,?_,by omega,λ_=>by rw [Nat.pow_zero,Nat.mod_one];exact Nat.two_pow_pos _⟩ ?_
 ·rw [Nat.pow_zero,Nat.mod_one,show part n w 0=List.replicate n 0 by
   unfold part;rw [List.eq_replicate_iff];refine⟨by simp,λb hb=>?_⟩;obtain⟨q,_,rfl⟩:=List.mem_map.1 hb;simp;rfl]
  rfl
 ·rintro s ⟨i,rfl,I,hz⟩;show (∃ s',hT (n:Int) (w:Int) ((8 * xs.length:Nat):Int) xs (part n w (v % 2 ^ i)) (i:Int)=some (.inl s')/\_)\/∃ t,hT (n:Int) (w:Int) ((8 * xs.length:Nat):Int) xs (part n w (v % 2 ^ i)) (i:Int)=some (.inr t)/\_;unfold hT;by_cases J:i<8 * xs.length
  ·obtain⟨b,z,A,K⟩:=aWp hB (j:=i / 8) (by omega);have o:=x (i / 8) (i % 8) b A (by omega);rw [show i / 8 * 8+i % 8=i by omega] at o;have hb:=aPq v i;have B:nX .u8 (b:Int) ((i % 8:Nat):Int)=((b / 2 ^ (i % 8):Nat):Int):=kZ (k:=.u8) b (i % 8) (by show _<=8;omega);have e0:b / 2 ^ (i % 8)<=b:=Nat.div_le_self _ _;have C:aA3 .u64 ((b / 2 ^ (i % 8):Nat):Int) 1=((bt v i:Nat):Int):=by have:=aH6 (a:=b / 2 ^ (i % 8)) (b:=1) (by omega) (by omega);rw [show ((1:Nat):Int)=1 from rfl] at this;rw [this,aSf,o];rfl
   rw [if_pos (by simp only [decide_eq_true_eq];omega),lt_,show (i:Int).tdiv 8=((i / 8:Nat):Int) from rfl,w64 (by omega) (by omega),bG rfl z];simp only [Option.bind_some,lt_];rw [show (i:Int).tmod 8=((i % 8:Nat):Int) from rfl,bN (by omega),B,nN (Int.natCast_nonneg _) (by omega),C, ← Int.natCast_mul,w64 (n:=((n * w:Nat):Int)) (by omega) (by omega)];by_cases f:i<n * w
   ·
    have c:0<w:=by rcases Nat.eq_zero_or_pos w with h | h;rw [h] at f;simp at f;exact h
    have p:i / w<n:=(Nat.div_lt_iff_lt_mul c).2 f;have hk:i % w<w:=Nat.mod_lt _ c;rw [if_neg (by simp only [decide_eq_true_eq];omega),bN (by omega),show (i:Int).tdiv (w:Int)=((i / w:Nat):Int) from rfl,w64 (n:=((i / w:Nat):Int)) (Int.le_trans (by decide) (Int.natCast_nonneg _)) (by omega),bG rfl (aEy p)];simp only [Option.bind_some];obtain⟨L,D⟩:=aEz v i w c;have E:=aRn (v:=v) c p;have hp:2 ^ (i % w)<=2 ^ 63:=Nat.pow_le_pow_right (by decide) (by omega);have M:bt v i * 2 ^ (i % w)<=1 * 2 ^ (i % w):=Nat.mul_le_mul_right _ (by omega);have hm:bt v i * 2 ^ (i % w) % 18446744073709551616=bt v i * 2 ^ (i % w):=Nat.mod_eq_of_lt (by omega);rw [bN (by omega),show (i:Int).tmod (w:Int)=((i % w:Nat):Int) from rfl,bN (by omega),aNe _ _ (by omega),hm,aTg _ _ (by omega) (by omega),aA7 D,Int.toNat_natCast,E];unfold lL;rw [lt_,w64 (n:=(i:Int)+1) (by omega) (by omega)];exact .inl ⟨_,rfl,⟨i+1,rfl,by omega,λh=>by
     have g:v % 2 ^ (i+1)<2 ^ (i+1):=Nat.mod_lt _ (Nat.two_pow_pos _);have F:i+1=n * w:=by omega
     rw [F] at g ⊢;exact g⟩,by simp only;omega⟩
   ·rw [if_pos (by simp only [decide_eq_true_eq];omega)];have l:=aIg v i;by_cases r:bt v i=0
    ·rw [r,show (((0:Nat):Int)==0)=true from rfl,lY];simp only [Option.bind_some,hF];unfold lL;rw [lt_,w64 (n:=(i:Int)+1) (by omega) (by omega)];rw [r,Nat.zero_mul,Nat.add_zero] at l;exact .inl ⟨_,rfl,⟨i+1,by rw [l];rfl,by omega,λ_=>by rw [l];exact hz (by omega)⟩,by simp only;omega⟩
    ·have d:bt v i=1:=by omega
     rw [d,show (((1:Nat):Int)==0)=false from rfl,rK];refine .inr ⟨_,rfl,.inr ⟨λN=>?_,_,rfl⟩⟩;have g:2 ^ (n * w)<=2 ^ i:=Nat.pow_le_pow_right (by decide) (by omega);unfold bt at d;rw [Nat.div_eq_of_lt (by omega)] at d;cases d
  ·have G:i=8 * xs.length:=by omega
   rw [if_neg (by simp only [decide_eq_true_eq];omega)];have u:v % 2 ^ i=v:=Nat.mod_eq_of_lt (by rw [G];exact m);rw [u];refine .inr ⟨_,rfl,.inl ⟨?_,rfl⟩⟩;have:=hz (by omega)
   rwa [u] at this
theorem aPe (lo:Int) (y:Int×S140) (a:y.1=lo) (L:List Int) (h:L.length<=4096):loop (λs:List Int×Int=>gH y L s.1 s.2) (L,0)=some (L.map λx=>IntKind.i64.wrap (x+lo)):=by
 have:=iC (b:=λs:List Int×Int=>gH y L s.1 s.2) (λk=>((L.take k).map (λx=>IntKind.i64.wrap (x+lo))++L.drop k,(k:Int))) (t:=L.map λx=>IntKind.i64.wrap (x+lo)) L.length (λk hk=>by
  have hx:=List.getElem?_eq_getElem hk;have hd:L.drop k=L[k]::L.drop (k+1):=List.drop_eq_getElem_cons hk;have hlen:((L.take k).map (λx=>IntKind.i64.wrap (x+lo))).length=k:=by simp;omega
  show gH y L ((L.take k).map (λx=>IntKind.i64.wrap (x+lo))++L.drop k) (k:Int)=_;unfold gH;rw [if_pos (by simp only [decide_eq_true_eq];omega),bG (n:=k) (x:=L[k]) rfl (by rw [List.getElem?_append_right (by omega),hlen,Nat.sub_self,hd];rfl)];simp only [Option.bind_some,lt_];rw [a,w64 (n:=(k:Int)+1) (by omega) (by omega),Int.toNat_natCast,uD hx,List.map_append,List.append_assoc,List.set_append_right _ _ (by omega),hlen,Nat.sub_self,hd];rfl) (by
  show gH y L _ (L.length:Int)=_;unfold gH;rw [if_neg (by simp),List.take_length,List.drop_length,List.append_nil])
 simpa using this
theorem aR0 {n:Nat} (hn:n<=4096) {xs:List Int} (hB:Bs xs) (hl:xs.length<1099511627776):IsR (sW ⟨xs⟩ (n:Int)) (pP n xs):=by
 unfold sW pP;rcases (aHh hB).cases with ⟨lo,r,a,c⟩ | ⟨a,s,c⟩
 ·rw [a,c];obtain⟨f,hlo,p,hp,_⟩:=aQd hB a;have k:r.length<=xs.length:=by rw [hp];simp
  simp only [Option.bind_some,hF];rcases (IsR.cases (aKq r)) with ⟨wb,r',b,d⟩ | ⟨b,s,d⟩
  ·rw [b,d];obtain⟨l,g,h⟩:=aX3 f b;have m:r'.length<=r.length:=by rw [h];simp
   obtain⟨w,rfl⟩:∃ w:Nat,wb=(w:Int):=⟨wb.toNat,by omega⟩;simp only [Option.bind_some,hF,lt_,Int.toNat_natCast];rw [w64 (n:=(w:Int)) (by omega) (by omega)];by_cases hw:w<=64
   ·have o:n * w<=4096 * 64:=Nat.mul_le_mul hn hw;rw [if_pos (by simp only [decide_eq_true_eq];omega), ← Int.natCast_mul,w64 (n:=((n * w:Nat):Int)) (by omega) (by omega),w64 (n:=((n * w:Nat):Int)+7) (by omega) (by omega),
     show (((n * w:Nat):Int)+7).tdiv 8=(((n * w+7) / 8:Nat):Int) from rfl,w64 (by omega) (by omega)]
    by_cases hlen:r'.length=(n * w+7) / 8
    ·rw [show ((r'.length:Int)==(((n * w+7) / 8:Nat):Int))=true by rw [hlen];simp,lY];simp only [Option.bind_some,hF];unfold oJ;rw [bN (by omega),lt_,w64 (by omega) (by omega),Int.toNat_natCast];obtain⟨y,i,j⟩:=aN0 hn hw g hlen;rw [show (8:Int) * (r'.length:Int)=((8 * r'.length:Nat):Int) by omega,i];simp only [Option.bind_some];rcases j with ⟨e,rfl⟩ | ⟨e,s,rfl⟩
     ·rw [if_pos ⟨by omega,hlen,e⟩];simp only;unfold pG rT;rw [aPe lo _ rfl _ (by rw [rG];exact hn)];rfl
     ·rw [if_neg (λq=>e q.2.2)];exact⟨s,rfl⟩
    ·rw [show ((r'.length:Int)==(((n * w+7) / 8:Nat):Int))=false by simp;omega,rK,if_neg (λq=>hlen q.2.1)];exact⟨_,rfl⟩
   ·rw [if_neg (by simp only [decide_eq_true_eq];omega),rK,if_neg (λq=>hw (by omega))];exact⟨_,rfl⟩
  ·rw [b,d];exact⟨s,rfl⟩
 ·rw [a,c];exact⟨s,rfl⟩
theorem aP8 {xs:List Int} (hB:Bs xs) (hl:xs.length<1099511627776):IsR (tV ⟨xs⟩) (aGh xs):=by
 unfold tV aGh;rcases (IsR.cases (aKq xs)) with ⟨w,r,d,k⟩ | ⟨d,s,k⟩
 ·rw [d,k];obtain⟨hw,t,hr⟩:=aX3 hB d;have x:r.length<=xs.length:=by rw [hr];simp
  simp only [Option.bind_some,hF];by_cases e:w<=3
  ·rw [show decide (w<=3)=true by simpa using e,lY,if_pos e];simp only [Option.bind_some,hF];rcases (aCu 4096 t).cases with ⟨n,r',c,o⟩ | ⟨c,s,o⟩
   ·rw [c,o];obtain⟨⟨z,A,B⟩,p,hp,_⟩:=tG c;have f:=aNl t c;have C:r'.length<=r.length:=by rw [hp];simp
    obtain⟨n,rfl⟩:∃ m:Nat,n=(m:Int):=⟨n.toNat,by omega⟩;simp only [Option.bind_some,hF,lt_,Int.toNat_natCast];rw [w64 (by omega) (by omega)];unfold aJ0;by_cases g:w=0
    ·rw [if_pos (by simpa using g),if_pos g];rcases (aV5 (n:=n) (by omega) f).cases with ⟨l,v,a,b⟩ | ⟨a,s,b⟩
     ·rw [a,b];rfl
     ·rw [a,b];exact⟨s,rfl⟩
    rw [if_neg (by simpa using g),if_neg g];by_cases h:w=1
    ·rw [if_pos (by simpa using h),if_pos h];obtain⟨y,i,hm⟩:=aPv n (by omega) n 0 0 [] r' f (by omega) rfl;rw [show ((0:Nat):Int)=0 from rfl] at i;rw [i];revert hm;cases pD 0 n r' with
     | none=>rintro⟨s,rfl⟩;exact⟨s,rfl⟩
     | some q=>intro hm;subst hm;rfl
    rw [if_neg (by simpa using h),if_neg h];by_cases j:w=2
    ·rw [if_pos (by simpa using j),if_pos j];obtain⟨y,i,hm⟩:=aQk n (by omega) n n [] r' f (by simp) (Nat.le_refl _);rw [i];revert hm;cases pR n n r' with
     | none=>rintro⟨s,rfl⟩;exact⟨s,rfl⟩
     | some q=>intro hm;subst hm;rfl
    rw [if_neg (by simpa using j),if_neg j,if_pos (by simp;omega)];by_cases u:0<n
    ·rw [if_pos (by simp only [decide_eq_true_eq];omega),if_pos u];rcases (aR0 (n:=n) (by omega) f (by omega)).cases with ⟨l,v,a,b⟩ | ⟨a,s,b⟩
     ·rw [a,b];rfl
     ·rw [a,b];exact⟨s,rfl⟩
    ·rw [if_neg (by simp only [decide_eq_true_eq];omega),if_neg u];rfl
   ·rw [c,o];exact⟨s,rfl⟩
  ·rw [show decide (w<=3)=false by simpa using e,rK,if_neg e];exact⟨_,rfl⟩
 ·rw [d,k];exact⟨s,rfl⟩
def vI (xs:List Int):Option (List Int):=match aGh xs with
 | some (l,[])=>some l
 | _=>none
theorem xG {xs:List Int} (hB:Bs xs) (hl:xs.length<1099511627776):iV xs=some (match vI xs with | some l=>(l,0) | none=>([],3)):=by
 unfold iV qK qR vI;rcases (aP8 hB hl).cases with ⟨l,r,a,c⟩ | ⟨a,s,c⟩
 ·rw [a,c];simp only [Option.bind_some,hF];cases r with
  | nil=>rfl
  | cons b r=>rfl
 ·rw [a,c];rfl
theorem aNk:∀ (l r:List Int),I64 l->aBk l.length (b0 l++r)=some (l,r)
 | [],r,_=>rfl
 | x::l,r,h=>by
  have e:b0 (x::l)++r=uv (zz x)++(b0 l++r):=by simp [b0]
  rw [e,List.length_cons,aBk,aNj (h x List.mem_cons_self)];simp only;rw [aNk l r λy a=>h y (List.mem_cons_of_mem _ a)]
theorem aR3 (a x:Int) (h:i64 x):IntKind.i64.wrap (a+IntKind.i64.wrap (x - a))=x:=by unfold i64 at h;rw [IntWalk.i64_left,IntWalk.i64_left];unfold wrap64;omega
theorem aX4:∀ (l r:List Int) (a:Int),I64 l->pD a l.length (bD a l++r)=some (l,r)
 | [],r,a,_=>rfl
 | x::l,r,a,h=>by rw [bD,List.length_cons,pD,List.append_assoc,aNj (aB5 _)];simp only;rw [aR3 a x (h x List.mem_cons_self),aX4 l r x λy b=>h y (List.mem_cons_of_mem _ b)]
theorem aX5:∀ (f:Nat) (l r:List Int),I64 l->l.length<=f->l.length<=4096->pR f l.length (bR 0 l++r)=some (l,r)
 | 0,l,r,_,hf,_=>by have:l=[]:=List.eq_nil_of_length_eq_zero (by omega);subst this;rfl
 | f+1,[],r,_,_,_=>rfl
 | f+1,x::l,r,h,hf,hl=>by
  obtain⟨m,tl,hm,a⟩:=aFy x l;subst hm;have hlen:(x::(List.replicate m x++tl)).length=m+1+tl.length:=by simp;omega
  rw [hlen] at hf hl ⊢;rw [pR,if_neg (by omega),aOd x tl a m 0,Nat.zero_add,List.append_assoc,List.append_assoc,aNj (h x List.mem_cons_self)];simp only;rw [aIo (by omega) _ (by omega)];simp only [Int.toNat_natCast];rw [show m+1+tl.length - (m+1)=tl.length by omega,aX5 f tl r (λy b=>h y (List.mem_cons_of_mem _ (List.mem_append.2 (.inr b)))) (by omega) (by omega)];simp only [List.replicate_succ,List.cons_append]
theorem aWq (D:List Nat):toN (ofN D)=D:=by
 unfold toN ofN;rw [List.map_map];have:(Int.toNat ∘ λ(n:Nat)=>(n:Int))=id:=by funext n;simp
 rw [this,List.map_id]
theorem aWc {x lo:Int} (hm:i64 x) (hlo:i64 lo) (h:lo<=x):IntKind.i64.wrap (IntKind.i64.wrap (((x - lo).toNat:Nat):Int)+lo)=x:=by unfold i64 at hm hlo;rw [IntWalk.i64_left,IntWalk.i64_left];unfold wrap64;omega
theorem aYv {n w:Nat} {D:List Nat} (b:V w D<2 ^ (n * w)):V 8 (by_ ((n * w+7) / 8) (V w D))=V w D:=by refine bAf _ _ (Nat.lt_of_lt_of_le b (Nat.pow_le_pow_right (by decide) ?_));generalize n * w=a;omega
theorem bCd {x:Int} {l:List Int} (hl:(x::l).length<=4096) (hi:I64 (x::l)):pP (x::l).length (pk (x::l))=some (x::l,[]):=by
 have hlo:=aLn hi;have hle:=aLm (x:=x) (l:=l);have hw:wdt (ds (mn x l) (x::l))<=64:=by
  have:=aL6 hi hlo hle (x::l).length
  rwa [List.take_of_length_le (by rw [vR];exact Nat.le_refl _)] at this
 have hL:=aR8 (ds (mn x l) (x::l));have a:=aU9 hL;rw [vR] at a;unfold pP;simp only [pk];generalize wdt (ds (mn x l) (x::l))=w at hw hL a ⊢;rw [List.append_assoc,aNj hlo];simp only [List.singleton_append,pB,Int.toNat_natCast];have c:=aYv a;rw [aWq,c,if_pos ⟨by omega,by rw [aD6,tU],a⟩];congr 2;refine aP2 (by simp [rG]) λj b=>?_;rw [List.length_map,rG] at b;have hx:=List.getElem?_eq_getElem b;have hm:=hi.get hx;have d:=hle _ (List.mem_of_getElem? hx);rw [List.getElem?_map,aEy b,aXi hL (aOl hx),hx];simp only [Option.map_some,Option.some.injEq];exact aWc hm hlo d
theorem aWf {w:Nat} {l:List Int} (hw:w<4) (hl:l.length<=4096) (hi:I64 l):vI (asL w l)=some l:=by
 unfold vI aGh asL;simp only [pB];rw [if_pos (by omega),aIo (by omega) _ (by omega)];simp only [Int.toNat_natCast];have key:aJ0 (w:Int) l.length (body w l)=some (l,[]):=by
  unfold aJ0
  match w,hw with
  | 0,_ =>
   rw [if_pos (by rfl)];have:=aNk l [] hi
   rwa [List.append_nil] at this
  | 1,_ =>
   rw [if_neg (by decide),if_pos (by rfl)];have:=aX4 l [] 0 hi
   rwa [List.append_nil] at this
  | 2,_ =>
   rw [if_neg (by decide),if_neg (by decide),if_pos (by rfl)];have:=aX5 l.length l [] hi (Nat.le_refl _) hl
   rwa [List.append_nil] at this
  | 3,_ =>
   rw [if_neg (by decide),if_neg (by decide),if_neg (by decide)];cases l with
   | nil=>rfl
   | cons x l=>rw [if_pos (by simp)];exact bCd hl hi
 rw [key]
theorem aEb (a b:List Int):iR a b=a\/iR a b=b:=by
 unfold iR;split
 ·exact .inr rfl
 ·exact .inl rfl
theorem aEa (a b:List Int):(iR a b).length<=a.length/\(iR a b).length<=b.length:=by unfold iR;split <;> omega
theorem aIa (l:List Int):∃ w<4,fY l=asL w l:=by
 unfold fY;rcases aEb (iR (iR (asL 0 l) (asL 1 l)) (asL 2 l)) (asL 3 l) with h | h
 ·rw [h];rcases aEb (iR (asL 0 l) (asL 1 l)) (asL 2 l) with h | h
  ·rw [h];rcases aEb (asL 0 l) (asL 1 l) with h | h
   ·exact⟨0,by decide,h⟩
   ·exact⟨1,by decide,h⟩
  ·exact⟨2,by decide,h⟩
 ·exact⟨3,by decide,h⟩
theorem aTe (l:List Int) {w:Nat} (hw:w<4):(fY l).length<=(asL w l).length:=by
 have a:=aEa (iR (iR (asL 0 l) (asL 1 l)) (asL 2 l)) (asL 3 l);have b:=aEa (iR (asL 0 l) (asL 1 l)) (asL 2 l);have c:=aEa (asL 0 l) (asL 1 l);unfold fY
 match w,hw with
 | 0,_=>omega
 | 1,_=>omega
 | 2,_=>omega
 | 3,_=>omega
theorem aAq {l:List Int} (hl:l.length<=4096) (hi:I64 l):vI (fY l)=some l:=by obtain⟨w,hw,e⟩:=aIa l;rw [e,aWf hw hl hi]
theorem Bs.ofN {D:List Nat} (h:Lt 8 D):Bs (ofN D):=by intro b hb;obtain⟨d,hd,rfl⟩:=List.mem_map.1 hb;have:=h d hd;omega
theorem aXa:∀ (l:List Int),Bs (b0 l)
 | []=>Bs.nil
 | x::l=>by
  have e:b0 (x::l)=uv (zz x)++b0 l:=by simp [b0]
  rw [e];exact (Bs.uv _).app (aXa l)
theorem aXb:∀ (l:List Int) (a:Int),Bs (bD a l)
 | [],_=>Bs.nil
 | x::l,a=>(Bs.uv _).app (aXb l x)
theorem aR4:∀ (l:List Int) (k:Nat),Bs (bR k l)
 | [],_=>Bs.nil
 | [x],k=>(Bs.uv _).app (Bs.uv _)
 | x::y::l,k=>by
  unfold bR;split
  ·exact aR4 (y::l) _
  ·exact ((Bs.uv _).app (Bs.uv _)).app (aR4 (y::l) _)
theorem bAd {l:List Int} (hi:I64 l):Bs (pk l):=by
 cases l with
 | nil=>exact Bs.nil
 | cons x l =>
  have hlo:=aLn hi;have hle:=aLm (x:=x) (l:=l);have hw:wdt (ds (mn x l) (x::l))<=64:=by
   have:=aL6 hi hlo hle (x::l).length
   rwa [List.take_of_length_le (by rw [vR];exact Nat.le_refl _)] at this
  exact ((Bs.uv _).app (Bs.mk (by omega) Bs.nil)).app (Bs.ofN (bAk _ _))
theorem bAc {w:Nat} {l:List Int} (hw:w<4) (hi:I64 l):Bs (asL w l):=by
 refine Bs.mk (by omega) ((Bs.uv _).app ?_)
 match w,hw with
 | 0,_=>exact aXa l
 | 1,_=>exact aXb l 0
 | 2,_=>exact aR4 l 0
 | 3,_=>exact bAd hi
theorem aZi {l:List Int} (hl:l.length<=4096) (hi:I64 l):(pk l).length<=11+(l.length * 64+7) / 8:=by
 cases l with
 | nil=>simp [pk]
 | cons x l =>
  have hlo:=aLn hi;have hle:=aLm (x:=x) (l:=l);have hw:wdt (ds (mn x l) (x::l))<=64:=by
   have:=aL6 hi hlo hle (x::l).length
   rwa [List.take_of_length_le (by rw [vR];exact Nat.le_refl _)] at this
  have hz:=aO (wU hlo);have:=Nat.mul_le_mul_left (x::l).length hw;simp only [pk,List.length_append,List.length_singleton,aD6,tU];generalize (x::l).length=n at *;omega
theorem aZh {w:Nat} {l:List Int} (hw:w<4) (hl:l.length<=4096) (hi:I64 l):(asL w l).length<=1048576:=by
 have hu:=aO (n:=l.length) (by omega);unfold asL;simp only [List.length_cons,List.length_append]
 match w,hw with
 | 0,_=>have:=aLj hi;simp only [body];omega
 | 1,_=>have:=aOy l 0;simp only [body];omega
 | 2,_=>have:=aOz l 0 hi (by omega);simp only [body];omega
 | 3,_=>have:=aZi hl hi;simp only [body];omega
def aRk (a:Nat):Bool:=a / 4503599627370496 % 2048==2047&&a % 4503599627370496 != 0
theorem aO1 (d:Ieee.Datum):(d.order d==some .eq) = !d.isNaN:=by
 cases d with
 | number s m p=>simp [Ieee.Datum.order,Ieee.Datum.isNaN]
 | infinity s=>simp [Ieee.Datum.order,Ieee.Datum.isNaN]
 | nan s f=>simp [Ieee.Datum.order,Ieee.Datum.isNaN]
theorem aS9 (a:Nat):feq a a = !aRk a:=by
 unfold feq Ieee.Format.order;rw [aO1];congr 1;unfold Ieee.Format.read aRk;have b:FloatKind.f64.format.signWeight=9223372036854775808:=by decide
 have c:FloatKind.f64.format.binade=4503599627370496:=by decide
 have d:FloatKind.f64.format.infRung=9218868437227405312:=by decide
 simp only [b,c,d];rw [Bool.eq_iff_iff];simp only [Bool.and_eq_true,beq_iff_eq,bne_iff_ne,ne_eq];split
 ·simp [Ieee.Datum.isNaN];omega
 ·split
  ·simp [Ieee.Datum.isNaN];omega
  ·split
   ·simp [Ieee.Datum.isNaN];omega
   ·simp [Ieee.Datum.isNaN];omega
def jU (a:Nat):Nat:=if aRk a then 9221120237041090560 else a
theorem wJ (a:Nat):jU (jU a)=jU a:=by
 unfold jU;cases h:aRk a with
 | true=>rw [if_pos rfl,if_pos (by decide)]
 | false=>simp [h]
theorem aMn {a:Nat} (h:a<18446744073709551616):jU a<18446744073709551616:=by unfold jU;split <;> omega
theorem aNo (a:Nat):aAm a=some (jU a:Int):=by
 unfold aAm wP jU aRk;have d:nX .u64 (a:Int) 52=((a / 4503599627370496:Nat):Int):=kZ (k:=.u64) a 52 (by decide);have e:(((a / 4503599627370496:Nat):Int)).tmod 2048=((a / 4503599627370496 % 2048:Nat):Int):=rfl;have f:((a:Int)).tmod 4503599627370496=((a % 4503599627370496:Nat):Int):=rfl;simp only [lt_];rw [d,e,f];by_cases b:a / 4503599627370496 % 2048=2047
 ·by_cases c:a % 4503599627370496=0
  ·simp [b,c]
  ·simp [b,c];omega
 ·have:((a / 4503599627370496 % 2048:Nat):Int)≠2047:=by omega
  simp only [beq_iff_eq,this,if_false];simp [b]
theorem aJi (a:Nat):vX a=some (jU a):=by unfold vX aA6 jU;simp only [Option.bind_some,aS9];cases aRk a <;> rfl
theorem aHk (a:Nat):yC a=some (jU a:Int):=by unfold yC;rw [aJi];rfl
theorem aSo (a:Int):aE4 a=some (jU a.toNat):=by unfold aE4;rw [aJi];rfl
theorem aT6 (a b:Nat):aCf a b=some ((jU a:Int)==(jU b:Int)):=by unfold aCf;rw [aNo,aNo];rfl
def rl (l:List Nat):List Int:=l.map λx=>IntKind.i64.wrap (jU x:Int)
theorem aLx (l:List Nat):I64 (rl l):=λx hx=>by obtain⟨y,_,rfl⟩:=List.mem_map.1 hx;exact aB5 _
theorem aDf (l:List Nat):(rl l).length=l.length:=by simp [rl]
theorem aWg {l:List Nat} {k x:Nat} (h:l[k]?=some x):rl (l.take (k+1))=rl (l.take k)++[IntKind.i64.wrap (jU x:Int)]:=by unfold rl;rw [List.take_add_one,h,List.map_append];rfl
theorem aQ0 {l:List Nat} (h:l.length<=4096):uN l=some (fY (rl l)):=by
 unfold uN;have:=iC (b:=λs:List Int×Int=>iW l s.1 s.2) (λk=>(rl (l.take k),(k:Int))) (t:=rl l) l.length (λk hk=>by
  have hx:=List.getElem?_eq_getElem hk;have hlen:(rl (l.take k)).length=k:=by rw [aDf,List.length_take];omega
  show iW l (rl (l.take k)) (k:Int)=_;unfold iW;rw [if_pos (by simp only [decide_eq_true_eq];omega),bG rfl hx];simp only [Option.bind_some];rw [aHk];simp only [Option.bind_some,lt_];rw [bN (by rw [hlen];simp only [List.length_singleton];omega),w64 (n:=(k:Int)+1) (by omega) (by omega), ← aWg hx];rfl) (by
  show iW l (rl (l.take l.length)) (l.length:Int)=_;unfold iW;rw [if_neg (by simp),List.take_length])
 rw [show (([],0):List Int×Int)=(λk=>(rl (l.take k),(k:Int))) 0 by simp [rl],this];simp only [Option.bind_some];unfold qS tD;rw [aB1 (by rw [aDf];exact h) (aLx l)];rfl
def ub (b:Int):Nat:=(IntKind.u64.wrap b).toNat
theorem aYe (b:Int):IntKind.u64.wrap b=(ub b:Int):=by unfold ub;rw [IntKind.wrap_u64];omega
def aFx (l:List Int):Option (List Nat):=if l.all (λb=>jU (ub b)==ub b)=true then some (l.map ub) else none
theorem aIu (l:List Int) (f:Int) (h:l.length<=4096):∀ (m k:Nat),k+m=l.length->(∀ b∈l.take k,jU (ub b)=ub b) ->
  loop (λs:List Nat×Int=>dN (l,f) s.1 s.2) ((l.take k).map ub,(k:Int))=some (if (l.drop k).all (λb=>jU (ub b)==ub b)=true then .inl (l.map ub) else .inr ([],3))
 | 0,k,hk,ha=>by
  rw [bC (t:=Sum.inl (l.map ub)) (by
   show dN (l,f) ((l.take k).map ub) (k:Int)=_;unfold dN;rw [if_neg (by simp only [decide_eq_true_eq];omega),show k=l.length by omega,List.take_length]),show k=l.length by omega,List.drop_length]
  rfl
 | m+1,k,hk,ha=>by
  have a:k<l.length:=by omega
  have hx:=List.getElem?_eq_getElem a;have hd:l.drop k=l[k]::l.drop (k+1):=List.drop_eq_getElem_cons a;rw [hd,List.all_cons];have hlen:((l.take k).map ub).length=k:=by simp;omega
  by_cases hc:jU (ub l[k])=ub l[k]
  ·rw [show (jU (ub l[k])==ub l[k])=true by simpa using hc,Bool.true_and,cH (s':=((l.take (k+1)).map ub,((k+1:Nat):Int))) (by
    show dN (l,f) ((l.take k).map ub) (k:Int)=_;unfold dN;rw [if_pos (by simp only [decide_eq_true_eq];omega),bG rfl hx];simp only [Option.bind_some,lt_];rw [aYe,aSo];simp only [Option.bind_some];rw [aHk];simp only [Option.bind_some,Int.toNat_natCast];rw [wJ,hc,if_neg (by simp),bN (by rw [hlen];simp only [List.length_singleton];omega),w64 (by omega) (by omega),uD hx,List.map_append];rfl)]
   exact aIu l f h m (k+1) (by omega) (λb hb=>by
    rw [uD hx] at hb;rcases List.mem_append.1 hb with q | q
    ·exact ha b q
    ·rw [List.mem_singleton.1 q];exact hc)
  ·rw [show (jU (ub l[k])==ub l[k])=false by simpa using hc,Bool.false_and,if_neg (by simp)];refine bC ?_;show dN (l,f) ((l.take k).map ub) (k:Int)=_;unfold dN;rw [if_pos (by simp only [decide_eq_true_eq];omega),bG rfl hx];simp only [Option.bind_some,lt_];rw [aYe,aSo];simp only [Option.bind_some];rw [aHk];simp only [Option.bind_some,Int.toNat_natCast];rw [wJ,if_pos (by simp only [bne_iff_ne,ne_eq,Int.natCast_inj];exact hc)]
theorem aJ2:∀ (n:Nat) (xs:List Int) {l r:List Int},aBk n xs=some (l,r)->l.length=n
 | 0,xs,l,r,h=>by cases h;rfl
 | n+1,xs,l,r,h=>by
  unfold aBk at h;split at h
  ·split at h
   ·rename_i he;cases h;simp [aJ2 n _ he]
   ·cases h
  ·cases h
theorem aTw:∀ (n:Nat) (a:Int) (xs:List Int) {l r:List Int},pD a n xs=some (l,r)->l.length=n
 | 0,a,xs,l,r,h=>by cases h;rfl
 | n+1,a,xs,l,r,h=>by
  unfold pD at h;split at h
  ·split at h
   ·rename_i he;cases h;simp [aTw n _ _ he]
   ·cases h
  ·cases h
theorem aTx:∀ (f n:Nat) (xs:List Int) {l r:List Int},pR f n xs=some (l,r)->l.length<=n
 | 0,n,xs,l,r,h=>by cases h;simp
 | f+1,n,xs,l,r,h=>by
  unfold pR at h;split at h
  ·cases h;simp
  ·split at h
   ·split at h
    ·rename_i hk;split at h
     ·rename_i he;cases h;have:=aTx f _ _ he;have:=(tG hk).1;simp only [List.length_append,List.length_replicate];omega
     ·cases h
    ·cases h
   ·cases h
theorem aZn (n:Nat) (xs:List Int) {l r:List Int} (h:pP n xs=some (l,r)):l.length=n:=by
 unfold pP at h;split at h
 ·split at h
  ·split at h
   ·cases h;rw [List.length_map,rG]
   ·cases h
  ·cases h
 ·cases h
theorem aRl (w:Int) (n:Nat) (xs:List Int) {l r:List Int} (h:aJ0 w n xs=some (l,r)):l.length<=n:=by
 unfold aJ0 at h;split at h
 ·exact Nat.le_of_eq (aJ2 _ _ h)
 ·split at h
  ·exact Nat.le_of_eq (aTw _ _ _ h)
  ·split at h
   ·exact aTx _ _ _ h
   ·split at h
    ·exact Nat.le_of_eq (aZn _ _ h)
    ·cases h;simp
theorem aJ1 {xs l r:List Int} (h:aGh xs=some (l,r)):l.length<=4096:=by
 unfold aGh at h;split at h
 ·split at h
  ·split at h
   ·rename_i hu;have:=aRl _ _ _ h;have:=(tG hu).1;omega
   ·cases h
  ·cases h
 ·cases h
theorem aKb {xs l:List Int} (h:vI xs=some l):l.length<=4096:=by
 unfold vI at h;split at h
 ·cases h;exact aJ1 (by assumption)
 ·cases h
theorem aI9 {xs:List Int} (hB:Bs xs) (hl:xs.length<1099511627776):oH xs=some (match (vI xs).bind aFx with | some l=>(l,0) | none=>([],3)):=by
 unfold oH;rw [xG hB hl];simp only [Option.bind_some];cases h:vI xs with
 | none=>rfl
 | some l =>
  simp only [Option.bind_some];rw [if_neg (by simp)];have:=aIu l 0 (aKb h) l.length 0 (by omega) (λb hb=>by simp at hb);simp only [List.take_zero,List.map_nil,List.drop_zero] at this;rw [show ((0:Nat):Int)=0 from rfl] at this;rw [this];unfold aFx;simp only [Option.bind_some];cases (l.all λb=>jU (ub b)==ub b)
  ·rfl
  ·rfl
theorem aO9 {l:List Nat} (h:∀ x∈l,x<18446744073709551616):aFx (rl l)=some (l.map jU):=by
 have hu:∀ x∈l,ub (IntKind.i64.wrap (jU x:Int))=jU x:=by intro x hx;have:=aMn (h x hx);unfold ub;rw [IntKind.wrap_u64,IntWalk.i64_left];unfold wrap64;omega
 unfold aFx rl;rw [if_pos]
 ·rw [List.map_map];congr 1;exact List.map_congr_left λx hx=>hu x hx
 ·rw [List.all_eq_true];intro b hb;obtain⟨x,hx,rfl⟩:=List.mem_map.1 hb;rw [hu x hx,wJ];simp
def IsT (B acc:List Int) (t:List Int×Int×List Int) (p:Option (List Int×List Int)):Prop :=
 match p with
 | some (l,r)=>∃ q:Nat,t=(B,(q:Int),acc++l)/\q<=B.length/\B.drop q=r
 | none=>∃ a,t=(B,-1,a)
theorem IsT.cons {B acc:List Int} {t:List Int×Int×List Int} {p:Option (List Int×List Int)} (x:List Int) (h:IsT B (acc++x) t p) :
  IsT B acc t (match (generalizing:=false) p with | some (l,r)=>some (x++l,r) | none=>none):=by
 cases p with
 | none=>exact h
 | some y =>
  obtain⟨q,a,b,c⟩:=h;exact⟨q,by rw [a,List.append_assoc],b,c⟩
section
variable {B:List Int} (hBs:Bs B) (hB:B.length<1099511627776)
include hBs hB
end
section
variable {B:List Int} (hBs:Bs B) (hB:B.length<1099511627776)
include hBs hB
end
section
variable {B xs:List Int} {p:Nat} (hp:p<=B.length) (hx:B.drop p=xs) (hBs:Bs xs) (hB:B.length<1099511627776) (hs:xs.length<=32768)
include hp hx hBs hB hs
end
def aIv (acc:List (List UInt8)) (t:List UInt8):Bool:=match acc[acc.length - 1]? with
 | some y=>Op.bytesLess y t
 | none=>true
def aDs (acc:List (List UInt8)):Nat->List Int->Option (List (List UInt8)×List Int)
 | 0,xs=>some (acc,xs)
 | n+1,xs=>match pT 32 xs with
  | some (t,r)=>if aIv acc t=true then aDs (acc++[t]) n r else none
  | none=>none
def okI (n:Nat) (ix:List Int):Bool:=ix.all λi=>decide (0<=i/\i<(n:Int))
def usd (n:Nat) (ix:List Int):List Bool:=(List.range n).map λ(j:Nat)=>decide ((j:Int)∈ix)
def tx (ds:List (List UInt8)) (ix:List Int):List (List UInt8):=ix.map λi=>ds.getD i.toNat []
def aIn (xs:List Int):Option (List (List UInt8)×List Int):=match pU 4096 xs with
 | some (n,r)=>match aDs [] n.toNat r with
  | some (ds,r')=>match aGh r' with
   | some (ix,r'')=>if okI ds.length ix=true/\false∉usd ds.length ix then some (tx ds ix,r'') else none
   | none=>none
  | none=>none
 | none=>none
theorem aQe {most:Int} {xs r:List Int} {t:List UInt8} (hB:Bs xs) (h:pT most xs=some (t,r)):Bs r/\r.length<=xs.length:=by
 unfold pT at h;split at h
 ·rename_i n r' he;obtain⟨_,p,hp,_⟩:=tG he;have hb:=aNl hB he;split at h
  ·cases h;refine⟨hb.drop _,?_⟩;rw [hp];simp;omega
  ·cases h
 ·cases h
theorem aNi:∀ (n:Nat) (acc:List (List UInt8)) (xs:List Int) {ds:List (List UInt8)} {r:List Int},Bs xs->aDs acc n xs=some (ds,r)->Bs r/\r.length<=xs.length/\ds.length=acc.length+n
 | 0,acc,xs,ds,r,hB,h=>by cases h;exact⟨hB,Nat.le_refl _,rfl⟩
 | n+1,acc,xs,ds,r,hB,h=>by
  unfold aDs at h;split at h
  ·rename_i t r' he;obtain⟨a,d⟩:=aQe hB he;split at h
   ·obtain⟨b,e,c⟩:=aNi n _ _ a h;refine⟨b,by omega,?_⟩;rw [c,List.length_append,List.length_singleton];omega
   ·cases h
  ·cases h
theorem aMv (l:List Bool) (b:Bool) (h:l.length<1099511627776):gP l b=some (decide (b∈l)):=by
 unfold gP lG;have key:∀ (m k:Nat),k+m=l.length->∃ y,loop (λs:Int=>dS l b s) (k:Int)=some y/\if b∈l.drop k then ∃ j:Nat,y=.inr (j:Int) else y=.inl ():=by
  intro m
  induction m with
  | zero =>
   intro k hk;refine⟨.inl (),bC ?_,?_⟩
   ·unfold dS;rw [if_neg (by simp only [decide_eq_true_eq];omega)]
   ·rw [List.drop_of_length_le (by omega),if_neg (by simp)]
  | succ m ih =>
   intro k hk;have c:k<l.length:=by omega
   have hx:=List.getElem?_eq_getElem c;have hd:l.drop k=l[k]::l.drop (k+1):=List.drop_eq_getElem_cons c;rw [hd];by_cases hb:b=l[k]
   ·refine⟨.inr (k:Int),bC ?_,?_⟩
    ·unfold dS;rw [if_pos (by simp only [decide_eq_true_eq];omega),bG rfl hx];simp only [Option.bind_some];rw [if_pos (by simpa using hb)]
    ·rw [if_pos (by rw [hb];exact List.mem_cons_self)];exact⟨k,rfl⟩
   ·obtain⟨y,a,hm⟩:=ih (k+1) (by omega);refine⟨y,(cH (s':=((k+1:Nat):Int)) ?_).trans a,?_⟩
    ·unfold dS;rw [if_pos (by simp only [decide_eq_true_eq];omega),bG rfl hx];simp only [Option.bind_some];rw [if_neg (by simpa using hb),lt_,w64 (by omega) (by omega)];rfl
    ·have he:(b∈l[k]::l.drop (k+1))=(b∈l.drop (k+1)):=propext ⟨λh=>(List.mem_cons.1 h).resolve_left hb,λh=>List.mem_cons_of_mem _ h⟩;simpa only [he] using hm
 obtain⟨y,a,hm⟩:=key l.length 0 (by omega);rw [show ((0:Nat):Int)=0 from rfl] at a;rw [a,List.drop_zero] at *;by_cases hb:b∈l
 ·rw [if_pos hb] at hm;obtain⟨j,rfl⟩:=hm;simp only [Option.bind_some];rw [show decide (0<=(j:Int))=true by simp,show decide (b∈l)=true by simpa using hb]
 ·rw [if_neg hb] at hm;subst hm;rw [show decide (b∈l)=false by simpa using hb];rfl
theorem aTr (n:Nat) (ix:List Int) (k:Nat) {x:Int} (h:ix[k]?=some x):okI n (ix.take (k+1))=(okI n (ix.take k)&&decide (0<=x/\x<(n:Int))):=by unfold okI;rw [uD h,List.all_append];simp
theorem aTs {n:Nat} {ix:List Int} (h:okI n ix=true) (k:Nat):okI n (ix.take k)=true:=by unfold okI at *;rw [List.all_eq_true] at *;exact λx hx=>h x (List.mem_of_mem_take hx)
theorem aUq (n:Nat) (ix:List Int) {x:Int} (hx:0<=x/\x<(n:Int)):usd n (ix++[x])=(usd n ix).set x.toNat true:=by
 apply List.ext_getElem? λj=>?_;unfold usd;rw [List.getElem?_set];simp only [List.getElem?_map,List.length_map,List.length_range];rcases Nat.lt_or_ge j n with a | a
 ·rw [List.getElem?_range a];by_cases e:x.toNat=j
  ·rw [if_pos e,if_pos (by omega)];simp;right;omega
  ·rw [if_neg e];have:¬ (j:Int)=x:=by omega
   simp [this]
 ·rw [List.getElem?_eq_none (by simpa using a)];rw [if_neg (by omega)];rfl
theorem aWs (n:Nat):usd n []=List.replicate n false:=by unfold usd;rw [List.eq_replicate_iff];refine⟨by simp,λb hb=>?_⟩;obtain⟨q,_,rfl⟩:=List.mem_map.1 hb;simp
theorem aI2 (n:Nat) (ix:List Int):(usd n ix).length=n:=by simp [usd]
theorem aZy (n:Nat) (ix:List Int) {x:Int} (hx:0<=x/\x<(n:Int)):∃ b,at_ (usd n ix) x=some b:=by
 have:x.toNat<(usd n ix).length:=by rw [aI2];omega
 exact⟨_,bG (n:=x.toNat) (by omega) (List.getElem?_eq_getElem this)⟩
theorem bAm (ds:List (List UInt8)) {x:Int} (hx:0<=x/\x<(ds.length:Int)):at_ ds x=some (ds.getD x.toNat []):=by
 have:x.toNat<ds.length:=by omega
 refine bG (n:=x.toNat) (by omega) ?_;rw [List.getD_eq_getElem?_getD,List.getElem?_eq_getElem this];rfl
theorem aWr (ds:List (List UInt8)) (ix:List Int) (x:Int):tx ds (ix++[x])=tx ds ix++[ds.getD x.toNat []]:=by unfold tx;rw [List.map_append];rfl
theorem aRz (ds:List (List UInt8)) (ix:List Int):(tx ds ix).length=ix.length:=by simp [tx]
theorem aJj (ds:List (List UInt8)) (ix:List Int) (Y:S140) (xs:List Int) (hl:ix.length<=4096):∀ (m k:Nat),k+m=ix.length->okI ds.length (ix.take k)=true ->
  ∃ y,loop (λs:List Int×List (List UInt8)×List Bool×Int=>cA ds (ix,Y) s.1 s.2.1 s.2.2.1 s.2.2.2) (xs,tx ds (ix.take k),usd ds.length (ix.take k),(k:Int))=some y /\
   if okI ds.length ix=true then y=.inl (xs,tx ds ix,usd ds.length ix) else ∃ s,y=.inr (.inr s)
 | 0,k,hk,ha=>by
  have g:k=ix.length:=by omega
  subst g;rw [List.take_length] at ha ⊢;refine⟨.inl (xs,tx ds ix,usd ds.length ix),bC ?_,by rw [if_pos ha]⟩;show cA ds (ix,Y) xs (tx ds ix) (usd ds.length ix) (ix.length:Int)=_;unfold cA;rw [if_neg (by simp)]
 | m+1,k,hk,ha=>by
  have i:k<ix.length:=by omega
  have hx:=List.getElem?_eq_getElem i;have d:=aTr ds.length ix k hx;have e:∀ s,cA ds (ix,Y) xs (tx ds (ix.take k)) (usd ds.length (ix.take k)) (k:Int)=some (.inr (.inr (.inr s)))->¬ (0<=ix[k]/\ix[k]<(ds.length:Int)) ->
    ∃ y,loop (λs:List Int×List (List UInt8)×List Bool×Int=>cA ds (ix,Y) s.1 s.2.1 s.2.2.1 s.2.2.2) (xs,tx ds (ix.take k),usd ds.length (ix.take k),(k:Int))=some y /\
   if okI ds.length ix=true then y=.inl (xs,tx ds ix,usd ds.length ix) else ∃ s,y=.inr (.inr s):=by
   intro s hs hn;refine⟨_,bC hs,?_⟩;rw [if_neg]
   ·exact⟨_,rfl⟩
   ·intro h;have:=aTs h (k+1);rw [d] at this;simp only [Bool.and_eq_true,decide_eq_true_eq] at this;exact hn this.2
  by_cases h0:0<=ix[k]
  ·by_cases a:ix[k]<(ds.length:Int)
   ·obtain⟨b,hb⟩:=aZy ds.length (ix.take k) ⟨h0,a⟩;obtain⟨y,f,hm⟩:=aJj ds ix Y xs hl m (k+1) (by omega) (by rw [d,ha];simp [h0,a]);rw [uD hx,aWr,aUq _ _ ⟨h0,a⟩] at f;refine⟨y,(cH (s':=(xs,tx ds (ix.take k)++[ds.getD ix[k].toNat []],(usd ds.length (ix.take k)).set ix[k].toNat true,((k+1:Nat):Int))) ?_).trans f,hm⟩;show cA ds (ix,Y) xs (tx ds (ix.take k)) (usd ds.length (ix.take k)) (k:Int)=_;unfold cA;rw [if_pos (by simp only [decide_eq_true_eq];omega),bG rfl hx];simp only [Option.bind_some];rw [if_pos (by simpa using h0),show decide (ix[k]<(ds.length:Int))=true by simpa using a,lY];simp only [Option.bind_some,hF];unfold jG;rw [hb,bAm _ ⟨h0,a⟩];simp only [Option.bind_some];rw [bN (by rw [aRz];simp;omega),lt_,w64 (by omega) (by omega)];rfl
   ·refine e (⟨xs⟩,tx ds (ix.take k)) ?_ (λc=>a c.2);unfold cA;rw [if_pos (by simp only [decide_eq_true_eq];omega),bG rfl hx];simp only [Option.bind_some];rw [if_pos (by simpa using h0),show decide (ix[k]<(ds.length:Int))=false by simpa using a,rK];rfl
  ·refine e (⟨xs⟩,tx ds (ix.take k)) ?_ (λc=>h0 c.1);unfold cA;rw [if_pos (by simp only [decide_eq_true_eq];omega),bG rfl hx];simp only [Option.bind_some];rw [if_neg (by simpa using h0),rK];rfl
theorem aHm (Y:Int×S140) (n:Nat) (a:Y.1=(n:Int)) (hn:n<=4096):∀ (m k:Nat) (acc:List (List UInt8)) (xs:List Int),Bs xs->xs.length<1099511627776->k+m=n->acc.length=k ->
  ∃ y,loop (λs:List Int×List (List UInt8)×Int=>cY [] Y s.1 s.2.1 s.2.2) (xs,acc,(k:Int))=some y/\match aDs acc m xs with
   | some (l,r)=>y=.inl (r,l)
   | none=>∃ s,y=.inr (.inr s)
 | 0,k,acc,xs,hB,hl,hk,ha=>by refine⟨.inl (xs,acc),bC ?_,rfl⟩;show cY [] Y xs acc (k:Int)=_;unfold cY;rw [a,if_neg (by simp only [decide_eq_true_eq];omega)]
 | m+1,k,acc,xs,hB,hl,hk,ha=>by
  unfold aDs;rcases (aKz 32 hB (by omega)).cases with ⟨t,r,b,c⟩ | ⟨b,s,c⟩
  ·rw [b];obtain⟨e,g⟩:=aQe hB b;have d:∀ (z:S140⊕S140),aI (⟨r⟩:S140) (aIv acc t)=some z->cY [] Y xs acc (k:Int)=(fL z (λy=>gX acc (k:Int) (t,⟨r⟩) y.f0) (λy=>some (.inr (.inr (.inr (y,[])))))):=by
    intro z hz;unfold cY;rw [a,if_pos (by simp only [decide_eq_true_eq];omega),c];simp only [Option.bind_some,hF,lt_];unfold aIv at hz;by_cases h0:acc.length=0
    ·rw [List.getElem?_eq_none (by omega)] at hz;rw [if_pos (by simpa using h0),hz];rfl
    ·have hx:=List.getElem?_eq_getElem (l:=acc) (i:=acc.length - 1) (by omega);rw [hx] at hz;rw [if_neg (by simpa using h0),w64 (by omega) (by omega),bG (n:=acc.length - 1) (by omega) hx];simp only [Option.bind_some];rw [hz];rfl
   by_cases hr:aIv acc t=true
   ·obtain⟨y,f,hm⟩:=aHm Y n a hn m (k+1) (acc++[t]) r e (by omega) (by omega) (by simp [ha]);simp only [hr,if_true];refine⟨y,(cH (s':=(r,acc++[t],((k+1:Nat):Int))) ?_).trans f,hm⟩;refine (d _ (by rw [hr,lY])).trans ?_;rw [hF];unfold gX;rw [bN (by simp;omega),lt_,nN (by omega) (by omega)];rfl
   ·rw [Bool.not_eq_true] at hr;simp only [hr,Bool.false_eq_true,if_false];exact⟨_,bC ((d _ (by rw [hr,rK])).trans rfl),_,rfl⟩
  ·rw [b];refine⟨_,bC (t:=Sum.inr (.inr (s,[]))) ?_,_,rfl⟩;show cY [] Y xs acc (k:Int)=_;unfold cY;rw [a,if_pos (by simp only [decide_eq_true_eq];omega),c];rfl
theorem aUo {xs:List Int} (hB:Bs xs) (hl:xs.length<1099511627776):match aIn xs with
  | some (T,r)=>jN ⟨xs⟩ []=some (.inl (⟨r⟩,T))
  | none=>∃ s,jN ⟨xs⟩ []=some (.inr s):=by
 unfold jN aIn;rcases (aCu 4096 hB).cases with ⟨n,r,b,f⟩ | ⟨b,s,f⟩
 ·rw [b,f];obtain⟨⟨o,q,t⟩,p,hp,_⟩:=tG b;have h:=aNl hB b;have u:r.length<=xs.length:=by rw [hp];simp
  obtain⟨n,rfl⟩:∃ m:Nat,n=(m:Int):=⟨n.toNat,by omega⟩;simp only [Option.bind_some,hF,Int.toNat_natCast];obtain⟨y,a,hm⟩:=aHm ((n:Int),⟨r⟩) n rfl (by omega) n 0 [] r h (by omega) (by omega) rfl;rw [show ((0:Nat):Int)=0 from rfl] at a;rw [a];simp only [Option.bind_some];cases hd:aDs [] n r with
  | none =>
   rw [hd] at hm;obtain⟨s,rfl⟩:=hm;exact⟨s,rfl⟩
  | some z =>
   obtain⟨ds,r'⟩:=z;rw [hd] at hm;simp only at hm;subst hm;obtain⟨j,v,k⟩:=aNi n _ _ h hd;have w:ds.length=n:=by simpa using k
   simp only;unfold kP lZ;rw [bN (by omega)];rcases (aP8 j (by omega)).cases with ⟨ix,i,d,g⟩ | ⟨d,s,g⟩
   ·rw [d,g];have l:=aJ1 d;simp only [Option.bind_some,hF];obtain⟨y,a,hm⟩:=aJj ds ix ⟨i⟩ i l ix.length 0 (by omega) rfl;rw [List.take_zero,aWs,show ((0:Nat):Int)=0 from rfl] at a;rw [Int.toNat_natCast];have e0:tx ds []=[]:=rfl;rw [e0] at a;rw [a];simp only [Option.bind_some];by_cases e:okI ds.length ix=true
    ·rw [if_pos e] at hm;subst hm;simp only;unfold kO mA;rw [aMv _ _ (by rw [aI2];omega)];simp only [Option.bind_some];by_cases hu:false∈usd ds.length ix
     ·rw [show decide (false∈usd ds.length ix)=true by simpa using hu,Bool.not_true,rK,if_neg (λc=>c.2 hu)];exact⟨_,rfl⟩
     ·rw [show decide (false∈usd ds.length ix)=false by simpa using hu,Bool.not_false,lY,if_pos ⟨e,hu⟩];rfl
    ·rw [if_neg e] at hm;obtain⟨s,rfl⟩:=hm;rw [if_neg (λc=>e c.1)];exact⟨s,rfl⟩
   ·rw [d,g];exact⟨_,rfl⟩
 ·rw [b,f];exact⟨_,rfl⟩
def aKc (xs:List Int):Option (List (List UInt8)):=match aIn xs with
 | some (T,[])=>some T
 | _=>none
theorem aJa {xs:List Int} (hB:Bs xs) (hl:xs.length<1099511627776):oI xs=some (match aKc xs with | some T=>(T,0) | none=>([],3)):=by
 unfold oI pA aKc;have h:=aUo hB hl;cases hp:aIn xs with
 | none =>
  rw [hp] at h;obtain⟨s,hs⟩:=h;rw [hs];rfl
 | some z =>
  obtain⟨T,r⟩:=z;rw [hp] at h;simp only at h;rw [h];cases r with
  | nil=>rfl
  | cons b r =>
   simp only [Option.bind_some,hF];rw [show (((b::r).length:Int)==0)=false by simp;omega];rfl
def aNr (xs:List Int):Option (List Nat):=(vI xs).bind aFx
structure SWO {α:Type} (lt:α->α->Bool):Prop where
 irr:∀ a,lt a a=false
 trans:∀ a b c,lt a b=true->lt b c=true->lt a c=true
 neg:∀ a b c,lt a c=true->lt a b=true\/lt b c=true
section
variable {α:Type} {lt:α->α->Bool}
def ins (lt:α->α->Bool) (x:α):List α->List α
 | []=>[x]
 | y::l=>if lt x y then x::y::l else y::ins lt x l
def sortL (lt:α->α->Bool) (l:List α):List α:=l.foldl (λacc x=>ins lt x acc) []
def Srt (lt:α->α->Bool) (l:List α):Prop:=l.Pairwise λa b=>lt b a=false
theorem aH9 (x:α):∀ l:List α,(ins lt x l).length=l.length+1
 | []=>rfl
 | y::l=>by unfold ins;split <;> simp [aH9 x l]
theorem aEs:∀ (l acc:List α),(l.foldl (λacc x=>ins lt x acc) acc).length=acc.length+l.length
 | [],acc=>by simp
 | x::l,acc=>by rw [List.foldl_cons,aEs l,aH9];simp;omega
theorem aE9 (l:List α):(sortL lt l).length=l.length:=by unfold sortL;rw [aEs];simp
theorem aQn {l:List α} (h:Srt lt l) {i j:Nat} {x y:α} (a:i<j) (hx:l[i]?=some x) (b:l[j]?=some y):lt y x=false:=by obtain⟨c,rfl⟩:=List.getElem?_eq_some_iff.1 hx;obtain⟨d,rfl⟩:=List.getElem?_eq_some_iff.1 b;exact List.pairwise_iff_getElem.1 h i j c d a
end
def bef (x y:S61):Bool:=if x.f3==y.f3 then (if x.f2==y.f2 then decide (x.f0<y.f0) else decide (x.f2<y.f2)) else Op.bytesLess x.f3 y.f3
def Anc (i j:Nat):Prop:=∃ m,j / 2 ^ m=i
theorem Anc.refl (i:Nat):Anc i i:=⟨0,by simp⟩
theorem Anc.up {i j:Nat} (h:Anc i j):Anc (i / 2) j:=by obtain⟨m,rfl⟩:=h;exact⟨m+1,by rw [Nat.pow_succ,Nat.div_div_eq_div_mul]⟩
theorem Anc.trans {i j k:Nat} (h:Anc i j) (a:Anc j k):Anc i k:=by obtain⟨m,rfl⟩:=h;obtain⟨b,rfl⟩:=a;exact⟨b+m,by rw [Nat.pow_add,Nat.div_div_eq_div_mul]⟩
theorem Anc.le {i j:Nat} (h:Anc i j):i<=j:=by obtain⟨m,rfl⟩:=h;exact Nat.div_le_self _ _
theorem Anc.half {i j:Nat} (h:Anc i j) (hn:i≠j):Anc i (j / 2):=by
 obtain⟨m,rfl⟩:=h;cases m with
 | zero=>simp at hn
 | succ m=>exact⟨m,by rw [Nat.pow_succ,Nat.mul_comm,Nat.div_div_eq_div_mul]⟩
theorem Anc.one:∀ (j:Nat),1<=j->Anc 1 j:=by
 intro j
 induction j using Nat.strongRecOn with
 | _ j ih =>
  intro a;rcases Nat.lt_or_ge j 2 with h | h
  ·rw [show j=1 by omega];exact Anc.refl 1
  ·exact (ih (j / 2) (by omega) (by omega)).trans ⟨1,rfl⟩
theorem Anc.apart {i j:Nat} (hi:1<=i) (h:Anc (2 * i) j) (c:Anc (2 * i+1) j):False:=by
 obtain⟨m,hm⟩:=h;obtain⟨a,b⟩:=c;rcases Nat.lt_trichotomy m a with e | rfl | e
 ·obtain⟨d,rfl⟩:∃ d,a=m+(d+1):=⟨a - m - 1,by omega⟩;rw [Nat.pow_add, ← Nat.div_div_eq_div_mul,hm,Nat.pow_succ,Nat.mul_comm (2 ^ d), ← Nat.div_div_eq_div_mul] at b;have:=Nat.div_le_self (2 * i / 2) (2 ^ d);omega
 ·omega
 ·obtain⟨d,rfl⟩:∃ d,m=a+(d+1):=⟨m - a - 1,by omega⟩;rw [Nat.pow_add, ← Nat.div_div_eq_div_mul,b,Nat.pow_succ,Nat.mul_comm (2 ^ d), ← Nat.div_div_eq_div_mul] at hm;have:=Nat.div_le_self ((2 * i+1) / 2) (2 ^ d);omega
structure STO (k:Nat) (lt:Nat->Nat->Bool):Prop where
 irr:∀ a,lt a a=false
 trans:∀ a b c,lt a b=true->lt b c=true->lt a c=true
 tot:∀ a b,a<k->b<k->a≠b->lt a b=true\/lt b a=true
def Inn (lt:Nat->Nat->Bool) (W node:Nat->Nat) (i:Nat):Prop :=
 lt (W i) (node i)=true/\((W i=W (2 * i)/\node i=W (2 * i+1))\/(W i=W (2 * i+1)/\node i=W (2 * i)))
structure Tour (k:Nat) (lt:Nat->Nat->Bool) (W node:Nat->Nat):Prop where
 leaf:∀ i,i<k->W (k+i)=i
 inner:∀ i,1<=i->i<k->Inn lt W node i
section
variable {k:Nat} {lt:Nat->Nat->Bool} {W node:Nat->Nat}
theorem below (leaf:∀ i,i<k->W (k+i)=i) (i0:Nat) (h0:1<=i0) (inner:∀ i,i0<=i->i<k->(W i=W (2 * i)\/W i=W (2 * i+1))) :
  ∀ (n i:Nat),i0<=i->i<2 * k->2 * k - i=n->W i<k/\Anc i (W i+k):=by
 intro n
 induction n using Nat.strongRecOn with
 | _ n ih =>
  intro i hi hk hn;rcases Nat.lt_or_ge i k with h | h
  ·rcases inner i hi h with a | a
   ·obtain⟨b,c⟩:=ih (2 * k - 2 * i) (by omega) (2 * i) (by omega) (by omega) rfl;rw [a];exact⟨b,by have:=c.up;rwa [show 2 * i / 2=i by omega] at this⟩
   ·obtain⟨b,c⟩:=ih (2 * k - (2 * i+1)) (by omega) (2 * i+1) (by omega) (by omega) rfl;rw [a];exact⟨b,by have:=c.up;rwa [show (2 * i+1) / 2=i by omega] at this⟩
  ·have:=leaf (i - k) (by omega);rw [show k+(i - k)=i by omega] at this;rw [this];exact⟨by omega,by rw [show i - k+k=i by omega];exact Anc.refl i⟩
theorem Inn.or {i:Nat} (h:Inn lt W node i):W i=W (2 * i)\/W i=W (2 * i+1):=h.2.elim (λh=>.inl h.1) λh=>.inr h.1
theorem Tour.below (h:Tour k lt W node) {i:Nat} (hi:1<=i) (hk:i<2 * k):W i<k/\Anc i (W i+k) :=
 P.below h.leaf 1 (Nat.le_refl _) (λi a b=>(h.inner i a b).or) _ i hi hk rfl
theorem Tour.min (h:Tour k lt W node) (o:STO k lt):∀ (n i:Nat),1<=i->i<2 * k->2 * k - i=n->∀ j,j<k->Anc i (j+k)->j=W i\/lt (W i) j=true:=by
 intro n
 induction n using Nat.strongRecOn with
 | _ n ih =>
  intro i hi hk hn j p e;rcases Nat.lt_or_ge i k with f | f
  ·have q:=e.half (by omega);obtain⟨m,hm⟩:=q;have key:∀ c,(c=2 * i\/c=2 * i+1)->Anc c (j+k)->j=W i\/lt (W i) j=true:=by
    intro c hc r;obtain⟨g,l⟩:=h.inner i hi f;have:=ih (2 * k - c) (by omega) c (by omega) (by omega) rfl j p r;have a:W i=W c\/lt (W i) (W c)=true:=by
     rcases hc with rfl | rfl
     ·rcases l with ⟨b,d⟩ | ⟨b,d⟩
      ·exact .inl b
      ·exact .inr (d▸g)
     ·rcases l with ⟨b,d⟩ | ⟨b,d⟩
      ·exact .inr (d▸g)
      ·exact .inl b
    rcases a with a | a
    ·rw [a];exact this
    ·rcases this with rfl | this
     ·exact .inr a
     ·exact .inr (o.trans _ _ _ a this)
   obtain⟨m,hm⟩:=e;cases m with
   | zero=>simp at hm;omega
   | succ m =>
    rw [Nat.pow_succ, ← Nat.div_div_eq_div_mul] at hm;exact key _ (by omega) ⟨m,rfl⟩
  ·have:=h.leaf (i - k) (by omega);rw [show k+(i - k)=i by omega] at this;obtain⟨m,hm⟩:=e;cases m with
   | zero=>simp at hm;exact .inl (by omega)
   | succ m =>
    rw [Nat.pow_succ,Nat.mul_comm, ← Nat.div_div_eq_div_mul] at hm;have:=Nat.div_le_self ((j+k) / 2) (2 ^ m);omega
theorem Tour.first (h:Tour k lt W node) (a:STO k lt) (hk:1<=k) {j:Nat} (b:j<k) (hn:j≠W 1):lt (W 1) j=true :=
 (h.min a _ 1 (Nat.le_refl _) (by omega) rfl j b (Anc.one _ (by omega))).resolve_left hn
theorem Tour.path (h:Tour k lt W node) (hk:1<=k):∀ (i:Nat),1<=i->Anc i (W 1+k)->W i=W 1:=by
 intro i
 induction i using Nat.strongRecOn with
 | _ i ih =>
  intro hi b;have hw:=(h.below (i:=1) (by omega) (by omega)).1;have e:i<2 * k:=by have:=b.le;omega
  rcases Nat.lt_or_ge i 2 with d | d
  ·rw [show i=1 by omega]
  ·have hp:=ih (i / 2) (by omega) (by omega) b.up;rcases (h.inner (i / 2) (by omega) (by omega)).or with a | a
   ·have hb:=h.below (i:=2 * (i / 2)) (by omega) (by omega);rw [← a,hp] at hb;rcases Nat.mod_two_eq_zero_or_one i with c | c
    ·rw [show i=2 * (i / 2) by omega, ← a,hp]
    ·exact (Anc.apart (i:=i / 2) (by omega) hb.2 (by rw [show 2 * (i / 2)+1=i by omega];exact b)).elim
   ·have hb:=h.below (i:=2 * (i / 2)+1) (by omega) (by omega);rw [← a,hp] at hb;rcases Nat.mod_two_eq_zero_or_one i with c | c
    ·exact (Anc.apart (i:=i / 2) (by omega) (by rw [show 2 * (i / 2)=i by omega];exact b) hb.2).elim
    ·rw [show i=2 * (i / 2)+1 by omega, ← a,hp]
structure Way (k:Nat) (lt lt':Nat->Nat->Bool) (W node:Nat->Nat) (c:Nat) (W' node':Nat->Nat):Prop where
 c1:1<=c
 anc:Anc c (W 1+k)
 leaf:∀ i,i<k->W' (k+i)=i
 inner:∀ i,1<=i->i<k->¬ (Anc i c/\i≠c)->Inn lt' W' node' i
 todo:∀ i,Anc i c->i≠c->node' i=node i
 rest:∀ j,1<=j->¬ Anc j (W 1+k)->W' j=W j
 rng:W' c<k/\Anc c (W' c+k)
theorem Way.start {c:Nat->Nat->Bool} (h:Tour k lt W node) (hk:1<=k) (hl:∀ a b,a≠W 1->b≠W 1->c a b=lt a b):Way k lt c W node (W 1+k) W node:=by
 have hw:=(h.below (i:=1) (by omega) (by omega)).1;refine⟨by omega,Anc.refl _,h.leaf,λi d g hn=>?_,λ_ _ _=>rfl,λ_ _ _=>rfl,?_⟩
 ·have l:¬ Anc i (W 1+k):=λm=>hn ⟨m,by omega⟩;obtain⟨n,f⟩:=h.inner i d g;have hd:∀ j,1<=j->j<2 * k->Anc i j->W j≠W 1:=by intro j o p q he;have:=(h.below (i:=j) o p).2;rw [he] at this;exact l (q.trans this)
  have r:=hd i d (by omega) (Anc.refl i);have s:=hd (2 * i) (by omega) (by omega) ⟨1,by omega⟩;have t:=hd (2 * i+1) (by omega) (by omega) ⟨1,by omega⟩;refine⟨?_,f⟩;rw [hl _ _ r (by rcases f with ⟨_,e⟩ | ⟨_,e⟩ <;> rw [e] <;> assumption)];exact n
 ·have:=h.leaf (W 1) hw;rw [Nat.add_comm] at this;rw [this];exact⟨hw,Anc.refl _⟩
def upd (f:Nat->Nat) (i v:Nat):Nat->Nat:=λj=>if j=i then v else f j
theorem Way.step {d:Nat->Nat->Bool} {c:Nat} {a node':Nat->Nat} (h:Tour k lt W node) (hk:1<=k) (H:STO k d) (hw:Way k lt d W node c a node') (hc:2<=c) :
  node (c / 2)<k/\(d (node (c / 2)) (a c)=true->Way k lt d W node (c / 2) (upd a (c / 2) (node (c / 2))) (upd node' (c / 2) (a c))) /\
   (d (node (c / 2)) (a c)=false->Way k lt d W node (c / 2) (upd a (c / 2) (a c)) node'):=by
 have N:=(h.below (i:=1) (by omega) (by omega)).1;have O:c<2 * k:=by have:=hw.anc.le;omega
 obtain⟨i,hi⟩:∃ i,i=c / 2:=⟨_,rfl⟩;rw [← hi];have n:1<=i:=by omega
 have I:i<k:=by omega
 have w:=h.path hk i n (by rw [hi];exact hw.anc.up);have P:=h.path hk c hw.c1 hw.anc;obtain⟨s,u⟩:∃ s,(s=2 * i/\c=2 * i+1)\/(s=2 * i+1/\c=2 * i):=by
  rcases Nat.mod_two_eq_zero_or_one c with J | J
  ·exact⟨2 * i+1,.inr ⟨rfl,by omega⟩⟩
  ·exact⟨2 * i,.inl ⟨rfl,by omega⟩⟩
 have z:∀ j,Anc c j->Anc s j->False:=by
  intro j b f;rcases u with ⟨rfl,e⟩ | ⟨rfl,e⟩ <;> rw [e] at b
  ·exact Anc.apart n f b
  ·exact Anc.apart n b f
 have r:1<=s/\s<2 * k/\s / 2=i:=by omega
 have A:¬ Anc s (W 1+k):=λg=>z _ hw.anc g;have B:=hw.rest s r.1 A;have l:=h.below (i:=s) r.1 r.2.1;have C:W s≠W 1:=λe=>A (e▸l.2);have D:node i=W s:=by
  obtain⟨_,o⟩:=h.inner i n I;rcases u with ⟨rfl,e⟩ | ⟨rfl,e⟩ <;> rcases o with ⟨b,f⟩ | ⟨b,f⟩
  ·exact absurd (b.symm.trans w) C
  ·exact f
  ·exact f
  ·exact absurd (b.symm.trans w) C
 have K:a c≠W s:=λe=>z _ hw.rng.2 (e▸l.2);have mk:∀ (x y:Nat) (node'':Nat->Nat),d x y=true->((x=a c/\y=W s)\/(x=W s/\y=a c))->node'' i=y->(∀ j,j≠i->node'' j=node' j)->Way k lt d W node i (upd a i x) node'':=by
  intro x y node'' L o E F;have G:Anc i (W 1+k):=by have:=hw.anc.up;rwa [← hi] at this
  refine⟨n,G,λj m=>?_,λj b f hn=>?_,λj g m=>?_,λj b hn=>?_,?_⟩
  ·simp only [upd,if_neg (show k+j≠i by omega)];exact hw.leaf j m
  ·by_cases t:j=i
   ·subst t;refine⟨by simp only [upd,if_true];rw [E];exact L,?_⟩;simp only [upd,if_true,if_neg (show 2 * j≠j by omega),if_neg (show 2 * j+1≠j by omega)];rw [E];rcases u with ⟨p,q⟩ | ⟨p,q⟩
    ·rw [show a (2 * j)=W s by rw [← p,B],show a (2 * j+1)=a c by rw [← q]];exact o.elim .inr .inl
    ·rw [show a (2 * j+1)=W s by rw [← p,B],show a (2 * j)=a c by rw [← q]];exact o
   ·have v:¬ Anc j i:=λg=>hn ⟨g,t⟩;have M:=hw.inner j b f λ⟨g,hjc⟩=>v (by have:=g.half hjc;rwa [← hi] at this);have p:2 * j≠i:=λe=>v ⟨1,by omega⟩;have q:2 * j+1≠i:=λe=>v ⟨1,by omega⟩;unfold Inn;simp only [upd,if_neg t,if_neg p,if_neg q];rw [F j t];exact M
  ·rw [F j m];exact hw.todo j (g.trans ⟨1,by omega⟩) (by have:=g.le;omega)
  ·simp only [upd,if_neg (show j≠i from λe=>hn (e▸G))];exact hw.rest j b hn
  ·simp only [upd,if_true];rcases o with ⟨rfl,_⟩ | ⟨rfl,_⟩
   ·exact⟨hw.rng.1,by have:=hw.rng.2.up;rwa [← hi] at this⟩
   ·exact⟨l.1,by have:=l.2.up;rwa [r.2.2] at this⟩
 rw [D];refine⟨l.1,λht=>?_,λhf=>?_⟩
 ·exact mk _ (a c) _ ht (.inr ⟨rfl,rfl⟩) (by simp [upd]) λj m=>by simp [upd,m]
 ·refine mk _ (W s) _ ?_ (.inl ⟨rfl,rfl⟩) ?_ λj m=>rfl
  ·rcases H.tot _ _ hw.rng.1 l.1 K with b | b
   ·exact b
   ·rw [b] at hf;cases hf
  ·rw [hw.todo i ⟨1,by omega⟩ (by omega),D]
theorem Way.done {a:Nat->Nat->Bool} {b node':Nat->Nat} (hw:Way k lt a W node 1 b node'):Tour k a b node' :=
 ⟨hw.leaf,λi c d=>hw.inner i c d λ⟨ha,hn⟩=>hn (by have:=ha.le;omega)⟩
structure Rise (k:Nat) (lt:Nat->Nat->Bool) (i:Nat) (W node:Nat->Nat):Prop where
 leaf:∀ j,j<k->W (k+j)=j
 inner:∀ j,i<j->j<k->1<=j->Inn lt W node j
theorem Rise.step (d:STO k lt) {i:Nat} (f:1<=i) (p:i<k) (h:Rise k lt i W node) :
  W (2 * i)<k/\W (2 * i+1)<k/\(lt (W (2 * i+1)) (W (2 * i))=true->Rise k lt (i - 1) (upd W i (W (2 * i+1))) (upd node i (W (2 * i)))) /\
   (lt (W (2 * i+1)) (W (2 * i))=false->Rise k lt (i - 1) (upd W i (W (2 * i))) (upd node i (W (2 * i+1)))):=by
 have hb:=P.below h.leaf (i+1) (by omega) λj a b=>(h.inner j (by omega) b (by omega)).or;have b1:=hb _ (2 * i) (by omega) (by omega) rfl;have b2:=hb _ (2 * i+1) (by omega) (by omega) rfl;have g:W (2 * i)≠W (2 * i+1):=λe=>Anc.apart f b1.2 (by rw [e];exact b2.2);have mk:∀ x y,lt x y=true->((x=W (2 * i)/\y=W (2 * i+1))\/(x=W (2 * i+1)/\y=W (2 * i)))->Rise k lt (i - 1) (upd W i x) (upd node i y):=by
  intro x y l m;refine⟨λj n=>?_,λj a b o=>?_⟩
  ·simp only [upd,if_neg (show k+j≠i by omega)];exact h.leaf j n
  ·unfold Inn;by_cases c:j=i
   ·subst c;simp only [upd,if_true,if_neg (show 2 * j≠j by omega),if_neg (show 2 * j+1≠j by omega)];exact⟨l,m⟩
   ·simp only [upd,if_neg c,if_neg (show 2 * j≠i by omega),if_neg (show 2 * j+1≠i by omega)];exact h.inner j (by omega) b o
 refine⟨b1.1,b2.1,λht=>mk _ _ ht (.inr ⟨rfl,rfl⟩),λhf=>mk _ _ ?_ (.inl ⟨rfl,rfl⟩)⟩;rcases d.tot _ _ b1.1 b2.1 g with a | a
 ·exact a
 ·rw [a] at hf;cases hf
theorem Rise.done (h:Rise k lt 0 W node):Tour k lt W node:=⟨h.leaf,λi a b=>h.inner i a b a⟩
end
def hd (R:List (List S61)) (i:Nat):Option S61:=R[i]?.bind List.head?
def bD1 (p q:Option S61) (a b:Nat):Bool :=
 match p,q with
 | none,none=>decide (a<b)
 | none,some _=>false
 | some _,none=>true
 | some x,some y=>bef x y||(!bef y x&&decide (a<b))
def ahd (R:List (List S61)) (a b:Nat):Bool:=bD1 (hd R a) (hd R b) a b
structure bFl (R:List (List S61)) (nd:List Int) (W node:Nat->Nat):Prop where
 pos:1<=R.length
 small:R.length<2 ^ 40
 len:nd.length=R.length
 tour:Tour R.length (ahd R) W node
 top:nd[0]?=some (W 1:Int)
 inner:∀ i,1<=i->i<R.length->nd[i]?=some (node i:Int)
section
variable {α:Type} {lt:α->α->Bool}
end
section
variable {α:Type} {lt:α->α->Bool}
theorem SWO.lt_of_lt_of_le (h:SWO lt) {a b c:α} (d:lt a b=true) (e:lt c b=false):lt a c=true:=by
 rcases h.neg a c b d with q | q
 ·exact q
 ·simp_all
theorem SWO.lt_of_le_of_lt (h:SWO lt) {a b c:α} (e:lt b a=false) (d:lt b c=true):lt a c=true:=by
 rcases h.neg b a c d with q | q
 ·simp_all
 ·exact q
end
section
variable {α:Type} {lt:α->α->Bool}
inductive Blk (lt:α->α->Bool) (n:Nat):List α->List α->Prop
 | last {O:List α}:O.length<=n->Blk lt n O (sortL lt O)
 | cons {O1 O2 L2:List α}:O1.length=n->Blk lt n O2 L2->Blk lt n (O1++O2) (sortL lt O1++L2)
theorem Blk.length {n:Nat} {O L:List α} (h:Blk lt n O L):L.length=O.length:=by
 induction h with
 | last _=>exact aE9 _
 | cons _ _ ih=>simp [aE9,ih]
theorem Blk.done {n:Nat} {O L:List α} (h:Blk lt n O L) (hn:O.length<=n):L=sortL lt O:=by
 cases h with
 | last _=>rfl
 | @cons O1 O2 L2 h1 h2 =>
  have hl:=h2.length;simp only [List.length_append] at hn;have a:=List.eq_nil_of_length_eq_zero (show O2.length=0 by omega);subst a;have b:=List.eq_nil_of_length_eq_zero hl;rw [b];simp
end
section
variable {α:Type} {lt:α->α->Bool}
theorem bFj (h:SWO lt) {l m:List α} (hl:Srt lt l) (hm:Srt lt m) (hp:l.Perm m) {i:Nat} {x y:α} (hx:l[i]?=some x) (b:m[i]?=some y):lt x y=false:=by
 cases hxy:lt x y with
 | false=>rfl
 | true =>
  exfalso;have hc:=hp.countP_eq (λz=>lt z y);obtain⟨d,f⟩:=List.getElem?_eq_some_iff.1 hx;obtain⟨g,_⟩:=List.getElem?_eq_some_iff.1 b;have k:(l.take (i+1)).countP (λz=>lt z y)=i+1:=by
   have e:(l.take (i+1)).length=i+1:=by rw [List.length_take];omega
   refine (List.countP_eq_length.2 ?_).trans e;intro z hz;obtain⟨j,a⟩:=List.getElem?_of_mem hz;rw [List.getElem?_take] at a;split at a
   ·rcases Nat.lt_or_ge j i with c | c
    ·have hs:=aQn hl c a hx;rcases h.neg x z y hxy with q | q
     ·rw [hs] at q;cases q
     ·exact q
    ·have:j=i:=by omega
     subst this;rw [hx] at a;cases a;exact hxy
   ·cases a
  have n:(m.drop i).countP (λz=>lt z y)=0:=by
   rw [List.countP_eq_zero];intro z hz;obtain⟨j,a⟩:=List.getElem?_of_mem hz;rw [List.getElem?_drop] at a;rcases Nat.eq_zero_or_pos j with q | q
   ·subst q;rw [Nat.add_zero,b] at a;cases a;rw [h.irr];simp
   ·rw [aQn hm (show i<i+j by omega) b a];simp
  have o:(m.take i).countP (λz=>lt z y)<=i:=Nat.le_trans List.countP_le_length (by rw [List.length_take];omega);have p:l.countP (λz=>lt z y)=(l.take (i+1)).countP (λz=>lt z y)+(l.drop (i+1)).countP (λz=>lt z y):=by rw [← List.countP_append,List.take_append_drop]
  have r:m.countP (λz=>lt z y)=(m.take i).countP (λz=>lt z y)+(m.drop i).countP (λz=>lt z y):=by rw [← List.countP_append,List.take_append_drop]
  omega
end
section
variable {α:Type}
end
theorem yJ (a:List UInt8):Op.bytesLess a a=false:=by rw [bytesLess_eq];simp [List.lt_irrefl]
theorem aEj {a b c:List UInt8} (d:Op.bytesLess a b=true) (e:Op.bytesLess b c=true):Op.bytesLess a c=true:=by rw [bytesLess_eq] at *;simp only [decide_eq_true_eq] at *;exact List.lt_trans d e
theorem aK2 {a b:List UInt8} (h:Op.bytesLess a b=false) (c:Op.bytesLess b a=false):a=b:=by rw [bytesLess_eq] at *;simp only [decide_eq_false_iff_not] at *;exact List.le_antisymm (List.not_lt.1 c) (List.not_lt.1 h)
def lP (l:List S98):Prop:=l.Pairwise λx y=>Op.bytesLess x.f0 y.f0=true
def pos (l:List S98) (n:List UInt8):Nat:=(l.takeWhile λx=>Op.bytesLess x.f0 n).length
theorem aT4 (l:List S98) (n:List UInt8):pos l n<=l.length:=(List.takeWhile_sublist _).length_le
theorem aE0:∀ {l:List S98} (hl:lP l) (n:List UInt8) {h:Nat} {x:S98},l[h]?=some x->(Op.bytesLess x.f0 n=true↔h<pos l n)
 | [],_,n,h,x,hx=>by simp at hx
 | y::l,hl,n,h,x,hx=>by
  obtain⟨a,b⟩:=List.pairwise_cons.1 hl;unfold pos;rw [List.takeWhile_cons];cases hyn:Op.bytesLess y.f0 n with
  | true =>
   rw [if_pos rfl,List.length_cons];cases h with
   | zero=>cases hx;simp [hyn]
   | succ h =>
    have:=aE0 b n (h:=h) (x:=x) (by simpa using hx);unfold pos at this;rw [this];omega
  | false =>
   rw [if_neg (by simp),List.length_nil];cases h with
   | zero=>cases hx;simp [hyn]
   | succ h =>
    have c:x∈l:=List.mem_of_getElem? (by simpa using hx);constructor
    ·intro d;have:=aEj (a x c) d;rw [hyn] at this;cases this
    ·intro h;omega
theorem aM6 (x:S98) (n:List UInt8):jO x n=some (if Op.bytesLess x.f0 n=true then -1 else if x.f0=n then 0 else 1):=by
 unfold jO;cases h:Op.bytesLess x.f0 n with
 | true=>rfl
 | false =>
  simp only [Bool.false_eq_true,if_false,Bool.false_or];by_cases e:x.f0=n
  ·simp [e]
  ·simp [e]
def has (l:List S98) (n:List UInt8):Bool:=match l[pos l n]? with
 | some x=>x.f0==n
 | none=>false
theorem aOe (l:List S98) (hl:lP l) (hlen:l.length<1099511627776) (n:List UInt8):bL l n=some ((pos l n:Int),has l n):=by
 unfold bL;have hp:=aT4 l n;obtain⟨y,d,hm⟩:=aC6 (b:=λs:Int×Int=>aV l n s.1 s.2) (s:=(0,(l.length:Int)))
  (λs=>∃ i j:Nat,s=((i:Int),(j:Int))/\i<=pos l n/\pos l n<=j/\j<=l.length) (λs=>(s.2 - s.1).toNat) (λt=>t=((pos l n:Nat):Int)) ⟨0,l.length,rfl,Nat.zero_le _,hp,Nat.le_refl _⟩ (by
  rintro s ⟨i,j,rfl,f,g,h⟩;show (∃ s',aV l n (i:Int) (j:Int)=some (.inl s')/\_)\/∃ t,aV l n (i:Int) (j:Int)=some (.inr t)/\_;unfold aV;by_cases p:i<j
  ·have hx:=List.getElem?_eq_getElem (l:=l) (i:=(i+j) / 2) (by omega);have c:=aE0 hl n hx;have m:nX .u64 (((i+j:Nat)):Int) 1=(((i+j) / 2:Nat):Int):=kZ (k:=.u64) (i+j) 1 (by decide);rw [if_pos (by simp only [decide_eq_true_eq];omega)];simp only [lt_];rw [w64 (n:=(i:Int)+(j:Int)) (by omega) (by omega),nN (by omega) (by omega),show (i:Int)+(j:Int)=((i+j:Nat):Int) by omega,m,w64 (by omega) (by omega),bG rfl hx];simp only [Option.bind_some];rw [aM6];simp only [Option.bind_some];unfold bH;by_cases a:Op.bytesLess (l[(i+j) / 2]).f0 n=true
   ·have:=c.1 a;rw [if_pos a,if_pos (by decide),w64 (by omega) (by omega)];exact .inl ⟨_,rfl,⟨(i+j) / 2+1,j,rfl,by omega,g,h⟩,by simp only;omega⟩
   ·have:¬ (i+j) / 2<pos l n:=λq=>a (c.2 q);rw [if_neg a,if_neg (by split <;> decide)];exact .inl ⟨_,rfl,⟨i,(i+j) / 2,rfl,f,by omega,by omega⟩,by simp only;omega⟩
  ·rw [if_neg (by simp only [decide_eq_true_eq];omega)];exact .inr ⟨_,rfl,by rw [show i=pos l n by omega]⟩)
 rw [d,hm];simp only [Option.bind_some];unfold bP bW has;by_cases a:pos l n<l.length
 ·have hx:=List.getElem?_eq_getElem a;have c:=aE0 hl n hx;have o:¬ Op.bytesLess (l[pos l n]).f0 n=true:=λq=>by have:=c.1 q;omega
  rw [if_pos (by simp only [decide_eq_true_eq];omega),bG rfl hx,hx];simp only [Option.bind_some];rw [aM6];simp only [Option.bind_some];rw [if_neg o];congr 2;by_cases e:(l[pos l n]).f0=n
  ·rw [if_pos e];simp [e]
  ·rw [if_neg e];simp [e]
 ·rw [if_neg (by simp only [decide_eq_true_eq];omega),List.getElem?_eq_none (by omega)]
theorem aP3 (s:S77) (hl:lP s.f0) (hlen:s.f0.length<1099511627776) (n:List UInt8):eN s n=some ((pos s.f0 n:Int),has s.f0 n):=by unfold eN;rw [aOe s.f0 hl hlen n];rfl
def okc (c:UInt8):Bool:=decide (c.toNat=46)||(decide (48<=c.toNat)&&decide (c.toNat<=57))||(decide (97<=c.toNat)&&decide (c.toNat<=122))
def sY (n:List UInt8):Bool:=n.all okc&&decide (1<=n.length)&&decide (n.length<=32)
theorem aOt (a:List UInt8) (i:Nat) {c:UInt8} (hc:a[i]?=some c):gG a (i:Int)=iG (i:Int) (!okc c):=by
 have hi:=(List.getElem?_eq_some_iff.1 hc).1;unfold gG okc;rw [if_pos (by simp only [decide_eq_true_eq];omega),bG rfl hc];simp only [Option.bind_some,bne_iff_ne,ne_eq,decide_eq_true_eq];by_cases b:c.toNat=46
 ·rw [if_neg (by omega),decide_eq_true b];rfl
 rw [if_pos (by omega),decide_eq_false b];by_cases e:c.toNat<48
 ·rw [if_pos (by omega),if_pos (by omega),decide_eq_false (show ¬ 48<=c.toNat by omega),decide_eq_false (show ¬ 97<=c.toNat by omega)];rfl
 rw [if_neg (by omega),decide_eq_true (show 48<=c.toNat by omega)];by_cases f:57<c.toNat
 ·rw [if_pos (by omega),decide_eq_false (show ¬ c.toNat<=57 by omega)];by_cases g:c.toNat<97
  ·rw [if_pos (by omega),decide_eq_false (show ¬ 97<=c.toNat by omega)];rfl
  ·rw [if_neg (by omega),decide_eq_true (show 97<=c.toNat by omega)];by_cases d:c.toNat<=122
   ·rw [decide_eq_true d,decide_eq_false (by omega)];rfl
   ·rw [decide_eq_false d,decide_eq_true (by omega)];rfl
 ·rw [if_neg (by omega),decide_eq_true (show c.toNat<=57 by omega)];rfl
theorem aJn (a:List UInt8) (c:a.length<4611686018427387904):∀ (m i:Nat),i+m=a.length->loop (λs=>gG a s) (i:Int)=some (if (a.drop i).all okc=true then .inl () else .inr false)
 | 0,i,hi=>by refine bC ?_;show gG a (i:Int)=_;unfold gG;rw [if_neg (by simp only [decide_eq_true_eq];omega),List.drop_of_length_le (by omega)];rfl
 | m+1,i,hi=>by
  have hx:=List.getElem?_eq_getElem (l:=a) (i:=i) (by omega);have hr:=aOt a i hx;have hd:a.drop i=a[i]::a.drop (i+1):=List.drop_eq_getElem_cons (by omega);cases hc:okc a[i] with
  | true =>
   rw [hc] at hr;have:gG a (i:Int)=some (.inl ((i+1:Nat):Int)):=by rw [hr];unfold iG;rw [if_neg (by simp),lt_,w64 (by omega) (by omega)];rfl
   rw [cH (b:=λs=>gG a s) this,aJn a c m (i+1) (by omega),hd,List.all_cons,hc,Bool.true_and]
  | false =>
   rw [hc] at hr;have:gG a (i:Int)=some (.inr (.inr false)):=by rw [hr];rfl
   rw [bC (b:=λs=>gG a s) this,hd,List.all_cons,hc,Bool.false_and];rfl
theorem aPk (a:List UInt8) (b:a.length<4611686018427387904):rE a=some (sY a):=by
 unfold rE;have h:=aJn a b a.length 0 (by omega);rw [show ((0:Nat):Int)=0 from rfl,List.drop_zero] at h;rw [h];unfold sY;cases a.all okc with
 | true =>
  show sX a=_;unfold sX;cases a with
  | nil=>rfl
  | cons c a =>
   rw [if_pos (show (!(c::a==[]))=true from rfl)];simp only [List.length_cons,Bool.true_and,decide_eq_true (show 1<=a.length+1 by omega)];congr 1;exact decide_eq_decide.2 (by omega)
 | false=>rfl
theorem aAr {P D:List S98} {x:S98} (h:lP (P++x::D)):(∀ y∈P,Op.bytesLess y.f0 x.f0=true)/\(∀ y∈D,Op.bytesLess x.f0 y.f0=true):=by obtain⟨d,a,b⟩:=List.pairwise_append.1 h;exact⟨λy c=>b y c x (List.mem_cons_self ..),(List.pairwise_cons.1 a).1⟩
theorem aEi {a b:List UInt8} (h:Op.bytesLess a b=true):a≠b:=λe=>by subst e;rw [yJ] at h;cases h
theorem aGx {a b:List UInt8} (h:Op.bytesLess a b=true):Op.bytesLess b a=false:=by
 cases hb:Op.bytesLess b a with
 | false=>rfl
 | true=>have:=aEj h hb;rw [yJ] at this;cases this
theorem aT3 {P D:List S98} {n:List UInt8} (a:∀ y∈P,Op.bytesLess y.f0 n=true) (b:∀ y,D.head?=some y->Op.bytesLess y.f0 n=false):pos (P++D) n=P.length:=by
 unfold pos;rw [List.takeWhile_append_of_pos a,List.length_append];cases D with
 | nil=>rfl
 | cons y D=>rw [List.takeWhile_cons,b y rfl];rfl
theorem aA9 {P D:List S98} {x:S98} {n:List UInt8} (hn:x.f0=n) (h:lP (P++x::D)):pos (P++x::D) n=P.length:=by subst hn;exact aT3 (aAr h).1 λy a=>by cases a;exact yJ _
theorem aC2 {P D:List S98} {x:S98} {n:List UInt8} (hn:x.f0=n) (h:lP (P++x::D)):has (P++x::D) n=true:=by unfold has;rw [aA9 hn h,List.getElem?_append_right (Nat.le_refl _),Nat.sub_self];simp [hn]
theorem aLs {P D:List S98} {n:List UInt8} (a:∀ y∈P,Op.bytesLess y.f0 n=true) (b:∀ y∈D,Op.bytesLess n y.f0=true):pos (P++D) n=P.length :=
 aT3 a λy c=>aGx (b y (List.mem_of_mem_head? c))
theorem aC1 {P D:List S98} {n:List UInt8} (b:∀ y∈P,Op.bytesLess y.f0 n=true) (a:∀ y∈D,Op.bytesLess n y.f0=true):has (P++D) n=false:=by
 unfold has;rw [aLs b a,List.getElem?_append_right (Nat.le_refl _),Nat.sub_self];cases D with
 | nil=>rfl
 | cons y D =>
  show (y.f0==n)=false;rw [beq_eq_false_iff_ne];exact λe=>aEi (a y (List.mem_cons_self ..)) e.symm
theorem aBl {l:List S98} (h:lP l) (n:List UInt8) :
  (∃ P x D,l=P++x::D/\x.f0=n)\/∃ P D,l=P++D/\(∀ y∈P,Op.bytesLess y.f0 n=true)/\∀ y∈D,Op.bytesLess n y.f0=true:=by
 have hp:=aT4 l n;have b:l=l.take (pos l n)++l.drop (pos l n):=(List.take_append_drop _ _).symm;have d:∀ y∈l.take (pos l n),Op.bytesLess y.f0 n=true:=by
  intro y a;obtain⟨j,c⟩:=List.getElem?_of_mem a;rw [List.getElem?_take] at c;split at c
  ·exact (aE0 h n c).2 (by assumption)
  ·cases c
 cases hd:l.drop (pos l n) with
 | nil=>rw [hd] at b;exact .inr ⟨_,[],b,d,λy a=>by cases a⟩
 | cons x D =>
  rw [hd] at b;have hx:l[pos l n]?=some x:=by
   have:(l.drop (pos l n))[0]?=some x:=by rw [hd];rfl
   rwa [List.getElem?_drop,Nat.add_zero] at this
  have g:Op.bytesLess x.f0 n=false:=by
   cases hb:Op.bytesLess x.f0 n with
   | false=>rfl
   | true=>have:=(aE0 h n hx).1 hb;omega
  by_cases e:x.f0=n
  ·exact .inl ⟨_,x,D,b,e⟩
  ·refine .inr ⟨_,x::D,b,d,?_⟩;have f:Op.bytesLess n x.f0=true:=by
    cases hb:Op.bytesLess n x.f0 with
    | true=>rfl
    | false=>exact absurd (aK2 g hb) e
   intro y a;rcases List.mem_cons.1 a with rfl | a
   ·exact f
   ·have hr:=h;rw [b] at hr;exact aEj f ((aAr hr).2 y a)
theorem aKd {P D:List S98} {x y:S98} (hn:x.f0=y.f0) (h:lP (P++x::D)):lP (P++y::D):=by
 obtain⟨e,f,c⟩:=List.pairwise_append.1 h;obtain⟨g,i⟩:=List.pairwise_cons.1 f;refine List.pairwise_append.2 ⟨e,List.pairwise_cons.2 ⟨λz hz=>hn▸g z hz,i⟩,λa d b hb=>?_⟩;rcases List.mem_cons.1 hb with rfl | hb
 ·rw [← hn];exact c a d x (List.mem_cons_self ..)
 ·exact c a d b (List.mem_cons_of_mem _ hb)
theorem aNs {P D:List S98} {y:S98} (h:lP (P++D)) (d:∀ z∈P,Op.bytesLess z.f0 y.f0=true) (e:∀ z∈D,Op.bytesLess y.f0 z.f0=true):lP (P++y::D):=by
 obtain⟨f,g,i⟩:=List.pairwise_append.1 h;refine List.pairwise_append.2 ⟨f,List.pairwise_cons.2 ⟨e,g⟩,λa c b hb=>?_⟩;rcases List.mem_cons.1 hb with rfl | hb
 ·exact d a c
 ·exact i a c b hb
theorem aRr {P D:List S98} {x:S98} (h:lP (P++x::D)):lP (P++D) :=
 h.sublist (List.Sublist.append_left (List.sublist_cons_self x D) P)
def used (l:List S98):Nat:=(l.map λx=>x.f1.length).sum
theorem uE (P D:List S98):used (P++D)=used P+used D:=by simp [used]
theorem yD (x:S98) (D:List S98):used (x::D)=x.f1.length+used D:=by simp [used]
theorem aUr {l:List S98} {x:S98} (h:x∈l):x.f1.length<=used l:=by
 induction l with
 | nil=>cases h
 | cons y l ih =>
  rw [yD];rcases List.mem_cons.1 h with rfl | h
  ·omega
  ·have:=ih h;omega
theorem aKm (s:S77) (hl:s.f0.length<4611686018427387904) (hu:used s.f0<4611686018427387904):∀ (m i:Nat),i+m=s.f0.length->loop (λq:Int×Int=>dP s q.1 q.2) ((used (s.f0.take i):Int),(i:Int))=some (used s.f0:Int)
 | 0,i,hi=>by refine bC ?_;show dP s _ (i:Int)=_;unfold dP;rw [if_neg (by simp only [decide_eq_true_eq];omega),List.take_of_length_le (by omega)]
 | m+1,i,hi=>by
  have hx:=List.getElem?_eq_getElem (l:=s.f0) (i:=i) (by omega);have ht:s.f0.take (i+1)=s.f0.take i++[s.f0[i]]:=by rw [List.take_add_one,hx];rfl
  have hle:used (s.f0.take (i+1))<=used s.f0:=by have:=uE (s.f0.take (i+1)) (s.f0.drop (i+1));rw [List.take_append_drop] at this;omega
  have hs:used (s.f0.take (i+1))=used (s.f0.take i)+(s.f0[i]).f1.length:=by rw [ht,uE,yD];rfl
  have:dP s (used (s.f0.take i):Int) (i:Int)=some (.inl ((used (s.f0.take (i+1)):Int),((i+1:Nat):Int))):=by unfold dP;rw [if_pos (by simp only [decide_eq_true_eq];omega),bG rfl hx];simp only [Option.bind_some,lt_];rw [w64 (by omega) (by omega),w64 (by omega) (by omega),hs];rfl
  rw [cH (b:=λq:Int×Int=>dP s q.1 q.2) this];exact aKm s hl hu m (i+1) (by omega)
theorem aU8 (s:S77) (hl:s.f0.length<4611686018427387904) (hu:used s.f0<4611686018427387904):oN (some s)=some (used s.f0:Int):=by show (loop (λq:Int×Int=>dP s q.1 q.2) (0,0)).bind _=_;have h:=aKm s hl hu s.f0.length 0 (by omega);rw [List.take_zero] at h;rw [show ((0:Int),(0:Int))=((used []:Int),((0:Nat):Int)) from rfl,h];rfl
theorem aIh (s:S77) (hl:s.f0.length<1099511627776):∀ (m i:Nat),i+m=s.f0.length->loop (λq:List (List UInt8)×Int=>dO s q.1 q.2) ((s.f0.take i).map S98.f0,(i:Int))=some (s.f0.map S98.f0)
 | 0,i,hi=>by refine bC ?_;show dO s _ (i:Int)=_;unfold dO;rw [if_neg (by simp only [decide_eq_true_eq];omega),List.take_of_length_le (by omega)]
 | m+1,i,hi=>by
  have hx:=List.getElem?_eq_getElem (l:=s.f0) (i:=i) (by omega);have ht:s.f0.take (i+1)=s.f0.take i++[s.f0[i]]:=by rw [List.take_add_one,hx];rfl
  have:dO s ((s.f0.take i).map S98.f0) (i:Int)=some (.inl ((s.f0.take (i+1)).map S98.f0,((i+1:Nat):Int))):=by unfold dO;rw [if_pos (by simp only [decide_eq_true_eq];omega),bG rfl hx];simp only [Option.bind_some,lt_];rw [bN (by simp only [List.length_map,List.length_take,List.length_singleton];omega),w64 (by omega) (by omega),ht,List.map_append];rfl
  rw [cH (b:=λq:List (List UInt8)×Int=>dO s q.1 q.2) this];exact aIh s hl m (i+1) (by omega)
theorem aU6 (s:S77) (hl:s.f0.length<1099511627776):oK (some s)=some (s.f0.map S98.f0):=by show (loop (λq:List (List UInt8)×Int=>dO s q.1 q.2) ([],0)).bind _=_;have h:=aIh s hl s.f0.length 0 (by omega);rw [List.take_zero] at h;rw [show (([]:List (List UInt8)),(0:Int))=(([]:List S98).map S98.f0,((0:Nat):Int)) from rfl,h];rfl
def get (l:List S98) (n:List UInt8):Option S98:=l.find? λx=>x.f0==n
def put:List S98->S98->List S98
 | [],x=>[x]
 | y::l,x=>if Op.bytesLess y.f0 x.f0=true then y::put l x else if y.f0=x.f0 then x::l else x::y::l
def del (l:List S98) (n:List UInt8):List S98:=l.filter λx => !(x.f0==n)
theorem uY {P D:List S98} {x:S98} {n:List UInt8} (hn:x.f0=n) (h:lP (P++x::D)):get (P++x::D) n=some x:=by subst hn;unfold get;rw [List.find?_append,List.find?_eq_none.2 (λy a=>by simpa using aEi ((aAr h).1 y a))];simp
theorem xT {P D:List S98} {n:List UInt8} (a:∀ y∈P,Op.bytesLess y.f0 n=true) (b:∀ y∈D,Op.bytesLess n y.f0=true):get (P++D) n=none:=by
 unfold get;rw [List.find?_eq_none];intro y c;rcases List.mem_append.1 c with h | h
 ·simpa using aEi (a y h)
 ·simpa using λe=>aEi (b y h) e.symm
theorem aO4:∀ {P D:List S98} {x:S98},(∀ y∈P,Op.bytesLess y.f0 x.f0=true)->put (P++D) x=P++put D x
 | [],D,x,h=>rfl
 | y::P,D,x,h=>by show put (y::(P++D)) x=_;rw [put,if_pos (h y (List.mem_cons_self ..)),aO4 λz hz=>h z (List.mem_cons_of_mem _ hz)];rfl
theorem aBa {P D:List S98} {x y:S98} (hn:x.f0=y.f0) (h:lP (P++x::D)):put (P++x::D) y=P++y::D:=by rw [aO4 λz hz=>hn▸(aAr h).1 z hz,put,if_neg (by rw [hn,yJ];simp),if_pos hn]
theorem aDc {P D:List S98} {y:S98} (a:∀ z∈P,Op.bytesLess z.f0 y.f0=true) (b:∀ z∈D,Op.bytesLess y.f0 z.f0=true):put (P++D) y=P++y::D:=by
 rw [aO4 a];congr 1;cases D with
 | nil=>rfl
 | cons z D =>
  have:=b z (List.mem_cons_self ..);rw [put,if_neg (by rw [aGx this];simp),if_neg λe=>aEi this e.symm]
theorem aG2 {P D:List S98} {x:S98} {n:List UInt8} (hn:x.f0=n) (h:lP (P++x::D)):del (P++x::D) n=P++D:=by
 subst hn;unfold del;rw [List.filter_append,List.filter_cons_of_neg (by simp),List.filter_eq_self.2,List.filter_eq_self.2]
 ·intro y a;simpa using λe:y.f0=x.f0=>aEi ((aAr h).2 y a) e.symm
 ·intro y a;simpa using aEi ((aAr h).1 y a)
theorem aPu {P D:List S98} {n:List UInt8} (a:∀ y∈P,Op.bytesLess y.f0 n=true) (b:∀ y∈D,Op.bytesLess n y.f0=true):del (P++D) n=P++D:=by
 unfold del;rw [List.filter_eq_self];intro y c;rcases List.mem_append.1 c with h | h
 ·simpa using aEi (a y h)
 ·simpa using λe:y.f0=n=>aEi (b y h) e.symm
theorem aG8 {l:List S98} {x y:S98} (h:y∈put l x):y=x\/y∈l:=by
 induction l with
 | nil=>exact .inl (by simpa [put] using h)
 | cons z l ih =>
  unfold put at h;split at h
  ·rcases List.mem_cons.1 h with rfl | h
   ·exact .inr (List.mem_cons_self ..)
   ·rcases ih h with h | h
    ·exact .inl h
    ·exact .inr (List.mem_cons_of_mem _ h)
  ·split at h
   ·rcases List.mem_cons.1 h with rfl | h
    ·exact .inl rfl
    ·exact .inr (List.mem_cons_of_mem _ h)
   ·rcases List.mem_cons.1 h with rfl | h
    ·exact .inl rfl
    ·exact .inr h
theorem aNn {l:List S98} (h:lP l) (x:S98):lP (put l x):=by
 rcases aBl h x.f0 with ⟨P,y,D,rfl,a⟩ | ⟨P,D,rfl,b,c⟩
 ·rw [aBa a h];exact aKd a h
 ·rw [aDc b c];exact aNs h b c
theorem yQ {l:List S98} (h:lP l) (n:List UInt8):lP (del l n):=List.Pairwise.filter _ h
theorem xU {l:List S98} {n:List UInt8} {x:S98} (h:get l n=some x):x∈l/\x.f0=n:=⟨List.mem_of_find?_eq_some h,by simpa using List.find?_some h⟩
theorem aG1 {l:List S98} {n:List UInt8} {x:S98} (h:x∈del l n):x∈l:=(List.mem_filter.1 h).1
theorem xV {l:List S98} (h:lP l) (x:S98) (n:List UInt8):get (put l x) n=if x.f0=n then some x else get l n:=by
 have e:∀ P D:List S98,x.f0≠n->get (P++x::D) n=get (P++D) n:=by intro P D a;unfold get;rw [List.find?_append,List.find?_append,List.find?_cons_of_neg (by simpa using a)]
 rcases aBl h x.f0 with ⟨P,y,D,rfl,b⟩ | ⟨P,D,rfl,c,d⟩
 ·rw [aBa b h];split
  ·rename_i e;exact uY e (aKd b h)
  ·rename_i a;rw [e P D a];unfold get;rw [List.find?_append,List.find?_append,List.find?_cons_of_neg (by simpa [b] using a)]
 ·rw [aDc c d];split
  ·rename_i e;exact uY e (aNs h c d)
  ·rename_i a;exact e P D a
theorem aC0 {l:List S98} (h:lP l) (m n:List UInt8):get (del l m) n=if m=n then none else get l n:=by
 unfold get del;split
 ·rename_i e;subst e;rw [List.find?_eq_none];intro x hx;simpa using (List.mem_filter.1 hx).2
 ·rename_i a;rw [List.find?_filter];congr 1
  funext x
  by_cases hx:x.f0=n
  ·simp [hx];exact λe=>a e.symm
  ·simp [hx]
theorem aCn {l:List S98} (h:lP l) (x:S98):used (put l x)+((get l x.f0).getD ⟨x.f0,[],0⟩).f1.length=used l+x.f1.length:=by
 rcases aBl h x.f0 with ⟨P,y,D,rfl,a⟩ | ⟨P,D,rfl,b,c⟩
 ·rw [aBa a h,uY a h];simp only [uE,yD,Option.getD_some];omega
 ·rw [aDc b c,xT b c];simp only [uE,yD,Option.getD_none,List.length_nil];omega
theorem aI3 {l:List S98} (h:lP l) (n:List UInt8):used (del l n)+((get l n).getD ⟨n,[],0⟩).f1.length=used l:=by
 rcases aBl h n with ⟨P,y,D,rfl,a⟩ | ⟨P,D,rfl,b,c⟩
 ·rw [aG2 a h,uY a h];simp only [uE,yD,Option.getD_some];omega
 ·rw [aPu b c,xT b c];rfl
theorem aEu {l:List S98} (h:lP l) (x:S98):(put l x).length=if (get l x.f0).isSome then l.length else l.length+1:=by
 rcases aBl h x.f0 with ⟨P,y,D,rfl,a⟩ | ⟨P,D,rfl,b,c⟩
 ·rw [aBa a h,uY a h];simp
 ·rw [aDc b c,xT b c];simp;omega
theorem aLk {l:List S98} (h:lP l) (n:List UInt8):(del l n).length+(if (get l n).isSome then 1 else 0)=l.length:=by
 rcases aBl h n with ⟨P,y,D,rfl,a⟩ | ⟨P,D,rfl,b,c⟩
 ·rw [aG2 a h,uY a h];simp;omega
 ·rw [aPu b c,xT b c];simp
def step (s:S77):S77:=⟨s.f0,s.f1,if 0<s.f2 then s.f2 - 1 else s.f2,if 0<s.f2 then s.f2 - 1==0 else s.f3,s.f4+1⟩
structure SI (k:Nat) (s:S77):Prop where
 rise:lP s.f0
 form:∀ x∈s.f0,sY x.f0=true
 len:s.f0.length<=500
 room:1<=s.f1/\s.f1<=16777216
 use:(used s.f0:Int)<=s.f1
 sure:∀ x∈s.f0,0<=x.f2/\x.f2<=x.f1.length
 byt:∀ x∈s.f0,∀ b∈x.f1,0<=b/\b<256
 armed:0<=s.f2/\s.f2<=9223372036854775807
 ops:0<=s.f4/\s.f4<=k
def tY (s:S77) (n:List UInt8):Int:=if sY n=true then (if s.f3=true then 9 else 0) else 1
section
variable {k:Nat} {s:S77} {n:List UInt8}
theorem SI.find (h:SI k s) (n:List UInt8):eN s n=some ((pos s.f0 n:Int),has s.f0 n):=aP3 s h.rise (by have:=h.len;omega) n
theorem SI.one (h:SI k s) {x:S98} (hx:x∈s.f0):(x.f1.length:Int)<=16777216:=by have:=aUr hx;have:=h.use;have:=h.room;omega
theorem SI.Used (h:SI k s):oN (some s)=some (used s.f0:Int):=aU8 s (by have:=h.len;omega) (by have:=h.use;have:=h.room;omega)
theorem SI.Names (h:SI k s):oK (some s)=some (s.f0.map S98.f0):=aU6 s (by have:=h.len;omega)
theorem SI.begin (h:SI k s) (hk:k<4611686018427387904):gU s=some (!(step s).f3,step s):=by
 have a:=h.armed;have b:=h.ops;unfold gU step;rw [lt_,w64 (n:=s.f4+1) (by omega) (by omega)];by_cases c:0<s.f2
 ·rw [if_pos (by simpa using c),lt_,w64 (n:=s.f2 - 1) (by omega) (by omega)];simp only [if_pos c];rfl
 ·rw [if_neg (by simpa using c)];simp only [if_neg c];rfl
theorem SI.stepped (h:SI k s):SI (k+1) (step s):=by
 refine⟨h.rise,h.form,h.len,h.room,h.use,h.sure,h.byt,?_,?_⟩
 ·have:=h.armed;simp only [P.step];split <;> omega
 ·have:=h.ops;simp only [P.step];omega
theorem SI.mono (h:SI k s) {a:Nat} (hk:k<=a):SI a s:=⟨h.rise,h.form,h.len,h.room,h.use,h.sure,h.byt,h.armed,by have:=h.ops;omega⟩
theorem aC4 (s:S77) (hn:n.length<4611686018427387904):cQ (some s) n=some (tY s n):=by
 show (rE n).bind _=_;rw [aPk n hn];simp only [Option.bind_some];unfold tY;cases sY n with
 | true=>cases s.f3 <;> rfl
 | false=>rfl
theorem aSr (a:List Int) (h:a.length<=140737488355328):dG a=some a:=by
 unfold dG;rw [bN (by simp only [List.length_nil];omega)];cases a with
 | nil=>simp [tA]
 | cons b a=>simp [tA]
def aGm (s:S77) (n:List UInt8):List Int×Int:=if tY s n=0 then (match get s.f0 n with | some x=>(x.f1,0) | none=>([],5)) else ([],tY s n)
theorem SI.Read (h:SI k s) (hn:n.length<4611686018427387904):oL (some s) n=some (aGm s n):=by
 show (cQ (some s) n).bind _=_;rw [aC4 s hn];simp only [Option.bind_some];unfold aGm;by_cases c:tY s n=0
 ·rw [if_neg (by simpa using c),if_pos c,h.find];simp only [Option.bind_some];have hr:=h.rise;have a:=λx=>h.one (x:=x);rcases aBl hr n with ⟨P,x,D,e,hx⟩ | ⟨P,D,e,b,d⟩
  ·rw [e] at hr a ⊢;have f:=a x (by simp);rw [aC2 hx hr,aA9 hx hr,uY hx hr,if_neg (by simp),bG rfl (show (P++x::D)[P.length]?=some x by simp)];simp only [Option.bind_some];rw [aSr _ (by omega)];rfl
  ·rw [e] at hr ⊢;rw [aC1 b d,xT b d,if_pos (by simp)]
 ·rw [if_pos (by simpa using c),if_neg c]
def qY (s:S77) (n:List UInt8) (p:List Int):Int×S77 :=
 if tY s n=0 then
  if s.f1 - used s.f0<p.length\/((get s.f0 n).isNone=true/\500<=s.f0.length) then (10,s)
  else (if (P.step s).f3=true then 9 else 0,{ P.step s with f0:=put s.f0 ⟨n,((get s.f0 n).getD ⟨n,[],0⟩).f1++p,((get s.f0 n).getD ⟨n,[],0⟩).f2⟩ })
 else (tY s n,s)
theorem aSh {y:Int×Bool} {b:Bool} {p:List Int} (h:b=true):eE n p s y b=some (10,some s):=by subst h;rfl
theorem aMj {l:List S98} {P D:List S98} {x:S98} {p:List Int} {b:Bool} {y:Bool} {r:S77} (hl:l=P++x::D) (hb:x.f1.length+p.length<=140737488355328) :
  gY p ((P.length:Int),b) (y,r) l=some (if y=true then 0 else 9,some ⟨P++⟨x.f0,x.f1++p,x.f2⟩::D,r.f1,r.f2,r.f3,r.f4⟩):=by
 subst hl;unfold gY;rw [bG rfl (show (P++x::D)[P.length]?=some x by simp)];simp only [Option.bind_some];rw [bN (by omega),Int.toNat_natCast,show (P++x::D).set P.length (⟨x.f0,x.f1++p,x.f2⟩:S98)=P++⟨x.f0,x.f1++p,x.f2⟩::D by simp];cases y <;> rfl
theorem SI.Append (h:SI k s) (hk:k<4611686018427387904) (hn:n.length<4611686018427387904) (p:List Int):pH (some s) n p=some ((qY s n p).1,some (qY s n p).2):=by
 have hu:=h.use;have l:=h.room;have hlen:=h.len;show (cQ (some s) n).bind _=_;rw [aC4 s hn];simp only [Option.bind_some];unfold qY;by_cases c:tY s n=0
 ·rw [if_neg (by simpa using c),if_pos c,h.find];simp only [Option.bind_some];rw [h.Used];simp only [Option.bind_some];rw [lt_,w64 (by omega) (by omega)];by_cases c1:s.f1 - used s.f0<p.length
  ·rw [if_pos (by simpa using c1),if_pos (.inl c1),aSh rfl]
  ·rw [if_neg (by simpa using c1)];have hb:=h.begin hk;have hr:=h.rise;have i:=λx=>h.one (x:=x);rcases aBl hr n with ⟨P,x,D,e,hx⟩ | ⟨P,D,e,a,b⟩
   ·rw [e] at hr;have m:=i x (by rw [e];simp);have f:has s.f0 n=true:=by rw [e];exact aC2 hx hr
    have g:pos s.f0 n=P.length:=by rw [e];exact aA9 hx hr
    have d:get s.f0 n=some x:=by rw [e];exact uY hx hr
    rw [f,g,if_neg (by simp)];unfold eE;rw [if_neg (by simp),hb];simp only [Option.bind_some];rw [if_neg (by simp),d,if_neg (by simp [c1]),show (step s).f0=P++x::D from e,aMj rfl (by omega),e,Option.getD_some,aBa hx hr];subst hx;cases (step s).f3 <;> rfl
   ·rw [e] at hr;have f:has s.f0 n=false:=by rw [e];exact aC1 a b
    have g:pos s.f0 n=P.length:=by rw [e];exact aLs a b
    have d:get s.f0 n=none:=by rw [e];exact xT a b
    rw [f,g,if_pos (by simp)];by_cases c2:500<=s.f0.length
    ·rw [aSh (by simp;omega),d,if_pos (by simp [c2])]
    ·unfold eE;rw [if_neg (by simp;omega),hb];simp only [Option.bind_some];have hl:s.f0.length=P.length+D.length:=by rw [e];simp
     have j:aOw (step s).f0 (P.length:Int) [(⟨n,[],0⟩:S98)]=some (P++⟨n,[],0⟩::D):=by unfold aOw;rw [if_pos ⟨by omega,by show (P.length:Int)<=(s.f0.length:Int);omega,by simp,by show (s.f0.length+1) * 48<=_;omega⟩,show (step s).f0=P++D from e,Int.toNat_natCast,List.take_left,List.drop_left];simp
     rw [if_pos (by simp),j];simp only [Option.bind_some];rw [d,if_neg (by simp [c1];omega),aMj rfl (by simp only [List.length_nil];omega),e,Option.getD_none,aDc a b];cases (step s).f3 <;> rfl
 ·rw [if_pos (by simpa using c),if_neg c]
end
section
variable {k:Nat} {s:S77} {n:List UInt8}
def aB3 (s:S77) (n:List UInt8) (f:S98->List S98):Int×S77 :=
 if tY s n=0 then
  match get s.f0 n with
  | none=>(5,s)
  | some x=>if (step s).f3=true then (9,step s) else (0,{ step s with f0:=f x })
 else (tY s n,s)
def aDo (s:S77) (n:List UInt8):Int×S77:=aB3 s n λx=>put s.f0 ⟨x.f0,x.f1,x.f1.length⟩
def uF (s:S77) (n:List UInt8):Int×S77:=aB3 s n λx=>del s.f0 n
def aPa (s:S77) (a b:List UInt8):Int×S77 :=
 if sY a=true then if tY s b=0 then aB3 s a λx=>put (del s.f0 a) ⟨b,x.f1,x.f2⟩ else (tY s b,s) else (1,s)
theorem SI.Sync (h:SI k s) (hk:k<4611686018427387904) (hn:n.length<4611686018427387904):oM (some s) n=some ((aDo s n).1,some (aDo s n).2):=by
 show (nE n s).bind _=_;unfold nE aDo aB3;rw [aC4 s hn];simp only [Option.bind_some];by_cases c:tY s n=0
 ·rw [if_neg (by simpa using c),if_pos c,h.find];simp only [Option.bind_some];have hb:=h.begin hk;have hr:=h.rise;rcases aBl hr n with ⟨P,x,D,e,hx⟩ | ⟨P,D,e,d,f⟩
  ·rw [e] at hr;have a:has s.f0 n=true:=by rw [e];exact aC2 hx hr
   have g:pos s.f0 n=P.length:=by rw [e];exact aA9 hx hr
   have b:get s.f0 n=some x:=by rw [e];exact uY hx hr
   rw [a,g,b,if_neg (by simp),hb];simp only [Option.bind_some];cases c3:(step s).f3 with
   | true=>rfl
   | false =>
    unfold pL;rw [if_neg (by simp),if_neg (by simp),bG rfl (show (step s).f0[P.length]?=some x by rw [show (step s).f0=P++x::D from e];simp)];simp only [Option.bind_some];rw [e,aBa (x:=x) (y:=⟨x.f0,x.f1,x.f1.length⟩) rfl hr,show (step s).f0=P++x::D from e,Int.toNat_natCast,
     show (P++x::D).set P.length (⟨x.f0,x.f1,x.f1.length⟩:S98)=P++⟨x.f0,x.f1,x.f1.length⟩::D by simp, ← c3]
  ·rw [e] at hr;have a:has s.f0 n=false:=by rw [e];exact aC1 d f
   have b:get s.f0 n=none:=by rw [e];exact xT d f
   rw [a,b,if_pos (by simp)];rfl
 ·rw [if_pos (by simpa using c),if_neg c];rfl
theorem SI.Delete (h:SI k s) (hk:k<4611686018427387904) (hn:n.length<4611686018427387904):pJ (some s) n=some ((uF s n).1,some (uF s n).2):=by
 show (kY n s).bind _=_;unfold kY uF aB3;rw [aC4 s hn];simp only [Option.bind_some];by_cases c:tY s n=0
 ·rw [if_neg (by simpa using c),if_pos c,h.find];simp only [Option.bind_some];have hb:=h.begin hk;have hr:=h.rise;have hlen:=h.len;rcases aBl hr n with ⟨P,x,D,e,hx⟩ | ⟨P,D,e,d,f⟩
  ·rw [e] at hr;have a:has s.f0 n=true:=by rw [e];exact aC2 hx hr
   have g:pos s.f0 n=P.length:=by rw [e];exact aA9 hx hr
   have b:get s.f0 n=some x:=by rw [e];exact uY hx hr
   have hl:s.f0.length=P.length+(D.length+1):=by rw [e];simp
   rw [a,g,b,if_neg (by simp),hb];simp only [Option.bind_some];cases c3:(step s).f3 with
   | true=>rfl
   | false =>
    unfold nB aVl;rw [if_neg (by simp),if_neg (by simp),lt_,w64 (by omega) (by omega),if_pos ⟨by omega,by show (P.length:Int)<(s.f0.length:Int);omega,rfl⟩];simp only [Option.bind_some];rw [e,aG2 hx hr,show (step s).f0=P++x::D from e,Int.toNat_natCast,List.eraseIdx_append_of_length_le (Nat.le_refl _),Nat.sub_self,List.eraseIdx_cons_zero, ← c3]
  ·rw [e] at hr;have a:has s.f0 n=false:=by rw [e];exact aC1 d f
   have b:get s.f0 n=none:=by rw [e];exact xT d f
   rw [a,b,if_pos (by simp)];rfl
 ·rw [if_pos (by simpa using c),if_neg c];rfl
theorem SI.Rename (h:SI k s) (hk:k<4611686018427387904) {a b:List UInt8} (p:a.length<4611686018427387904) (hn:b.length<4611686018427387904):pK (some s) a b=some ((aPa s a b).1,some (aPa s a b).2):=by
 show (rE a).bind _=_;unfold aPa;rw [aPk a p];simp only [Option.bind_some];cases cf:sY a with
 | false=>rfl
 | true =>
  rw [if_neg (by simp),if_pos rfl,aC4 s hn];simp only [Option.bind_some];by_cases i:tY s b=0
  ·rw [if_neg (by simpa using i),if_pos i];unfold oA aB3;rw [aC4 s p];simp only [Option.bind_some];by_cases c:tY s a=0
   ·rw [if_neg (by simpa using c),if_pos c,h.find];simp only [Option.bind_some];have hb:=h.begin hk;have hr:=h.rise;have hlen:=h.len;rcases aBl hr a with ⟨P,x,D,e,hx⟩ | ⟨P,D,e,q,r⟩
    ·rw [e] at hr;have j:has s.f0 a=true:=by rw [e];exact aC2 hx hr
     have u:pos s.f0 a=P.length:=by rw [e];exact aA9 hx hr
     have l:get s.f0 a=some x:=by rw [e];exact uY hx hr
     have hl:s.f0.length=P.length+(D.length+1):=by rw [e];simp
     have t:(step s).f0=P++x::D:=e;rw [j,u,l,if_neg (by simp),hb];simp only [Option.bind_some];cases c3:(step s).f3 with
     | true=>rfl
     | false =>
      unfold nC;rw [if_neg (by simp),if_neg (by simp),bG rfl (show (step s).f0[P.length]?=some x by rw [t];simp)];simp only [Option.bind_some];have v:(step s).f0.eraseIdx (P.length:Int).toNat=P++D:=by rw [t,Int.toNat_natCast,List.eraseIdx_append_of_length_le (Nat.le_refl _),Nat.sub_self,List.eraseIdx_cons_zero]
      have w:del s.f0 a=P++D:=by rw [e];exact aG2 hx hr
      have f:lP (P++D):=aRr hr;rw [lt_,w64 (by omega) (by omega),bN rfl,v,w,aP3 _ f (by show (P++D).length<_;rw [List.length_append];omega)];simp only [Option.bind_some];rcases aBl f b with ⟨d,x',g,e',m⟩ | ⟨d,g,e',n,o⟩
      ·rw [e'] at f ⊢;rw [aC2 m f,aA9 m f,if_pos rfl,bG rfl (show (d++x'::g)[d.length]?=some x' by simp)];simp only [Option.bind_some];rw [aBa (y:=⟨b,x.f1,x.f2⟩) m f,Int.toNat_natCast,show (d++x'::g).set d.length (⟨b,x.f1,x.f2⟩:S98)=d++⟨b,x.f1,x.f2⟩::g by simp, ← c3]
      ·have z:P.length+D.length=d.length+g.length:=by rw [← List.length_append,e',List.length_append]
       rw [e'];rw [aC1 n o,aLs n o,if_neg (by simp)];unfold aOw;rw [if_pos ⟨by omega,by rw [List.length_append];omega,by simp,by rw [List.length_append];simp only [List.length_singleton];omega⟩];simp only [Option.bind_some];rw [aDc (y:=⟨b,x.f1,x.f2⟩) n o,Int.toNat_natCast,List.take_left,List.drop_left, ← c3];simp
    ·rw [e] at hr;have j:has s.f0 a=false:=by rw [e];exact aC1 q r
     have l:get s.f0 a=none:=by rw [e];exact xT q r
     rw [j,l,if_pos (by simp)];rfl
   ·rw [if_pos (by simpa using c),if_neg c];rfl
  ·rw [if_pos (by simpa using i),if_neg i]
theorem aX0 (h:tY s n=0):sY n=true/\s.f3=false:=by
 unfold tY at h;split at h
 ·split at h
  ·cases h
  ·exact⟨by assumption,by simpa using (by assumption:¬ s.f3=true)⟩
 ·cases h
theorem SI.app (h:SI k s) {p:List Int} (hp:∀ b∈p,0<=b/\b<256):SI (k+1) (qY s n p).2:=by
 unfold qY;split
 ·rename_i c;split
  ·exact h.mono (Nat.le_succ k)
  ·rename_i c1;have hs:=h.stepped;have hu:=aCn h.rise ⟨n,((get s.f0 n).getD ⟨n,[],0⟩).f1++p,((get s.f0 n).getD ⟨n,[],0⟩).f2⟩;have hl:=aEu h.rise ⟨n,((get s.f0 n).getD ⟨n,[],0⟩).f1++p,((get s.f0 n).getD ⟨n,[],0⟩).f2⟩;have d:∀ y,y=(get s.f0 n).getD ⟨n,[],0⟩->(0<=y.f2/\y.f2<=y.f1.length)/\∀ b∈y.f1,0<=b/\b<256:=by
    intro y a;cases hg:get s.f0 n with
    | none=>rw [hg] at a;subst a;simp
    | some x=>rw [hg] at a;subst a;exact⟨h.sure _ (xU hg).1,h.byt _ (xU hg).1⟩
   obtain⟨f,e⟩:=d _ rfl;have hlen:=h.len;have g:=h.use;have i:=h.room;refine⟨aNn h.rise _,λx hx=>?_,?_,hs.room,?_,λx hx=>?_,λx hx=>?_,hs.armed,hs.ops⟩
   ·rcases aG8 hx with rfl | hx
    ·exact (aX0 c).1
    ·exact h.form x hx
   ·show (put s.f0 _).length<=500;rw [hl];split
    ·exact hlen
    ·rename_i hi;have hi':get s.f0 n=none:=by simpa using hi
     have:¬ 500<=s.f0.length:=λq=>c1 (.inr ⟨by rw [hi'];rfl,q⟩);omega
   ·show ((used (put s.f0 _):Nat):Int)<=s.f1;simp only [List.length_append] at hu;have:¬ s.f1 - used s.f0<p.length:=λq=>c1 (.inl q);omega
   ·rcases aG8 hx with rfl | hx
    ·simp only [List.length_append];omega
    ·exact h.sure x hx
   ·rcases aG8 hx with rfl | hx
    ·intro b hb;rcases List.mem_append.1 hb with hb | hb
     ·exact e b hb
     ·exact hp b hb
    ·exact h.byt x hx
 ·exact h.mono (Nat.le_succ k)
theorem SI.putS (h:SI k s) {l:List S98} (hl:lP l) (hs:∀ x∈l,x∈s.f0) (y:S98) (hf:sY y.f0=true) (hn:(put l y).length<=500) (hu:(used (put l y):Int)<=s.f1) (c:0<=y.f2/\y.f2<=y.f1.length) (hb:∀ b∈y.f1,0<=b/\b<256) {a:Int} (d:0<=a/\a<=9223372036854775807) {f:Bool} {o:Int} (e:0<=o/\o<=(k+1:Nat)) :
  SI (k+1) ⟨put l y,s.f1,a,f,o⟩:=by
 refine⟨aNn hl _,λx hx=>?_,hn,h.room,hu,λx hx=>?_,λx hx=>?_,d,e⟩
 all_goals rcases aG8 hx with rfl | hx
 ·exact hf
 ·exact h.form x (hs x hx)
 ·exact c
 ·exact h.sure x (hs x hx)
 ·exact hb
 ·exact h.byt x (hs x hx)
theorem SI.chg (h:SI k s) {f:S98->List S98} (hf:∀ x,get s.f0 n=some x->SI (k+1) { step s with f0:=f x }):SI (k+1) (aB3 s n f).2:=by
 unfold aB3;split
 ·split
  ·exact h.mono (Nat.le_succ k)
  ·rename_i x hx;split
   ·exact h.stepped
   ·exact hf x hx
 ·exact h.mono (Nat.le_succ k)
theorem SI.syn (h:SI k s):SI (k+1) (aDo s n).2:=by refine h.chg λx hx=>?_;obtain⟨hm,hn⟩:=xU hx;have hl:=aEu h.rise ⟨x.f0,x.f1,x.f1.length⟩;have hu:=aCn h.rise ⟨x.f0,x.f1,x.f1.length⟩;subst hn;simp only at hl hu;rw [hx] at hl hu;simp only [Option.isSome_some,if_true,Option.getD_some] at hl hu;exact h.putS h.rise (λ_ h=>h) ⟨x.f0,x.f1,x.f1.length⟩ (h.form x hm) (by rw [hl];exact h.len) (by have:=h.use;omega) ⟨by simp,by simp⟩ (h.byt x hm) h.stepped.armed h.stepped.ops
theorem SI.del (h:SI k s):SI (k+1) (uF s n).2:=by refine h.chg λx hx=>?_;have hl:=aLk h.rise n;have hu:=aI3 h.rise n;exact⟨yQ h.rise n,λy a=>h.form y (aG1 a),by show (P.del s.f0 n).length<=500;have:=h.len;omega,h.room,by show (used (P.del s.f0 n):Int)<=s.f1;have:=h.use;omega,λy a=>h.sure y (aG1 a),λy a=>h.byt y (aG1 a),h.stepped.armed,h.stepped.ops⟩
theorem SI.ren (h:SI k s) {a b:List UInt8}:SI (k+1) (aPa s a b).2:=by
 unfold aPa;split
 ·split
  ·rename_i c;refine h.chg λx hx=>?_;obtain⟨hm,hn⟩:=xU hx;have hl:=aLk h.rise a;have hu:=aI3 h.rise a;have d:=aEu (yQ h.rise a) ⟨b,x.f1,x.f2⟩;have e:=aCn (yQ h.rise a) ⟨b,x.f1,x.f2⟩;rw [hx] at hl hu;simp only [Option.isSome_some,if_true,Option.getD_some] at hl hu d e;have g:=h.len;have i:=h.use;exact h.putS (yQ h.rise a) (λy f=>aG1 f) ⟨b,x.f1,x.f2⟩ (aX0 c).1 (by rw [d];split <;> omega) (by omega) (h.sure x hm) (h.byt x hm) h.stepped.armed h.stepped.ops
  ·exact h.mono (Nat.le_succ k)
 ·exact h.mono (Nat.le_succ k)
end
def onS (l:List S98) (room:Int) (ops:Int):S77:=⟨l,room,0,false,ops⟩
theorem aPj {r:Int} (h:1<=r) (a:r<=16777216):xZ r=some (some (onS [] r 0),0):=by unfold xZ;rw [if_neg (by simp;omega)];unfold uW;rw [if_neg (by simp;omega)];rfl
theorem aYu {r:Int} (h:1<=r) (a:r<=16777216):SI 0 (onS [] r 0) :=
 ⟨List.Pairwise.nil,λx hx=>(by cases hx),Nat.zero_le _,⟨h,a⟩,by show ((0:Nat):Int)<=r;omega,λx hx=>(by cases hx),λx hx=>(by cases hx),⟨Int.le_refl 0,by show (0:Int)<=9223372036854775807;decide⟩,⟨Int.le_refl 0,Int.le_refl 0⟩⟩
structure AI (k i:Nat) (s:S77):Prop where
 si:SI i s
 room:s.f1=5000
 left:s.f2=(k:Int)+1 - i
 off:s.f3=decide (i=k+1)
 one:∃ p t,s.f0=[⟨[97],p,t⟩]/\p.length<=i
structure RI (n:Int) (i:Nat) (l:List S98) (ops:Int):Prop where
 si:SI (2 * i) (onS l n ops)
 len:l.length<=i
theorem aUp {x:Int} (h:gI .u8 x):0<=x/\x<256:=by unfold gI Lit.wf at h;simp only [Bool.and_eq_true,decide_eq_true_eq] at h;exact⟨h.1,Int.lt_of_le_of_lt h.2 (by decide)⟩
section
end
section
variable {k:Nat} {s:S77} {n:List UInt8}
end
section
variable {k:Nat} {s:S77} {n:List UInt8}
end
section
variable {k:Nat} {s:S77} {n:List UInt8}
theorem aDg {l:List Int} (h:∀ b∈l,0<=b/\b<256):stb (bts l)=l:=by
 induction l with
 | nil=>rfl
 | cons b l ih =>
  have hb:=h b (List.mem_cons_self ..);show ((UInt8.ofNat b.toNat).toNat:Int)::stb (bts l)=_;rw [ih λx hx=>h x (List.mem_cons_of_mem _ hx)];congr 1;rw [UInt8.toNat_ofNat'];omega
end
section
variable {k:Nat} {s:S77} {n:List UInt8}
end
theorem wC (a:Nat):IntKind.u32.wrap (a:Int)=((a % 4294967296:Nat):Int):=by rw [IntKind.wrap_u32];omega
theorem aNb {a b:Nat} (c:a<4294967296) (hb:b<4294967296):aA3 .u32 (a:Int) (b:Int)=((a &&& b:Nat):Int):=by unfold aA3;rw [fG,fG,wC];have h:a &&& b<4294967296:=Nat.lt_of_le_of_lt Nat.and_le_left c;simp only [BitVec.toNat_and,BitVec.toNat_ofNat,show IntKind.u32.bits=32 from rfl];rw [Nat.mod_eq_of_lt (show a<2 ^ 32 by omega),Nat.mod_eq_of_lt (show b<2 ^ 32 by omega),Nat.mod_eq_of_lt h]
theorem aLh {a b:Nat} (c:a<4294967296) (hb:b<4294967296):ior .u32 (a:Int) (b:Int)=((a ||| b:Nat):Int):=by unfold ior;rw [fG,fG,wC];have h:a ||| b<2 ^ 32:=Nat.or_lt_two_pow (show a<2 ^ 32 by omega) (show b<2 ^ 32 by omega);simp only [BitVec.toNat_or,BitVec.toNat_ofNat,show IntKind.u32.bits=32 from rfl];rw [Nat.mod_eq_of_lt (show a<2 ^ 32 by omega),Nat.mod_eq_of_lt (show b<2 ^ 32 by omega),Nat.mod_eq_of_lt (show a ||| b<4294967296 from h)]
theorem aB6 {a b:Nat} (c:a<4294967296) (hb:b<4294967296):aAf .u32 (a:Int) (b:Int)=((a ^^^ b:Nat):Int):=by unfold aAf;rw [fG,fG,wC];have h:a ^^^ b<2 ^ 32:=Nat.xor_lt_two_pow (show a<2 ^ 32 by omega) (show b<2 ^ 32 by omega);simp only [BitVec.toNat_xor,BitVec.toNat_ofNat,show IntKind.u32.bits=32 from rfl];rw [Nat.mod_eq_of_lt (show a<2 ^ 32 by omega),Nat.mod_eq_of_lt (show b<2 ^ 32 by omega),Nat.mod_eq_of_lt (show a ^^^ b<4294967296 from h)]
theorem aIc (a n:Nat) (h:n<=32):wL .u32 (a:Int) (n:Int)=((a * 2 ^ n % 4294967296:Nat):Int):=by unfold wL;rw [Int.toNat_natCast,show min n IntKind.u32.bits=n from Nat.min_eq_left h,aFc, ← Int.natCast_mul,wC]
theorem aAt {a b:Nat} (c:a<4294967296) (hb:b<4294967296):a ^^^ b<4294967296:=Nat.xor_lt_two_pow (n:=32) c hb
def s1 (c:Nat):Nat:=if c % 2=1 then (c / 2) ^^^ 3988292384 else c / 2
theorem bCr {c:Nat} (h:c<4294967296):s1 c<4294967296:=by
 unfold s1;split
 ·exact aAt (by omega) (by decide)
 ·omega
theorem aZs (a b:Nat):s1 (a ^^^ b)=s1 a ^^^ s1 b:=by
 unfold s1;have h:=Nat.xor_mod_two_eq_one (a:=a) (b:=b);rw [Nat.xor_div_two];by_cases c:a % 2=1 <;> by_cases hb:b % 2=1
 ·rw [if_neg (by rw [h];simp [c,hb]),if_pos c,if_pos hb];rw [show (a / 2 ^^^ 3988292384) ^^^ (b / 2 ^^^ 3988292384)=(a / 2 ^^^ b / 2) ^^^ (3988292384 ^^^ 3988292384) by
   rw [Nat.xor_assoc, ← Nat.xor_assoc 3988292384,Nat.xor_comm 3988292384 (b / 2),Nat.xor_assoc (b / 2), ← Nat.xor_assoc]]
  simp
 ·rw [if_pos (by rw [h];simp [c,hb]),if_pos c,if_neg hb,Nat.xor_assoc,Nat.xor_comm (b / 2), ← Nat.xor_assoc]
 ·rw [if_pos (by rw [h];simp [c,hb]),if_neg c,if_pos hb,Nat.xor_assoc]
 ·rw [if_neg (by rw [h];simp [c,hb]),if_neg c,if_neg hb]
theorem aWj (a:Nat):s1 (2 * a)=a:=by unfold s1;rw [if_neg (by omega)];omega
theorem aWi (a z:Nat):s1 (2 * a ^^^ z)=a ^^^ s1 z:=by rw [aZs,aWj]
def st (x:Nat):Nat->Nat->Nat
 | 0,c=>c
 | k+1,c=>s1 (st x k c ^^^ (x / 2 ^ k % 2))
theorem aYc (x:Nat) {c:Nat} (h:c<4294967296):∀ k,st x k c<4294967296
 | 0=>h
 | k+1=>bCr (aAt (aYc x h k) (by omega))
def tabN:List Nat:=[0,498536548,997073096,651767980,1994146192,1802195444,1303535960,1342533948,3988292384,4027552580,3604390888,3412177804,2607071920,2262029012,2685067896,3183342108]
theorem aZv:bX=tabN.map λn:Nat=>(n:Int):=by decide
def F4 (r m:Nat):Nat:=s1 (s1 (s1 (s1 (r ^^^ m / 1 % 2) ^^^ m / 2 % 2) ^^^ m / 4 % 2) ^^^ m / 8 % 2)
theorem aR6:∀ r<16,∀ m<16,tabN[r ^^^ m]?=some (F4 r m):=by decide +kernel
theorem aWk (c:Nat):c=(16 * (c / 16)) ^^^ (c % 16):=by
 apply Nat.eq_of_testBit_eq;intro i;rw [Nat.testBit_xor,show 16 * (c / 16)=2 ^ 4 * (c / 2 ^ 4) from rfl,show c % 16=c % 2 ^ 4 from rfl,Nat.testBit_two_pow_mul,Nat.testBit_mod_two_pow,Nat.testBit_div_two_pow];by_cases h:i<4
 ·simp [h,Nat.not_le.2 h]
 ·rw [show i - 4+4=i by omega];simp [h,Nat.le_of_not_lt h]
theorem nib (c m:Nat):s1 (s1 (s1 (s1 (c ^^^ m / 1 % 2) ^^^ m / 2 % 2) ^^^ m / 4 % 2) ^^^ m / 8 % 2)=(c / 16) ^^^ F4 (c % 16) m:=by have h:=aWk c;obtain⟨q,a⟩:∃ q,q=c / 16:=⟨_,rfl⟩;obtain⟨r,hr⟩:∃ r,r=c % 16:=⟨_,rfl⟩;rw [← a, ← hr] at h ⊢;rw [h];unfold F4;rw [Nat.xor_assoc,show 16 * q=2 * (8 * q) by omega,aWi,Nat.xor_assoc,show 8 * q=2 * (4 * q) by omega,aWi,Nat.xor_assoc,show 4 * q=2 * (2 * q) by omega,aWi,Nat.xor_assoc,aWi]
theorem st8 (x c:Nat) (hx:x<256):st x 8 c=(((c / 16) ^^^ F4 (c % 16) (x % 16)) / 16) ^^^ F4 (((c / 16) ^^^ F4 (c % 16) (x % 16)) % 16) (x / 16):=by
 rw [← nib c (x % 16), ← nib _ (x / 16)];show s1 (s1 (s1 (s1 (s1 (s1 (s1 (s1 (c ^^^ x / 2 ^ 0 % 2) ^^^ x / 2 ^ 1 % 2) ^^^ x / 2 ^ 2 % 2) ^^^ x / 2 ^ 3 % 2) ^^^ x / 2 ^ 4 % 2) ^^^ x / 2 ^ 5 % 2) ^^^ x / 2 ^ 6 % 2) ^^^ x / 2 ^ 7 % 2)=_;rw [show x / 2 ^ 0 % 2=x % 16 / 1 % 2 by omega,show x / 2 ^ 1 % 2=x % 16 / 2 % 2 by omega,show x / 2 ^ 2 % 2=x % 16 / 4 % 2 by omega,show x / 2 ^ 3 % 2=x % 16 / 8 % 2 by omega,
  show x / 2 ^ 4 % 2=x / 16 / 1 % 2 by omega,show x / 2 ^ 5 % 2=x / 16 / 2 % 2 by omega,show x / 2 ^ 6 % 2=x / 16 / 4 % 2 by omega,show x / 2 ^ 7 % 2=x / 16 / 8 % 2 by omega]
def aHr (c:Nat) (xs:List Int):Nat:=xs.foldl (λc x=>st x.toNat 8 c) c
theorem aG0:∀ (xs:List Int) {c:Nat},c<4294967296->aHr c xs<4294967296
 | [],_,h=>h
 | x::xs,c,h=>aG0 xs (aYc _ h 8)
theorem aRa (c:Nat) (xs:List Int) (x:Int):aHr c (xs++[x])=st x.toNat 8 (aHr c xs):=by simp [aHr]
theorem aXc {r m:Nat} (hr:r<16) (hm:m<16):at_ bX ((r ^^^ m:Nat):Int)=some ((F4 r m:Nat):Int):=by rw [aOc,aZv,List.getElem?_map,aR6 r hr m hm];rfl
theorem aYn (a b:Nat):(a ^^^ b) &&& 15=a % 16 ^^^ b % 16:=by rw [show 15=2 ^ 4 - 1 from rfl,Nat.and_two_pow_sub_one_eq_mod,Nat.xor_mod_two_pow]
theorem aXd {r m:Nat} (hr:r<16) (hm:m<16):F4 r m<4294967296:=by
 have:=aR6 r hr m hm;have h:∀ x∈tabN,x<4294967296:=by decide
 exact h _ (List.mem_of_getElem? this)
theorem aRm {xs:List Int} (hB:Bs xs) (hl:xs.length<2 ^ 60) {k:Nat} (hk:k<xs.length) {c:Nat} (hc:c<4294967296) :
  nI xs (c:Int) (k:Int)=some (.inl (((st (xs[k]'hk).toNat 8 c:Nat):Int),((k+1:Nat):Int))):=by
 obtain⟨x,hx⟩:∃ x,x=xs[k]'hk:=⟨_,rfl⟩;have f:=hB x (hx▸List.getElem_mem hk);obtain⟨b,rfl⟩:=Int.eq_ofNat_of_zero_le f.1;have hb:b<256:=by omega
 have hg:xs[k]?=some (b:Int):=by rw [hx];exact List.getElem?_eq_getElem hk
 rw [← hx,Int.toNat_natCast,st8 b c hb];unfold nI;simp only [lt_];rw [if_pos (by simp;omega),bG rfl hg];simp only [Option.bind_some];have e:(15:Int)=((15:Nat):Int):=rfl;have g:(4:Int)=((4:Nat):Int):=rfl;have hf:F4 (c % 16) (b % 16)<4294967296:=aXd (by omega) (by omega);have hd:c / 16 ^^^ F4 (c % 16) (b % 16)<4294967296:=aAt (by omega) hf;obtain⟨d,a⟩:∃ d,d=c / 16 ^^^ F4 (c % 16) (b % 16):=⟨_,rfl⟩;rw [← a] at hd ⊢;rw [wC,Nat.mod_eq_of_lt (by omega),aB6 hc (by omega),e,aNb (aAt hc (by omega)) (by decide),aYn,aXc (by omega) (by omega),g];simp only [Option.bind_some];rw [kZ _ _ (by decide),kZ _ _ (by decide),show c / 2 ^ 4=c / 16 from rfl,show b / 2 ^ 4=b / 16 from rfl,aB6 hf (by omega),Nat.xor_comm _ (c / 16), ← a,aB6 hd (by omega),
  aNb (aAt hd (by omega)) (by decide),aYn,show b / 16 % 16=b / 16 by omega,aXc (by omega) (by omega)]
 simp only [Option.bind_some];rw [kZ _ _ (by decide),show d / 2 ^ 4=d / 16 from rfl,aB6 (aXd (by omega) (by omega)) (by omega),Nat.xor_comm _ (d / 16),w64 (by omega) (by omega)];rfl
theorem aUn (c:Nat) {xs:List Int} {k:Nat} (hk:k<xs.length):aHr c (xs.take (k+1))=st (xs[k]'hk).toNat 8 (aHr c (xs.take k)):=by rw [List.take_add_one,List.getElem?_eq_getElem hk];exact aRa _ _ _
def crc (xs:List Int):Nat:=aHr 4294967295 xs ^^^ 4294967295
theorem aOj (xs:List Int):crc xs<4294967296:=aAt (aG0 xs (by decide)) (by decide)
theorem aGi {xs:List Int} (hB:Bs xs) (hl:xs.length<2 ^ 60):aAk xs=some ((crc xs:Nat):Int):=by
 have h:=iC (b:=λs:Int×Int=>nI xs s.1 s.2) (λk=>(((aHr 4294967295 (xs.take k):Nat):Int),(k:Int))) (t:=((aHr 4294967295 xs:Nat):Int)) xs.length (λk hk=>by
  show nI xs _ _=_;rw [aRm hB hl hk (aG0 _ (by decide)),aUn _ hk]) (by
  show nI xs ((aHr 4294967295 (xs.take xs.length):Nat):Int) (xs.length:Int)=_;unfold nI;rw [if_neg (by simp),List.take_length])
 unfold aAk;rw [show ((4294967295,0):Int×Int)=(((aHr 4294967295 (xs.take 0):Nat):Int),((0:Nat):Int)) from rfl,h];show some (aAf .u32 IntKind.u32.max _)=_;rw [show IntKind.u32.max=((4294967295:Nat):Int) by decide,aB6 (by decide) (aG0 _ (by decide)),Nat.xor_comm];rfl
def aBq (v:List Int):Nat:=(v.getD 0 0).toNat+256 * (v.getD 1 0).toNat+65536 * (v.getD 2 0).toNat+16777216 * (v.getD 3 0).toNat
theorem aP6 {v:List Int} (hB:Bs v) (h:4<=v.length):∃ a b c d:Nat,∃ r,v=(a:Int)::b::c::d::r/\a<256/\b<256/\c<256/\d<256:=by
 match v,h with
 | a::b::c::d::r,_ =>
  have e:=hB a (by simp);have hb:=hB b (by simp);have hc:=hB c (by simp);have hd:=hB d (by simp);obtain⟨a,rfl⟩:=Int.eq_ofNat_of_zero_le e.1;obtain⟨b,rfl⟩:=Int.eq_ofNat_of_zero_le hb.1;obtain⟨c,rfl⟩:=Int.eq_ofNat_of_zero_le hc.1;obtain⟨d,rfl⟩:=Int.eq_ofNat_of_zero_le hd.1;exact⟨a,b,c,d,r,rfl,by omega,by omega,by omega,by omega⟩
theorem aLo (a b c d:Nat) (r:List Int):aBq ((a:Int)::b::c::d::r)=a+256 * b+65536 * c+16777216 * d:=by simp [aBq]
theorem aV7 {v:List Int} (hB:Bs v) (h:4<=v.length):aBq v<4294967296:=by obtain⟨a,b,c,d,r,rfl,e,f,g,i⟩:=aP6 hB h;rw [aLo];omega
theorem at0 {α:Type} (a b c d:α) (r:List α):at_ (a::b::c::d::r) 0=some a/\at_ (a::b::c::d::r) 1=some b/\at_ (a::b::c::d::r) 2=some c/\at_ (a::b::c::d::r) 3=some d :=
 ⟨bG (n:=0) rfl rfl,bG (n:=1) rfl rfl,bG (n:=2) rfl rfl,bG (n:=3) rfl rfl⟩
theorem aCc {v:List Int} (hB:Bs v) (h:4<=v.length):uB v=some (aBq v:Int):=by obtain⟨a,b,c,d,r,rfl,i,j,k,l⟩:=aP6 hB h;obtain⟨e0,e,f,g⟩:=at0 (a:Int) (b:Int) (c:Int) (d:Int) r;unfold uB;simp only [lt_,e0,e,f,g,Option.bind_some];rw [show (8:Int)=((8:Nat):Int) from rfl,show (16:Int)=((16:Nat):Int) from rfl,show (24:Int)=((24:Nat):Int) from rfl];rw [wC a,wC b,wC c,wC d,Nat.mod_eq_of_lt (show a<4294967296 by omega),Nat.mod_eq_of_lt (show b<4294967296 by omega),Nat.mod_eq_of_lt (show c<4294967296 by omega),Nat.mod_eq_of_lt (show d<4294967296 by omega)];rw [aIc b 8 (by decide),aIc c 16 (by decide),aIc d 24 (by decide),Nat.mod_eq_of_lt (show b * 2 ^ 8<4294967296 by omega),Nat.mod_eq_of_lt (show c * 2 ^ 16<4294967296 by omega),Nat.mod_eq_of_lt (show d * 2 ^ 24<4294967296 by omega)];rw [aLh (by omega) (by omega),aA7 (show a<2 ^ 8 by omega),aLh (by omega) (by omega),aA7 (show a+b * 2 ^ 8<2 ^ 16 by omega),aLh (by omega) (by omega),aA7 (show a+b * 2 ^ 8+c * 2 ^ 16<2 ^ 24 by omega),aLo];congr 2;omega
theorem aGa {l:List Int} (h:l.length<=140737488355328):dG l=some l:=by unfold dG;rw [bN (by simp;omega)];unfold tA;cases l <;> simp
def aAj (b:List Int) (a:Int):Int×List Int×Int×Int :=
 if a<0\/(b.length:Int)<a then (0,[],0,1) else
 if (b.drop a.toNat).length<9 then (0,[],0,3) else
 if 1048576<aBq (b.drop a.toNat)\/(b.drop a.toNat).length - 9<aBq (b.drop a.toNat) then (0,[],0,3) else
 if crc ((b.drop a.toNat).take (5+aBq (b.drop a.toNat)))=aBq ((b.drop a.toNat).drop (5+aBq (b.drop a.toNat))) then
  ((b.drop a.toNat).getD 4 0,((b.drop a.toNat).take (5+aBq (b.drop a.toNat))).drop 5,a+aBq (b.drop a.toNat)+9,0) else (0,[],0,4)
theorem bB4 {v:List Int} (h:5<=v.length):at_ v 4=some (v.getD 4 0):=by refine bG (n:=4) rfl ?_;rw [List.getD_eq_getElem?_getD,List.getElem?_eq_getElem (by omega)];rfl
theorem aPs {α:Type} {xs:List α} {l:Nat} (h:l<=xs.length):jX xs (l:Int) (xs.length:Int)=some (xs.drop l):=by rw [qV h (Nat.le_refl _),List.take_length]
theorem xW {b:List Int} {a:Int} (hB:Bs b) (hl:b.length<2 ^ 40):sA b a=some (aAj b a):=by
 unfold sA aAj;by_cases h0:a<0
 ·rw [if_pos (by simpa using h0),if_pos (.inl h0)];rfl
 rw [if_neg (by simpa using h0)];by_cases d:(b.length:Int)<a
 ·rw [if_pos (.inr d),show decide ((b.length:Int)<a)=true by simpa using d];rfl
 rw [if_neg (by omega),show decide ((b.length:Int)<a)=false by simpa using d];obtain⟨k,rfl⟩:=Int.eq_ofNat_of_zero_le (show 0<=a by omega);have c:=hB.drop k;have h:(b.drop k).length=b.length - k:=by simp
 have hc:=aPs (xs:=b) (l:=k) (by omega);rw [Int.toNat_natCast];obtain⟨v,i⟩:∃ v,v=b.drop k:=⟨_,rfl⟩;rw [← i] at c h hc ⊢;unfold vA;rw [if_neg (by simp),hc];simp only [Option.bind_some];by_cases e:v.length<9
 ·rw [if_pos (by simp;omega),if_pos e]
 rw [if_neg (by simp;omega),if_neg e,aCc c (by omega)];simp only [Option.bind_some];have g:=aV7 c (by omega);have j:=aOj (v.take (5+aBq v));obtain⟨n,hn⟩:∃ n,n=aBq v:=⟨_,rfl⟩;rw [← hn] at g j ⊢;by_cases m:1048576<n
 ·rw [if_pos (by simp;omega),if_pos (.inl m)];rfl
 rw [if_neg (by simp;omega),lt_,lt_,w64 (by omega) (by omega),w64 (by omega) (by omega)];by_cases o:v.length - 9<n
 ·rw [if_pos (.inr o),show decide ((v.length:Int) - 9<(n:Int))=true by simp;omega];rfl
 rw [if_neg (by omega),show decide ((v.length:Int) - 9<(n:Int))=false by simp;omega];unfold vB;rw [if_neg (by simp)];simp only [lt_];rw [w64 (n:=(n:Int)) (by omega) (by omega),w64 (n:=5+(n:Int)) (by omega) (by omega),show (5:Int)+(n:Int)=((5+n:Nat):Int) by omega,
  show jX v 0 ((5+n:Nat):Int)=some ((v.take (5+n)).drop 0) from qV (l:=0) (Nat.zero_le _) (by omega),List.drop_zero]
 simp only [Option.bind_some];rw [aPs (by omega)];simp only [Option.bind_some];rw [aGi (c.take _) (by simp;omega)];simp only [Option.bind_some];rw [aCc (c.drop _) (by simp;omega)];simp only [Option.bind_some];by_cases f:crc (v.take (5+n))=aBq (v.drop (5+n))
 ·rw [if_neg (by simp;omega),if_pos f,bB4 (by omega)];simp only [Option.bind_some];rw [show jX v 5 ((5+n:Nat):Int)=some ((v.take (5+n)).drop 5) from qV (l:=5) (by omega) (by omega)];simp only [Option.bind_some];rw [aGa (by simp;omega)];simp only [Option.bind_some];rw [w64 (n:=(k:Int)+((5+n:Nat):Int)) (by omega) (by omega),w64 (by omega) (by omega)];congr 4;omega
 ·rw [if_pos (by simp;omega),if_neg f]
theorem aT0 {b:List Int} {a:Int} (hB:Bs b):Bs (aAj b a).2.1/\(aAj b a).2.1.length<=1048576:=by
 unfold aAj
 repeat' split
 all_goals first
  | exact⟨Bs.nil,by simp⟩
  | exact⟨((hB.drop _).take _).drop _,by simp;omega⟩
def pTx:Nat->List Int->Option (List (List UInt8)×List Int)
 | 0,xs=>some ([],xs)
 | n+1,xs=>match pT 1048576 xs with
  | some (t,r)=>match pTx n r with
   | some (ts,r')=>some (t::ts,r')
   | none=>none
  | none=>none
theorem aQg {most:Int} {xs r:List Int} {t:List UInt8} (h:pT most xs=some (t,r)):t.length<=xs.length:=by
 unfold pT at h;split at h
 ·rename_i n r' he;obtain⟨_,p,hp,_⟩:=tG he;split at h
  ·cases h;rw [hp];simp [bts];omega
  ·cases h
 ·cases h
theorem aTz:∀ (n:Nat) {xs:List Int} {ts:List (List UInt8)} {r:List Int},Bs xs->pTx n xs=some (ts,r)->Bs r/\r.length<=xs.length/\ts.length=n/\∀ t∈ts,t.length<=xs.length
 | 0,xs,ts,r,hB,h=>by cases h;exact⟨hB,Nat.le_refl _,rfl,λt ht=>by cases ht⟩
 | n+1,xs,ts,r,hB,h=>by
  unfold pTx at h;split at h
  ·rename_i t g he;obtain⟨b,i⟩:=aQe hB he;split at h
   ·rename_i us j c;cases h;obtain⟨d,k,e,f⟩:=aTz n b c;refine⟨d,by omega,by simp [e],λq a=>?_⟩;rcases List.mem_cons.1 a with rfl | a
    ·exact aQg he
    ·have:=f q a;omega
   ·cases h
  ·cases h
theorem aJl:∀ (m k:Nat) (a:List (List Int)) (xs:List Int),Bs xs->xs.length<1099511627776->k+m=5->a.length=5 ->
  ∃ y,loop (λs:List Int×List (List Int)×Int=>gE s.1 s.2.1 s.2.2) (xs,a,(k:Int))=some y/\match pTx m xs with
   | some (ts,r)=>y=.inl (r,a.take k++ts.map stb)
   | none=>∃ s,y=.inr (.inr s)
 | 0,k,a,xs,hB,hl,hk,ha=>by
  refine⟨.inl (xs,a),bC ?_,?_⟩
  ·show gE xs a (k:Int)=_;unfold gE;rw [if_neg (by simp only [decide_eq_true_eq];omega)]
  ·show _=_;rw [List.take_of_length_le (by omega)];simp
 | m+1,k,a,xs,hB,hl,hk,ha=>by
  unfold pTx;rcases (aKz 1048576 hB (by omega)).cases with ⟨t,r,b,c⟩ | ⟨b,s,c⟩
  ·rw [b];obtain⟨d,g⟩:=aQe hB b;have h:=aQg b;obtain⟨y,f,hm⟩:=aJl m (k+1) (a.set k (stb t)) r d (by omega) (by omega) (by simpa using ha);have hx:=List.getElem?_eq_getElem (l:=a) (i:=k) (by omega);refine⟨y,(cH (s':=(r,a.set k (stb t),((k+1:Nat):Int))) ?_).trans f,?_⟩
   ·show gE xs a (k:Int)=_;unfold gE;rw [if_pos (by simp only [decide_eq_true_eq];omega),c];simp only [Option.bind_some,hF];rw [bN (by simp only [maxLen];omega),bG rfl hx];simp only [Option.bind_some];rw [lt_,w64 (by omega) (by omega)];rfl
   ·have e:(a.set k (stb t)).take (k+1)=a.take k++[stb t]:=by rw [List.take_add_one,List.getElem?_set_self (by omega),List.take_set_of_le (by omega)];rfl
    dsimp only;cases hq:pTx m r with
    | none=>rw [hq] at hm;exact hm
    | some z =>
     rw [hq] at hm;obtain⟨ts,r'⟩:=z;simp only at hm ⊢;rw [hm,e];simp
  ·rw [b];refine⟨.inr (.inr (s,a)),bC ?_,_,rfl⟩;show gE xs a (k:Int)=_;unfold gE;rw [if_pos (by simp only [decide_eq_true_eq];omega),c];rfl
def pW (x:S61) (k:Int):Bool:=decide (0<=x.f1)&&(decide (x.f1<k)&&(decide (-1099511627776<=x.f2)&&(decide (x.f2<=1099511627776)&&(decide ((x.f3.length:Int)<=32)&&decide (x.f0<1099511627776)))))
theorem aKv (x:S61) (k:Int):vT x k=some (pW x k):=by unfold vT pW;cases decide (0<=x.f1) <;> cases decide (x.f1<k) <;> cases decide (-1099511627776<=x.f2) <;> cases decide (x.f2<=1099511627776) <;> cases decide ((x.f3.length:Int)<=32) <;> rfl
def aDw (k:Int):List Int->List Int->List Int->List (List UInt8)->List Nat->Option (List S61)
 | a::as_,b::bs,c::cs,d::ds,e::es =>
  if pW ⟨IntKind.u64.wrap a,b,c,d,e⟩ k=true then (aDw k as_ bs cs ds es).map (⟨IntKind.u64.wrap a,b,c,d,e⟩::·) else none
 | _,_,_,_,_=>some []
theorem aKf (s:Int) (A B C:List Int) (D:List (List UInt8)) (F:List Nat) (i j k l m:Int) (hB:B.length=A.length) (hC:C.length=A.length) (f:D.length=A.length) (g:F.length=A.length) (hA:A.length<=4096) :
  ∀ (n q:Nat) (pre:List S61),q+n=A.length->pre.length=q ->
   loop (λz:List S61×Int=>lJ s (A,i) (B,j) (C,k) (D,l) (F,m) z.1 z.2) (pre,(q:Int))=some (match aDw s (A.drop q) (B.drop q) (C.drop q) (D.drop q) (F.drop q) with
    | some es=>.inl (pre++es)
    | none=>.inr ([],0,3))
 | 0,q,pre,hq,hp=>by rw [List.drop_of_length_le (show A.length<=q by omega)];refine bC ?_;show lJ s (A,i) (B,j) (C,k) (D,l) (F,m) pre (q:Int)=_;unfold lJ aDw;rw [if_neg (by simp only [decide_eq_true_eq];omega)];simp
 | n+1,q,pre,hq,hp=>by
  have gA:=List.getElem?_eq_getElem (l:=A) (i:=q) (by omega);have gB:=List.getElem?_eq_getElem (l:=B) (i:=q) (by omega);have gC:=List.getElem?_eq_getElem (l:=C) (i:=q) (by omega);have gD:=List.getElem?_eq_getElem (l:=D) (i:=q) (by omega);have gF:=List.getElem?_eq_getElem (l:=F) (i:=q) (by omega);rw [List.drop_eq_getElem_cons (show q<A.length by omega),List.drop_eq_getElem_cons (show q<B.length by omega),List.drop_eq_getElem_cons (show q<C.length by omega),List.drop_eq_getElem_cons (show q<D.length by omega),List.drop_eq_getElem_cons (show q<F.length by omega)];generalize A[q]=a at *;generalize B[q]=b at *;generalize C[q]=c at *;generalize D[q]=d at *;generalize F[q]=e at *;have hs:lJ s (A,i) (B,j) (C,k) (D,l) (F,m) pre (q:Int)=if pW ⟨IntKind.u64.wrap a,b,c,d,e⟩ s=true then some (.inl (pre++[⟨IntKind.u64.wrap a,b,c,d,e⟩],((q+1:Nat):Int))) else some (.inr (.inr ([],0,3))):=by unfold lJ;rw [if_pos (by simp only [decide_eq_true_eq];omega),bG rfl gA];simp only [Option.bind_some,lt_];rw [bG rfl gB,bG rfl gC,bG rfl gD,bG rfl gF];simp only [Option.bind_some,aKv];rw [bN (by simp;omega),w64 (by omega) (by omega)];cases pW ⟨IntKind.u64.wrap a,b,c,d,e⟩ s <;> rfl
  unfold aDw;by_cases hf:pW ⟨IntKind.u64.wrap a,b,c,d,e⟩ s=true
  ·rw [if_pos hf] at hs ⊢;rw [cH (s':=(pre++[⟨IntKind.u64.wrap a,b,c,d,e⟩],((q+1:Nat):Int))) hs,aKf s A B C D F i j k l m hB hC f g hA n (q+1) (pre++[(⟨IntKind.u64.wrap a,b,c,d,e⟩:S61)]) (by omega) (by simp [hp])];cases aDw s (A.drop (q+1)) (B.drop (q+1)) (C.drop (q+1)) (D.drop (q+1)) (F.drop (q+1)) <;> simp
  ·rw [if_neg hf] at hs ⊢;rw [bC (t:=.inr ([],0,3)) hs]
theorem aHw (l:List Int) (b:Int) (h:l.length<1099511627776):dI l b=some (decide (b∈l)):=by
 unfold dI fK;have key:∀ (m k:Nat),k+m=l.length->∃ y,loop (λs:Int=>bY l b s) (k:Int)=some y/\if b∈l.drop k then ∃ j:Nat,y=.inr (j:Int) else y=.inl ():=by
  intro m
  induction m with
  | zero =>
   intro k hk;refine⟨.inl (),bC ?_,?_⟩
   ·unfold bY;rw [if_neg (by simp only [decide_eq_true_eq];omega)]
   ·rw [List.drop_of_length_le (by omega),if_neg (by simp)]
  | succ m ih =>
   intro k hk;have c:k<l.length:=by omega
   have hx:=List.getElem?_eq_getElem c;have hd:l.drop k=l[k]::l.drop (k+1):=List.drop_eq_getElem_cons c;rw [hd];by_cases hb:b=l[k]
   ·refine⟨.inr (k:Int),bC ?_,?_⟩
    ·unfold bY;rw [if_pos (by simp only [decide_eq_true_eq];omega),bG rfl hx];simp only [Option.bind_some];rw [if_pos (by simpa using hb)]
    ·rw [if_pos (by rw [hb];exact List.mem_cons_self)];exact⟨k,rfl⟩
   ·obtain⟨y,a,hm⟩:=ih (k+1) (by omega);refine⟨y,(cH (s':=((k+1:Nat):Int)) ?_).trans a,?_⟩
    ·unfold bY;rw [if_pos (by simp only [decide_eq_true_eq];omega),bG rfl hx];simp only [Option.bind_some];rw [if_neg (by simpa using hb),lt_,w64 (by omega) (by omega)];rfl
    ·have he:(b∈l[k]::l.drop (k+1))=(b∈l.drop (k+1)):=propext ⟨λh=>(List.mem_cons.1 h).resolve_left hb,λh=>List.mem_cons_of_mem _ h⟩;simpa only [he] using hm
 obtain⟨y,a,hm⟩:=key l.length 0 (by omega);rw [show ((0:Nat):Int)=0 from rfl] at a;rw [a,List.drop_zero] at *;by_cases hb:b∈l
 ·rw [if_pos hb] at hm;obtain⟨j,rfl⟩:=hm;simp only [Option.bind_some];rw [show decide (0<=(j:Int))=true by simp,show decide (b∈l)=true by simpa using hb]
 ·rw [if_neg hb] at hm;subst hm;rw [show decide (b∈l)=false by simpa using hb];rfl
def evL (s:Int) (t0 f t2 t3 t4:List UInt8):Option (List S61) :=
 match vI (stb t0),vI (stb f),vI (stb t2),aKc (stb t3),aNr (stb t4) with
 | some a,some b,some c,some d,some e=>if b.length=a.length/\c.length=a.length/\d.length=a.length/\e.length=a.length then aDw s a b c d e else none
 | _,_,_,_,_=>none
def evR (b:List Int) (a s:Int):List S61×Int×Int :=
 if (aAj b a).2.2.2≠0 then ([],0,(aAj b a).2.2.2) else
 if (aAj b a).1≠101 then ([],0,3) else
 match pTx 5 (aAj b a).2.1 with
 | some ([t0,t1,t2,t3,t4],[])=>match evL s t0 t1 t2 t3 t4 with
  | some l=>(l,(aAj b a).2.2.1,0)
  | none=>([],0,3)
 | _=>([],0,3)
theorem aG9 (t:List UInt8):Bs (stb t):=λb hb=>by unfold stb at hb;obtain⟨c,_,rfl⟩:=List.mem_map.1 hb;have:=c.toNat_lt;omega
theorem xY (t:List UInt8):(stb t).length=t.length:=by simp [stb]
theorem aOq (s:Int) (y:Int×List Int×Int×Int) (t0 a t2 t3 t4:List UInt8) (h0:t0.length<1099511627776) (g:a.length<1099511627776) (h:t2.length<1099511627776) (i:t3.length<1099511627776) (j:t4.length<1099511627776) :
  nT s y [stb t0,stb a,stb t2,stb t3,stb t4] true=some (match evL s t0 a t2 t3 t4 with | some l=>(l,y.2.2.1,0) | none=>([],0,3)):=by
 unfold nT evL;rw [if_neg (by simp)];rw [show at_ [stb t0,stb a,stb t2,stb t3,stb t4] 0=some (stb t0) from rfl,show at_ [stb t0,stb a,stb t2,stb t3,stb t4] 1=some (stb a) from rfl,show at_ [stb t0,stb a,stb t2,stb t3,stb t4] 2=some (stb t2) from rfl,show at_ [stb t0,stb a,stb t2,stb t3,stb t4] 3=some (stb t3) from rfl,show at_ [stb t0,stb a,stb t2,stb t3,stb t4] 4=some (stb t4) from rfl];simp only [Option.bind_some];rw [xG (aG9 t0) (by rw [xY];omega)];simp only [Option.bind_some];rw [xG (aG9 a) (by rw [xY];omega)];simp only [Option.bind_some];rw [xG (aG9 t2) (by rw [xY];omega)];simp only [Option.bind_some];rw [aJa (aG9 t3) (by rw [xY];omega)];simp only [Option.bind_some];rw [aI9 (aG9 t4) (by rw [xY];omega),show (vI (stb t4)).bind aFx=aNr (stb t4) from rfl];simp only [Option.bind_some];rw [aHw _ _ (by simp)];simp only [Option.bind_some];cases ha:vI (stb t0) with
 | none=>simp [fF]
 | some A =>
 cases hb:vI (stb a) with
 | none=>simp [fF]
 | some B =>
 cases hc:vI (stb t2) with
 | none=>simp [fF]
 | some C =>
 cases hd:aKc (stb t3) with
 | none=>simp [fF]
 | some D =>
 cases he:aNr (stb t4) with
 | none=>simp [fF]
 | some F =>
 have f:=aKb ha;simp only;rw [if_neg (by simp)];by_cases b:B.length=A.length
 ·rw [if_neg (by simp [b])];by_cases c:C.length=A.length
  ·rw [if_neg (by simp [c])];by_cases d:D.length=A.length
   ·rw [if_neg (by simp [d])];by_cases e:F.length=A.length
    ·rw [if_pos ⟨b,c,d,e⟩,show ((F.length:Int) != (A.length:Int))=false by simp [e]];unfold fF;rw [if_neg (by simp),show ((0:Int))=((0:Nat):Int) from rfl,aKf s A B C D F _ _ _ _ _ b c d e f A.length 0 [] (by omega) rfl];simp only [List.drop_zero,List.nil_append];cases aDw s A B C D F <;> rfl
    ·rw [if_neg (by simp [e]),show ((F.length:Int) != (A.length:Int))=true by simp;omega];rfl
   ·rw [if_pos (by simp;omega),if_neg (by simp [d])];rfl
  ·rw [if_pos (by simp;omega),if_neg (by simp [c])];rfl
 ·rw [if_pos (by simp;omega),if_neg (by simp [b])];rfl
theorem aJd {b:List Int} {a s:Int} (hB:Bs b) (hl:b.length<2 ^ 40):yR b a s=some (evR b a s):=by
 unfold yR evR;rw [xW hB hl];simp only [Option.bind_some];obtain⟨hp,j⟩:=aT0 (a:=a) hB;generalize aAj b a=y at *;obtain⟨c,g,i,d⟩:=y;simp only at hp j ⊢;by_cases h:d=0
 ·rw [if_neg (show ¬ ((d != 0)=true) by simp [h]),if_neg (show ¬ (d≠0) by simp [h])];by_cases h0:c=101
  ·rw [if_pos (show (c==101)=true by simp [h0]),if_neg (show ¬ (c≠101) by simp [h0])];unfold vJ xR;obtain⟨z,hz,hm⟩:=aJl 5 0 [[],[],[],[],[]] g hp (by omega) rfl rfl;rw [show ((0:Nat):Int)=0 from rfl] at hz;simp only;rw [hz];simp only [Option.bind_some];cases hq:pTx 5 g with
   | none =>
    rw [hq] at hm;obtain⟨e,rfl⟩:=hm;rfl
   | some w =>
    obtain⟨ts,r⟩:=w;obtain⟨l,m,k,f⟩:=aTz 5 hp hq;rw [hq] at hm;simp only at hm;subst hm
    match ts,k,f with
    | [t0,t1,t2,t3,t4],_,f =>
     have hc:=aOq s (c,g,i,d) t0 t1 t2 t3 t4 (by have:=f t0 (by simp);omega) (by have:=f t1 (by simp);omega) (by have:=f t2 (by simp);omega) (by have:=f t3 (by simp);omega) (by have:=f t4 (by simp);omega);cases r with
     | nil=>exact hc
     | cons x r =>
      show nT s (c,g,i,d) [stb t0,stb t1,stb t2,stb t3,stb t4] ((((x::r).length:Nat):Int)==0)=_;rw [show ((((x::r).length:Nat):Int)==0)=false by simp;omega];rfl
  ·rw [if_neg (show ¬ ((c==101)=true) by simp [h0]),if_pos (show c≠101 by simp [h0])];rfl
 ·rw [if_pos (show (d != 0)=true by simp [h]),if_pos (show d≠0 by simp [h])]
def Up (l:List (List UInt8)):Prop:=l.Pairwise λa b=>Op.bytesLess a b=true
theorem Up.get {l:List (List UInt8)} (h:Up l) {i j:Nat} {a b:List UInt8} (c:l[i]?=some a) (hb:l[j]?=some b) (d:i<j):Op.bytesLess a b=true:=by obtain⟨hi,rfl⟩:=List.getElem?_eq_some_iff.1 c;obtain⟨e,rfl⟩:=List.getElem?_eq_some_iff.1 hb;exact List.pairwise_iff_getElem.1 h i j hi e d
theorem Up.nodup {l:List (List UInt8)} (h:Up l) {i j:Nat} {a:List UInt8} (c:l[i]?=some a) (hb:l[j]?=some a):i=j:=by
 rcases Nat.lt_trichotomy i j with b | b | b
 ·have:=h.get c hb b;rw [yJ] at this;cases this
 ·exact b
 ·have:=h.get hb c b;rw [yJ] at this;cases this
theorem Up.ext:∀ {l m:List (List UInt8)},Up l->Up m->(∀ x,x∈l↔x∈m)->l=m
 | [],[],_,_,_=>rfl
 | [],b::m,_,_,h=>absurd ((h b).2 List.mem_cons_self) (by simp)
 | a::l,[],_,_,h=>absurd ((h a).1 List.mem_cons_self) (by simp)
 | a::l,b::m,hl,hm,h=>by
  have d:=List.pairwise_cons.1 hl;have f:=List.pairwise_cons.1 hm;have i:a=b:=by
   rcases List.mem_cons.1 ((h a).1 List.mem_cons_self) with e | c
   ·exact e
   ·rcases List.mem_cons.1 ((h b).2 List.mem_cons_self) with e | j
    ·exact e.symm
    ·have k:=f.1 a c;have g:=d.1 b j;rw [aGx k] at g;cases g
  subst i;rw [Up.ext d.2 f.2 λx=>⟨λhx=>by
   rcases List.mem_cons.1 ((h x).1 (List.mem_cons_of_mem _ hx)) with e | c
   ·have:=d.1 x hx;rw [e,yJ] at this;cases this
   ·exact c,λhx=>by
   rcases List.mem_cons.1 ((h x).2 (List.mem_cons_of_mem _ hx)) with e | c
   ·have:=f.1 x hx;rw [e,yJ] at this;cases this
   ·exact c⟩]
theorem bB8 (x y:List UInt8):decide (x<=y) = !Op.bytesLess y x:=by
 rw [bytesLess_eq];by_cases h:y<x
 ·rw [decide_eq_true h,decide_eq_false (λa=>absurd h (List.not_lt.2 a))];rfl
 ·rw [decide_eq_false h,decide_eq_true (List.not_lt.1 h)];rfl
def uq (l:List (List UInt8)):List (List UInt8):=Lib.compact (l.mergeSort λx y=>decide (x<=y))
theorem aKj (l:List (List UInt8)):(l.mergeSort λx y=>decide (x<=y)).Pairwise λa b=>Op.bytesLess b a=false:=by
 have h:=List.pairwise_mergeSort (le:=λx y:List UInt8=>decide (x<=y)) (λa b c d e=>by
  simp only [decide_eq_true_eq] at d e ⊢;exact List.le_trans d e) (λa b=>by
  simp only [Bool.or_eq_true,decide_eq_true_eq];exact List.le_total a b) l
 exact h.imp λ{a b} hab=>by rw [bB8] at hab;simpa using hab
theorem aD3 (s:List (List UInt8)) (hs:s.Pairwise λa b=>Op.bytesLess b a=false):∀ m,m<=s.length->Up (Lib.compactUpTo s.toArray m)/\∀ x,x∈Lib.compactUpTo s.toArray m↔x∈s.take m
 | 0,_=>by have e:Lib.compactUpTo s.toArray 0=[]:=rfl;rw [e];exact⟨List.Pairwise.nil,λx=>by simp⟩
 | m+1,hm=>by
  obtain⟨f,c⟩:=aD3 s hs m (by omega);have hg:s[m]?=some (s[m]'(by omega)):=List.getElem?_eq_getElem (by omega);have hd:s.toArray[m]! = s[m]'(by omega):=by rw [getElem!_pos _ m (by simp;omega)];rfl
  have ht:s.take (m+1)=s.take m++[s[m]'(by omega)]:=by rw [List.take_add_one,hg];rfl
  rw [Lib.compactUpTo_succ,ht,hd];by_cases hk:Lib.keeps s.toArray m=true
  ·rw [if_pos hk];refine⟨List.pairwise_append.2 ⟨f,List.pairwise_singleton _ _,λa j b hb=>?_⟩,λx=>by rw [List.mem_append,List.mem_append,c x]⟩;rw [List.mem_singleton] at hb;subst hb;obtain⟨i,hi,rfl⟩:=List.mem_iff_getElem.1 ((c a).1 j);have p:i<m:=by simp at hi;omega
   have g:s.toArray[m]! ≠ s.toArray[m - 1]! := by
    unfold Lib.keeps at hk;simp only [decide_eq_true_eq] at hk;rcases hk with h0 | h0
    ·omega
    ·exact h0
   rw [hd,getElem!_pos _ (m - 1) (by simp;omega)] at g;have k:s[m]'(by omega)≠s[m - 1]'(by omega):=g;have l:Op.bytesLess (s[m]'(by omega)) (s[m - 1]'(by omega))=false:=List.pairwise_iff_getElem.1 hs (m - 1) m (by omega) (by omega) (by omega);have d:Op.bytesLess (s[m - 1]'(by omega)) (s[m]'(by omega))=true:=by
    cases hq:Op.bytesLess (s[m - 1]'(by omega)) (s[m]'(by omega)) with
    | true=>rfl
    | false=>exact absurd (aK2 l hq) k
   simp only [List.getElem_take];rcases Nat.lt_or_ge i (m - 1) with h | h
   ·have n:Op.bytesLess (s[m - 1]'(by omega)) (s[i]'(by omega))=false:=List.pairwise_iff_getElem.1 hs i (m - 1) (by omega) (by omega) h;cases hq:Op.bytesLess (s[i]'(by omega)) (s[m - 1]'(by omega)) with
    | true=>exact aEj hq d
    | false=>rw [aK2 hq n];exact d
   ·have:i=m - 1:=by omega
    subst this;exact d
  ·rw [if_neg hk,List.append_nil];refine⟨f,λx=>?_⟩;have h0:0<m:=by
    rcases Nat.eq_zero_or_pos m with e | e
    ·subst e;exact absurd (Lib.keeps_lt_one s.toArray 0 (by omega)) hk
    ·exact e
   have he:s.toArray[m]! = s.toArray[m - 1]! := by
    rcases Decidable.em (s.toArray[m]! = s.toArray[m - 1]!) with e | e
    ·exact e
    ·exact absurd (Lib.keeps_pos e) hk
   rw [hd,getElem!_pos _ (m - 1) (by simp;omega)] at he;have o:s[m]'(by omega)=s[m - 1]'(by omega):=he;rw [c x,List.mem_append,List.mem_singleton,o];exact⟨.inl,λh=>h.elim id λe=>by
    rw [e];exact List.mem_iff_getElem.2 ⟨m - 1,by simp;omega,by simp⟩⟩
theorem aYf (l:List (List UInt8)):Up (uq l):=by have:=(aD3 _ (aKj l) _ (Nat.le_refl _)).1;exact this
theorem aCm (l:List (List UInt8)) (x:List UInt8):x∈uq l↔x∈l:=by have:=(aD3 _ (aKj l) _ (Nat.le_refl _)).2 x;rw [List.take_length,List.mem_mergeSort] at this;exact this
theorem aL4 (l:List (List UInt8)):(uq l).length<=l.length:=by have h:=aGb (l.mergeSort λx y=>decide (x<=y));rw [List.length_mergeSort] at h;exact h
def ix:List (List UInt8)->List UInt8->Nat
 | [],_=>0
 | a::as_,s=>if a=s then 0 else ix as_ s+1
theorem aId:∀ {l:List (List UInt8)} {s:List UInt8},s∈l->l[ix l s]?=some s
 | a::l,s,h=>by
  unfold ix;by_cases e:a=s
  ·rw [if_pos e,e];rfl
  ·rw [if_neg e,List.getElem?_cons_succ];exact aId ((List.mem_cons.1 h).resolve_left λq=>e q.symm)
end Go.Proofs.YtdkpjpoajlmmfaaGreatDoor.P
