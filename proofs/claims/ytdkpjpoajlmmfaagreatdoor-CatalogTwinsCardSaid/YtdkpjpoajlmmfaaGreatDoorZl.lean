/- Texts of the claim, joined: what it uses of Qh, Qi, Qj, Qk, Qm, Qn, Qo, Qp, Qq, Pa, Pb, Pc, Pd, Pf, Pg, Ph, Pi, Pj, Pk, Pl, Pm, Po, Rb, Rc, Rd, Re, Rf, Rj, Rh, Rk, Rp, Rm, Rn, Ro, Rq, Sa, Sb, Sc, Sd. -/
import Derived.Test.YtdkpjpoajlmmfaaGreatDoorZk
import Derived.Sort.Walk0
import Derived.IntWalk
import Derived.Lib.SlicesCompact
namespace Go.Proofs.YtdkpjpoajlmmfaaGreatDoor.P
open Go Go.RowKit Go.Proofs.YtdkpjpoajlmmfaaGreatDoor.E Go.Proofs.YtdkpjpoajlmmfaaGreatDoor.M
set_option linter.unusedVariables false
set_option linter.unusedSectionVars false
def aBe:Nat->List Int->Option (List Int×List Int)
 | 0,xs=>some ([],xs)
 | n+1,xs=>match pI xs with
  | some (x,r)=>match aBe n r with
   | some (l,r')=>some (x::l,r')
   | none=>none
  | none=>none
def pD:Int->Nat->List Int->Option (List Int×List Int)
 | _,0,xs=>some ([],xs)
 | a,n+1,xs=>match pI xs with
  | some (x,r)=>match pD (IntKind.i64.wrap (a+x)) n r with
   | some (l,r')=>some (IntKind.i64.wrap (a+x)::l,r')
   | none=>none
  | none=>none
def pR:Nat->Nat->List Int->Option (List Int×List Int)
 | 0,_,xs=>some ([],xs)
 | f+1,n,xs=>if n=0 then some ([],xs) else match pI xs with
  | some (x,r)=>match pU ((n - 1:Nat):Int) r with
   | some (k,r')=>match pR f (n - (k.toNat+1)) r' with
    | some (l,r'')=>some (List.replicate (k.toNat+1) x++l,r'')
    | none=>none
   | none=>none
  | none=>none
def toN (xs:List Int):List Nat:=xs.map Int.toNat
def part (n w v:Nat):List Int:=(List.range n).map λq=>IntKind.i64.wrap ((v / 2 ^ (q * w) % 2 ^ w:Nat):Int)
def pP (n:Nat) (xs:List Int):Option (List Int×List Int):=match pI xs with
 | some (lo,r)=>match pB r with
  | some (w,r')=>if w<=64/\r'.length=(n * w.toNat+7) / 8/\V 8 (toN r')<2 ^ (n * w.toNat) then some ((part n w.toNat (V 8 (toN r'))).map λx=>IntKind.i64.wrap (x+lo),[]) else none
  | none=>none
 | none=>none
def aJb (w:Int) (n:Nat) (r:List Int):Option (List Int×List Int) :=
 if w=0 then aBe n r else if w=1 then pD 0 n r else if w=2 then pR n n r else if 0<n then pP n r else some ([],r)
def aF6 (xs:List Int):Option (List Int×List Int):=match pB xs with
 | some (w,r)=>if w<=3 then (match pU 4096 r with
  | some (n,r')=>aJb w n.toNat r'
  | none=>none) else none
 | none=>none
theorem aWu {xs r:List Int} {b:Int} (hB:Bs xs) (h:pB xs=some (b,r)):(0<=b/\b<256)/\Bs r/\xs=b::r:=by
 cases xs with
 | nil=>cases h
 | cons c xs=>cases h; exact⟨hB.cons.1,hB.cons.2,rfl⟩
theorem aI3 (n:Nat) (hn:n<=4096):∀ (m k:Nat) (acc xs:List Int),Bs xs->k+m=n->acc.length=k ->
  ∃ y,loop (λs:List Int×List Int×Int=>dG (n:Int) s.1 s.2.1 s.2.2) (xs,acc,(k:Int))=some y/\match aBe m xs with
   | some (l,r)=>y=.inl (r,acc++l)
   | none=>∃ s,y=.inr (.inr s)
 | 0,k,acc,xs,hB,hk,ha=>by refine⟨_,bF (t:=Sum.inl (xs,acc)) ?_,by simp [aBe]⟩;show dG (n:Int) xs acc (k:Int)=_;unfold dG;rw [if_neg (by simp only [decide_eq_true_eq]; omega)]
 | m+1,k,acc,xs,hB,hk,ha=>by
  unfold aBe;rcases (aG4 hB).cases with ⟨x,r,h1,h2⟩ | ⟨h1,s,h2⟩
  ·rw [h1];obtain⟨y,hy,hm⟩:=aI3 n hn m (k+1) (acc++[x]) r (aPx hB h1).1 (by omega) (by simp [ha]);refine⟨y,(cH (s':=(r,acc++[x],((k+1:Nat):Int))) ?_).trans hy,?_⟩
   ·show dG (n:Int) xs acc (k:Int)=_;unfold dG;rw [if_pos (by simp only [decide_eq_true_eq]; omega),h2];simp only [Option.bind_some,iA,lt_];rw [bM (by simp; omega),w64 (by omega) (by omega)];rfl
   ·simp only;revert hm;cases aBe m r with
    | none=>exact id
    | some q=>intro hm; simpa using hm
  ·rw [h1];refine⟨_,bF (t:=Sum.inr (.inr s)) ?_,s,rfl⟩;show dG (n:Int) xs acc (k:Int)=_;unfold dG;rw [if_pos (by simp only [decide_eq_true_eq]; omega),h2];rfl
theorem aV5 {n:Nat} (hn:n<=4096) {xs:List Int} (hB:Bs xs):IsR (nW (n:Int) ⟨xs⟩) (aBe n xs):=by
 obtain⟨y,hy,hm⟩:=aI3 n hn n 0 [] xs hB (by omega) rfl;unfold nW;rw [show (0:Int)=((0:Nat):Int) from rfl,hy];simp only [Option.bind_some];revert hm;cases aBe n xs with
 | none=>rintro⟨s,rfl⟩; exact⟨s,rfl⟩
 | some q=>intro hm; subst hm; rfl
theorem aO9 (n:Nat) (hn:n<=4096):∀ (m k:Nat) (a:Int) (acc xs:List Int),Bs xs->k+m=n->acc.length=k ->
  ∃ y,loop (λs:List Int×List Int×Int×Int=>hG (n:Int) s.1 s.2.1 s.2.2.1 s.2.2.2) (xs,acc,a,(k:Int))=some y/\match pD a m xs with
   | some (l,r)=>y=.inl (r,acc++l)
   | none=>∃ s,y=.inr (.inr s)
 | 0,k,a,acc,xs,hB,hk,ha=>by refine⟨_,bF (t:=Sum.inl (xs,acc)) ?_,by simp [pD]⟩;show hG (n:Int) xs acc a (k:Int)=_;unfold hG;rw [if_neg (by simp only [decide_eq_true_eq]; omega)]
 | m+1,k,a,acc,xs,hB,hk,ha=>by
  unfold pD;rcases (aG4 hB).cases with ⟨x,r,h1,h2⟩ | ⟨h1,s,h2⟩
  ·rw [h1];obtain⟨y,hy,hm⟩:=aO9 n hn m (k+1) (IntKind.i64.wrap (a+x)) (acc++[IntKind.i64.wrap (a+x)]) r (aPx hB h1).1 (by omega) (by simp [ha]);refine⟨y,(cH (s':=(r,acc++[IntKind.i64.wrap (a+x)],IntKind.i64.wrap (a+x),((k+1:Nat):Int))) ?_).trans hy,?_⟩
   ·show hG (n:Int) xs acc a (k:Int)=_;unfold hG;rw [if_pos (by simp only [decide_eq_true_eq]; omega),h2];simp only [Option.bind_some,iA,lt_];rw [bM (by simp; omega),w64 (n:=(k:Int)+1) (by omega) (by omega)];rfl
   ·simp only;revert hm;cases pD (IntKind.i64.wrap (a+x)) m r with
    | none=>exact id
    | some q=>intro hm; simpa using hm
  ·rw [h1];refine⟨_,bF (t:=Sum.inr (.inr s)) ?_,s,rfl⟩;show hG (n:Int) xs acc a (k:Int)=_;unfold hG;rw [if_pos (by simp only [decide_eq_true_eq]; omega),h2];rfl
theorem aRz (y:Int×S140) (k:Nat) (acc:List Int) (h:acc.length+k<=8192):loop (λs:List Int×Int=>iR y (k:Int) s.1 s.2) (acc,0)=some (acc++List.replicate k y.1):=by
 have:=kD (b:=λs:List Int×Int=>iR y (k:Int) s.1 s.2) (λj=>(acc++List.replicate j y.1,(j:Int))) (t:=acc++List.replicate k y.1) k (λj hj=>by
  show iR y (k:Int) (acc++List.replicate j y.1) (j:Int)=_;unfold iR;rw [if_pos (by simp only [decide_eq_true_eq]; omega),bM (by simp; omega),lt_,nO (by omega) (by omega),List.replicate_succ',List.append_assoc];rfl) (by
  show iR y (k:Int) (acc++List.replicate k y.1) (k:Int)=_;unfold iR;rw [if_neg (by simp)])
 simpa using this
theorem aO5 (n:Nat) (hn:n<=4096):∀ (f m:Nat) (acc xs:List Int),Bs xs->acc.length+m=n->m<=f ->
  ∃ y,loop (λs:List Int×List Int=>dS (n:Int) s.1 s.2) (xs,acc)=some y/\match pR f m xs with
   | some (l,r)=>y=.inl (r,acc++l)
   | none=>∃ s,y=.inr (.inr s)
 | 0,m,acc,xs,hB,hk,hf=>by refine⟨_,bF (t:=Sum.inl (xs,acc)) ?_,by simp [pR]⟩;show dS (n:Int) xs acc=_;unfold dS;rw [if_neg (by simp only [decide_eq_true_eq]; omega)]
 | f+1,m,acc,xs,hB,hk,hf=>by
  unfold pR;by_cases hm0:m=0
  ·rw [if_pos hm0];refine⟨_,bF (t:=Sum.inl (xs,acc)) ?_,by simp⟩;show dS (n:Int) xs acc=_;unfold dS;rw [if_neg (by simp only [decide_eq_true_eq]; omega)]
  ·rw [if_neg hm0];rcases (aG4 hB).cases with ⟨x,r,h1,h2⟩ | ⟨h1,s,h2⟩
   ·rw [h1];simp only;have hBr:=(aPx hB h1).1;have e1:IntKind.u64.wrap (IntKind.i64.wrap (IntKind.i64.wrap ((n:Int) - (acc.length:Int)) - 1))=((m - 1:Nat):Int):=by rw [w64 (n:=(n:Int) - (acc.length:Int)) (by omega) (by omega),w64 (by omega) (by omega),nO (by omega) (by omega)];omega
    rcases (aCm ((m - 1:Nat):Int) hBr).cases with ⟨k,r',h3,h4⟩ | ⟨h3,s,h4⟩
    ·rw [h3];simp only;obtain⟨q1,q2,q3⟩:=(tH h3).1;obtain⟨c,rfl⟩:∃ c:Nat,k=(c:Int):=⟨k.toNat,by omega⟩;rw [Int.toNat_natCast];obtain⟨y,hy,hm⟩:=aO5 n hn f (m - (c+1)) (acc++List.replicate (c+1) x) r' (aNe hBr h3) (by simp; omega) (by omega);refine⟨y,(cH (s':=(r',acc++List.replicate (c+1) x)) ?_).trans hy,?_⟩
     ·show dS (n:Int) xs acc=_;unfold dS;rw [if_pos (by simp only [decide_eq_true_eq]; omega),h2];simp only [Option.bind_some,iA,lt_];rw [e1,h4];simp only [Option.bind_some,iA];rw [nO (by omega) (by omega),show (1:Int)+(c:Int)=((c+1:Nat):Int) by omega,aRz _ _ _ (by omega)];rfl
     ·revert hm;cases pR f (m - (c+1)) r' with
      | none=>exact id
      | some q=>intro hm; simpa using hm
    ·rw [h3];refine⟨_,bF (t:=Sum.inr (.inr s)) ?_,s,rfl⟩;show dS (n:Int) xs acc=_;unfold dS;rw [if_pos (by simp only [decide_eq_true_eq]; omega),h2];simp only [Option.bind_some,iA,lt_];rw [e1,h4];rfl
   ·rw [h1];refine⟨_,bF (t:=Sum.inr (.inr s)) ?_,s,rfl⟩;show dS (n:Int) xs acc=_;unfold dS;rw [if_pos (by simp only [decide_eq_true_eq]; omega),h2];rfl
theorem aVm {xs:List Int} (hB:Bs xs) {j:Nat} (h:j<xs.length):∃ b:Nat,xs[j]?=some (b:Int)/\(toN xs)[j]?=some b/\b<256:=by have hx:=List.getElem?_eq_getElem h;have:=hB _ (List.mem_of_getElem? hx);refine⟨xs[j].toNat,by rw [hx]; congr 1; omega,by simp [toN,hx],by omega⟩
theorem aY2 {xs:List Int} (hB:Bs xs):Lt 8 (toN xs):=by intro d hd;obtain⟨b,hb,rfl⟩:=List.mem_map.1 hd;have:=hB b hb;omega
theorem rK (n w v:Nat):(part n w v).length=n:=by simp [part]
theorem aEk {n w v q:Nat} (h:q<n):(part n w v)[q]?=some (IntKind.i64.wrap ((v / 2 ^ (q * w) % 2 ^ w:Nat):Int)):=by unfold part;rw [List.getElem?_map,List.getElem?_range h]; rfl
theorem aO3 {xs ys:List Int} (hl:xs.length=ys.length) (h:∀ j:Nat,j<xs.length->xs[j]?=ys[j]?):xs=ys:=by
 apply List.ext_getElem? λj=>?_;rcases Nat.lt_or_ge j xs.length with hj | hj
 ·exact h j hj
 ·rw [List.getElem?_eq_none hj,List.getElem?_eq_none (by omega)]
theorem aHn (a:Nat):BitVec.ofInt 64 (IntKind.i64.wrap (a:Int))=BitVec.ofNat 64 a:=by apply BitVec.eq_of_toNat_eq;rw [BitVec.toNat_ofInt,BitVec.toNat_ofNat,IntWalk.i64_left];unfold wrap64;omega
theorem aSy (a b:Nat) (ha:a<18446744073709551616) (hb:b<18446744073709551616):ior .i64 (IntKind.i64.wrap (a:Int)) (IntKind.i64.wrap (b:Int))=IntKind.i64.wrap ((a ||| b:Nat):Int):=by show IntKind.i64.wrap (((BitVec.ofInt 64 (IntKind.i64.wrap (a:Int)) ||| BitVec.ofInt 64 (IntKind.i64.wrap (b:Int))).toNat:Nat):Int)=_;rw [aHn,aHn,BitVec.toNat_or,BitVec.toNat_ofNat,BitVec.toNat_ofNat,Nat.mod_eq_of_lt (show a<2 ^ 64 by omega),Nat.mod_eq_of_lt (show b<2 ^ 64 by omega)]
theorem aQm {n w v i:Nat} (hw:0<w) (h:i / w<n):(part n w (v % 2 ^ i)).set (i / w) (IntKind.i64.wrap ((v % 2 ^ i / 2 ^ (i / w * w) % 2 ^ w+bt v i * 2 ^ (i % w):Nat):Int))=part n w (v % 2 ^ (i+1)):=by
 refine aO3 (by simp [rK]) λj hj=>?_;rw [List.length_set,rK] at hj;rw [aEk hj];by_cases e:i / w=j
 ·subst e;rw [List.getElem?_set_self (by rw [rK]; exact hj),(aEy v i w hw).1]
 ·rw [List.getElem?_set_ne e,aEk hj,aIy v i j w hw (Ne.symm e)]
theorem aLw {n w:Nat} (hn:n<=4096) (hw:w<=64) {xs:List Int} (hB:Bs xs) (hlen:xs.length=(n * w+7) / 8) :
  ∃ y,loop (λs:List Int×List Int×Int=>iI (n:Int) (w:Int) ((8 * xs.length:Nat):Int) s.1 s.2.1 s.2.2) (xs,List.replicate n 0,0)=some y /\
   ((V 8 (toN xs)<2 ^ (n * w)/\y=.inl (xs,part n w (V 8 (toN xs))))\/(¬ V 8 (toN xs)<2 ^ (n * w)/\∃ s,y=.inr (.inr s))):=by
 have hnw:n * w<=4096 * 64:=Nat.mul_le_mul hn hw;have hL:=aY2 hB;have hvt:V 8 (toN xs)<2 ^ (8 * xs.length):=by have:=aU0 hL;rw [show (toN xs).length=xs.length by simp [toN],Nat.mul_comm] at this;exact this
 obtain⟨v,hv⟩:∃ v,v=V 8 (toN xs):=⟨_,rfl⟩;have hbt:∀ j t b,(toN xs)[j]?=some b->t<8->bt v (j * 8+t)=bt b t:=λj t b hb ht=>by rw [hv]; exact bCt hL hb ht
 rw [← hv] at hvt ⊢;clear hv hL;refine aCz (b:=λs:List Int×List Int×Int=>iI (n:Int) (w:Int) ((8 * xs.length:Nat):Int) s.1 s.2.1 s.2.2) (s:=(xs,List.replicate n 0,0))
  (λs=>∃ i:Nat,s=(xs,part n w (v % 2 ^ i),(i:Int))/\i<=8 * xs.length/\(n * w<=i->v % 2 ^ i<2 ^ (n * w))) (λs=>(((8 * xs.length:Nat):Int) - s.2.2).toNat)
  (λy=>(v<2 ^ (n * w)/\y=.inl (xs,part n w v))\/(¬ v<2 ^ (n * w)/\∃ s,y=.inr (.inr s))) ⟨0,?_,by omega,λ_=>by rw [Nat.pow_zero,Nat.mod_one]; exact Nat.two_pow_pos _⟩ ?_
 ·rw [Nat.pow_zero,Nat.mod_one,show part n w 0=List.replicate n 0 by
   unfold part;rw [List.eq_replicate_iff];refine⟨by simp,λb hb=>?_⟩;obtain⟨q,_,rfl⟩:=List.mem_map.1 hb;simp;rfl]
  rfl
 ·rintro s ⟨i,rfl,hit,hz⟩;show (∃ s',iI (n:Int) (w:Int) ((8 * xs.length:Nat):Int) xs (part n w (v % 2 ^ i)) (i:Int)=some (.inl s')/\_)\/∃ t,iI (n:Int) (w:Int) ((8 * xs.length:Nat):Int) xs (part n w (v % 2 ^ i)) (i:Int)=some (.inr t)/\_;unfold iI;by_cases hlt:i<8 * xs.length
  ·obtain⟨b,hb1,hb2,hb3⟩:=aVm hB (j:=i / 8) (by omega);have hbit:=hbt (i / 8) (i % 8) b hb2 (by omega);rw [show i / 8 * 8+i % 8=i by omega] at hbit;have hb:=aOw v i;have e1:pH .u8 (b:Int) ((i % 8:Nat):Int)=((b / 2 ^ (i % 8):Nat):Int):=lZ (k:=.u8) b (i % 8) (by show _<=8; omega);have e0:b / 2 ^ (i % 8)<=b:=Nat.div_le_self _ _;have e2:aAv .u64 ((b / 2 ^ (i % 8):Nat):Int) 1=((bt v i:Nat):Int):=by have:=aGx (a:=b / 2 ^ (i % 8)) (b:=1) (by omega) (by omega);rw [show ((1:Nat):Int)=1 from rfl] at this;rw [this,aSp,hbit]; rfl
   rw [if_pos (by simp only [decide_eq_true_eq]; omega),lt_,show (i:Int).tdiv 8=((i / 8:Nat):Int) from rfl,w64 (by omega) (by omega),bG rfl hb1];simp only [Option.bind_some,lt_];rw [show (i:Int).tmod 8=((i % 8:Nat):Int) from rfl,bM (by omega),e1,nO (Int.natCast_nonneg _) (by omega),e2, ← Int.natCast_mul,w64 (n:=((n * w:Nat):Int)) (by omega) (by omega)];by_cases hin:i<n * w
   ·
    have hw0:0<w:=by rcases Nat.eq_zero_or_pos w with h | h; rw [h] at hin; simp at hin; exact h
    have hq:i / w<n:=(Nat.div_lt_iff_lt_mul hw0).2 hin;have hk:i % w<w:=Nat.mod_lt _ hw0;rw [if_neg (by simp only [decide_eq_true_eq]; omega),bM (by omega),show (i:Int).tdiv (w:Int)=((i / w:Nat):Int) from rfl,w64 (n:=((i / w:Nat):Int)) (Int.le_trans (by decide) (Int.natCast_nonneg _)) (by omega),bG rfl (aEk hq)];simp only [Option.bind_some];obtain⟨hnew,hcur⟩:=aEy v i w hw0;have hstep:=aQm (v:=v) hw0 hq;have hp:2 ^ (i % w)<=2 ^ 63:=Nat.pow_le_pow_right (by decide) (by omega);have hbp:bt v i * 2 ^ (i % w)<=1 * 2 ^ (i % w):=Nat.mul_le_mul_right _ (by omega);have hm:bt v i * 2 ^ (i % w) % 18446744073709551616=bt v i * 2 ^ (i % w):=Nat.mod_eq_of_lt (by omega);rw [bM (by omega),show (i:Int).tmod (w:Int)=((i % w:Nat):Int) from rfl,bM (by omega),aLs _ _ (by omega),hm,aSy _ _ (by omega) (by omega),aBa hcur,Int.toNat_natCast,hstep];unfold lY;rw [lt_,w64 (n:=(i:Int)+1) (by omega) (by omega)];exact .inl ⟨_,rfl,⟨i+1,rfl,by omega,λh=>by
     have h1:v % 2 ^ (i+1)<2 ^ (i+1):=Nat.mod_lt _ (Nat.two_pow_pos _);have h2:i+1=n * w:=by omega
     rw [h2] at h1 ⊢;exact h1⟩,by simp only; omega⟩
   ·rw [if_pos (by simp only [decide_eq_true_eq]; omega)];have hms:=aGw v i;by_cases hb0:bt v i=0
    ·rw [hb0,show (((0:Nat):Int)==0)=true from rfl,mN];simp only [Option.bind_some,iA];unfold lY;rw [lt_,w64 (n:=(i:Int)+1) (by omega) (by omega)];rw [hb0,Nat.zero_mul,Nat.add_zero] at hms;exact .inl ⟨_,rfl,⟨i+1,by rw [hms]; rfl,by omega,λ_=>by rw [hms]; exact hz (by omega)⟩,by simp only; omega⟩
    ·have hb1':bt v i=1:=by omega
     rw [hb1',show (((1:Nat):Int)==0)=false from rfl,rS];refine .inr ⟨_,rfl,.inr ⟨λhlt'=>?_,_,rfl⟩⟩;have h1:2 ^ (n * w)<=2 ^ i:=Nat.pow_le_pow_right (by decide) (by omega);unfold bt at hb1';rw [Nat.div_eq_of_lt (by omega)] at hb1';cases hb1'
  ·have hie:i=8 * xs.length:=by omega
   rw [if_neg (by simp only [decide_eq_true_eq]; omega)];have hvv:v % 2 ^ i=v:=Nat.mod_eq_of_lt (by rw [hie]; exact hvt);rw [hvv];refine .inr ⟨_,rfl,.inl ⟨?_,rfl⟩⟩;have:=hz (by omega)
   rwa [hvv] at this
theorem aNw (lo:Int) (y:Int×S140) (hy:y.1=lo) (L:List Int) (h:L.length<=4096):loop (λs:List Int×Int=>gG y L s.1 s.2) (L,0)=some (L.map λx=>IntKind.i64.wrap (x+lo)):=by
 have:=kD (b:=λs:List Int×Int=>gG y L s.1 s.2) (λk=>((L.take k).map (λx=>IntKind.i64.wrap (x+lo))++L.drop k,(k:Int))) (t:=L.map λx=>IntKind.i64.wrap (x+lo)) L.length (λk hk=>by
  have hx:=List.getElem?_eq_getElem hk;have hd:L.drop k=L[k]::L.drop (k+1):=List.drop_eq_getElem_cons hk;have hlen:((L.take k).map (λx=>IntKind.i64.wrap (x+lo))).length=k:=by simp; omega
  show gG y L ((L.take k).map (λx=>IntKind.i64.wrap (x+lo))++L.drop k) (k:Int)=_;unfold gG;rw [if_pos (by simp only [decide_eq_true_eq]; omega),bG (n:=k) (x:=L[k]) rfl (by rw [List.getElem?_append_right (by omega),hlen,Nat.sub_self,hd]; rfl)];simp only [Option.bind_some,lt_];rw [hy,w64 (n:=(k:Int)+1) (by omega) (by omega),Int.toNat_natCast,uB hx,List.map_append,List.append_assoc,List.set_append_right _ _ (by omega),hlen,Nat.sub_self,hd];rfl) (by
  show gG y L _ (L.length:Int)=_;unfold gG;rw [if_neg (by simp),List.take_length,List.drop_length,List.append_nil])
 simpa using this
theorem aQk {n:Nat} (hn:n<=4096) {xs:List Int} (hB:Bs xs) (hl:xs.length<1099511627776):IsR (tB ⟨xs⟩ (n:Int)) (pP n xs):=by
 unfold tB pP;rcases (aG4 hB).cases with ⟨lo,r,h1,h2⟩ | ⟨h1,s,h2⟩
 ·rw [h1,h2];obtain⟨hBr,hlo,p,hp,_⟩:=aPx hB h1;have hrl:r.length<=xs.length:=by rw [hp]; simp
  simp only [Option.bind_some,iA];rcases (IsR.cases (aKx r)) with ⟨wb,r',h3,h4⟩ | ⟨h3,s,h4⟩
  ·rw [h3,h4];obtain⟨hwb,hBr',hr'⟩:=aWu hBr h3;have hrl':r'.length<=r.length:=by rw [hr']; simp
   obtain⟨w,rfl⟩:∃ w:Nat,wb=(w:Int):=⟨wb.toNat,by omega⟩;simp only [Option.bind_some,iA,lt_,Int.toNat_natCast];rw [w64 (n:=(w:Int)) (by omega) (by omega)];by_cases hw:w<=64
   ·have hnw:n * w<=4096 * 64:=Nat.mul_le_mul hn hw;rw [if_pos (by simp only [decide_eq_true_eq]; omega), ← Int.natCast_mul,w64 (n:=((n * w:Nat):Int)) (by omega) (by omega),w64 (n:=((n * w:Nat):Int)+7) (by omega) (by omega),
     show (((n * w:Nat):Int)+7).tdiv 8=(((n * w+7) / 8:Nat):Int) from rfl,w64 (by omega) (by omega)]
    by_cases hlen:r'.length=(n * w+7) / 8
    ·rw [show ((r'.length:Int)==(((n * w+7) / 8:Nat):Int))=true by rw [hlen]; simp,mN];simp only [Option.bind_some,iA];unfold pF;rw [bM (by omega),lt_,w64 (by omega) (by omega),Int.toNat_natCast];obtain⟨y,hy,hcase⟩:=aLw hn hw hBr' hlen;rw [show (8:Int) * (r'.length:Int)=((8 * r'.length:Nat):Int) by omega,hy];simp only [Option.bind_some];rcases hcase with ⟨hv,rfl⟩ | ⟨hv,s,rfl⟩
     ·rw [if_pos ⟨by omega,hlen,hv⟩];simp only;unfold pW rZ;rw [aNw lo _ rfl _ (by rw [rK]; exact hn)];rfl
     ·rw [if_neg (λq=>hv q.2.2)];exact⟨s,rfl⟩
    ·rw [show ((r'.length:Int)==(((n * w+7) / 8:Nat):Int))=false by simp; omega,rS,if_neg (λq=>hlen q.2.1)];exact⟨_,rfl⟩
   ·rw [if_neg (by simp only [decide_eq_true_eq]; omega),rS,if_neg (λq=>hw (by omega))];exact⟨_,rfl⟩
  ·rw [h3,h4];exact⟨s,rfl⟩
 ·rw [h1,h2];exact⟨s,rfl⟩
theorem aPj {xs:List Int} (hB:Bs xs) (hl:xs.length<1099511627776):IsR (tY ⟨xs⟩) (aF6 xs):=by
 unfold tY aF6;rcases (IsR.cases (aKx xs)) with ⟨w,r,h1,h2⟩ | ⟨h1,s,h2⟩
 ·rw [h1,h2];obtain⟨hw,hBr,hr⟩:=aWu hB h1;have hrl:r.length<=xs.length:=by rw [hr]; simp
  simp only [Option.bind_some,iA];by_cases hw3:w<=3
  ·rw [show decide (w<=3)=true by simpa using hw3,mN,if_pos hw3];simp only [Option.bind_some,iA];rcases (aCm 4096 hBr).cases with ⟨n,r',h3,h4⟩ | ⟨h3,s,h4⟩
   ·rw [h3,h4];obtain⟨⟨q1,q2,q3⟩,p,hp,_⟩:=tH h3;have hBr':=aNe hBr h3;have hrl':r'.length<=r.length:=by rw [hp]; simp
    obtain⟨n,rfl⟩:∃ m:Nat,n=(m:Int):=⟨n.toNat,by omega⟩;simp only [Option.bind_some,iA,lt_,Int.toNat_natCast];rw [w64 (by omega) (by omega)];unfold aJb;by_cases w0:w=0
    ·rw [if_pos (by simpa using w0),if_pos w0];rcases (aV5 (n:=n) (by omega) hBr').cases with ⟨l,r'',h5,h6⟩ | ⟨h5,s,h6⟩
     ·rw [h5,h6]; rfl
     ·rw [h5,h6]; exact⟨s,rfl⟩
    rw [if_neg (by simpa using w0),if_neg w0];by_cases w1:w=1
    ·rw [if_pos (by simpa using w1),if_pos w1];obtain⟨y,hy,hm⟩:=aO9 n (by omega) n 0 0 [] r' hBr' (by omega) rfl;rw [show ((0:Nat):Int)=0 from rfl] at hy;rw [hy];revert hm;cases pD 0 n r' with
     | none=>rintro⟨s,rfl⟩; exact⟨s,rfl⟩
     | some q=>intro hm; subst hm; rfl
    rw [if_neg (by simpa using w1),if_neg w1];by_cases w2:w=2
    ·rw [if_pos (by simpa using w2),if_pos w2];obtain⟨y,hy,hm⟩:=aO5 n (by omega) n n [] r' hBr' (by simp) (Nat.le_refl _);rw [hy];revert hm;cases pR n n r' with
     | none=>rintro⟨s,rfl⟩; exact⟨s,rfl⟩
     | some q=>intro hm; subst hm; rfl
    rw [if_neg (by simpa using w2),if_neg w2,if_pos (by simp; omega)];by_cases hn0:0<n
    ·rw [if_pos (by simp only [decide_eq_true_eq]; omega),if_pos hn0];rcases (aQk (n:=n) (by omega) hBr' (by omega)).cases with ⟨l,r'',h5,h6⟩ | ⟨h5,s,h6⟩
     ·rw [h5,h6]; rfl
     ·rw [h5,h6]; exact⟨s,rfl⟩
    ·rw [if_neg (by simp only [decide_eq_true_eq]; omega),if_neg hn0];rfl
   ·rw [h3,h4];exact⟨s,rfl⟩
  ·rw [show decide (w<=3)=false by simpa using hw3,rS,if_neg hw3];exact⟨_,rfl⟩
 ·rw [h1,h2];exact⟨s,rfl⟩
def vH (xs:List Int):Option (List Int):=match aF6 xs with
 | some (l,[])=>some l
 | _=>none
theorem xC {xs:List Int} (hB:Bs xs) (hl:xs.length<1099511627776):jB xs=some (match vH xs with | some l=>(l,0) | none=>([],3)):=by
 unfold jB qU rE vH;rcases (aPj hB hl).cases with ⟨l,r,h1,h2⟩ | ⟨h1,s,h2⟩
 ·rw [h1,h2];simp only [Option.bind_some,iA];cases r with
  | nil=>rfl
  | cons b r=>rfl
 ·rw [h1,h2];rfl
theorem aM0:∀ (l r:List Int),I64 l->aBe l.length (b0 l++r)=some (l,r)
 | [],r,_=>rfl
 | x::l,r,h=>by
  have e:b0 (x::l)++r=uv (zz x)++(b0 l++r):=by simp [b0]
  rw [e,List.length_cons,aBe,aMp (h x List.mem_cons_self)];simp only;rw [aM0 l r λy hy=>h y (List.mem_cons_of_mem _ hy)]
theorem aQy (a x:Int) (h:i64 x):IntKind.i64.wrap (a+IntKind.i64.wrap (x - a))=x:=by unfold i64 at h;rw [IntWalk.i64_left,IntWalk.i64_left];unfold wrap64;omega
theorem aXp:∀ (l r:List Int) (a:Int),I64 l->pD a l.length (bD a l++r)=some (l,r)
 | [],r,a,_=>rfl
 | x::l,r,a,h=>by rw [bD,List.length_cons,pD,List.append_assoc,aMp (aCi _)];simp only;rw [aQy a x (h x List.mem_cons_self),aXp l r x λy hy=>h y (List.mem_cons_of_mem _ hy)]
theorem aXx:∀ (f:Nat) (l r:List Int),I64 l->l.length<=f->l.length<=4096->pR f l.length (bR 0 l++r)=some (l,r)
 | 0,l,r,_,hf,_=>by have:l=[]:=List.eq_nil_of_length_eq_zero (by omega);subst this;rfl
 | f+1,[],r,_,_,_=>rfl
 | f+1,x::l,r,h,hf,hl=>by
  obtain⟨m,tl,hm,htl⟩:=aFb x l;subst hm;have hlen:(x::(List.replicate m x++tl)).length=m+1+tl.length:=by simp; omega
  rw [hlen] at hf hl ⊢;rw [pR,if_neg (by omega),aN7 x tl htl m 0,Nat.zero_add,List.append_assoc,List.append_assoc,aMp (h x List.mem_cons_self)];simp only;rw [aG0 (by omega) _ (by omega)];simp only [Int.toNat_natCast];rw [show m+1+tl.length - (m+1)=tl.length by omega,aXx f tl r (λy hy=>h y (List.mem_cons_of_mem _ (List.mem_append.2 (.inr hy)))) (by omega) (by omega)];simp only [List.replicate_succ,List.cons_append]
theorem aU2 (D:List Nat):toN (ofN D)=D:=by
 unfold toN ofN;rw [List.map_map];have:(Int.toNat ∘ λ(n:Nat)=>(n:Int))=id:=by funext n; simp
 rw [this,List.map_id]
theorem aUu {x lo:Int} (hm:i64 x) (hlo:i64 lo) (h:lo<=x):IntKind.i64.wrap (IntKind.i64.wrap (((x - lo).toNat:Nat):Int)+lo)=x:=by unfold i64 at hm hlo;rw [IntWalk.i64_left,IntWalk.i64_left];unfold wrap64;omega
theorem aYn {n w:Nat} {D:List Nat} (hv:V w D<2 ^ (n * w)):V 8 (by_ ((n * w+7) / 8) (V w D))=V w D:=by refine bA3 _ _ (Nat.lt_of_lt_of_le hv (Nat.pow_le_pow_right (by decide) ?_));generalize n * w=a;omega
theorem bCl {x:Int} {l:List Int} (hl:(x::l).length<=4096) (hi:I64 (x::l)):pP (x::l).length (pk (x::l))=some (x::l,[]):=by
 have hlo:=aLe hi;have hle:=aKg (x:=x) (l:=l);have hw:wdt (ds (mn x l) (x::l))<=64:=by
  have:=aKr hi hlo hle (x::l).length
  rwa [List.take_of_length_le (by rw [vR]; exact Nat.le_refl _)] at this
 have hL:=aS6 (ds (mn x l) (x::l));have hv:=aU0 hL;rw [vR] at hv;unfold pP;simp only [pk];generalize wdt (ds (mn x l) (x::l))=w at hw hL hv ⊢;rw [List.append_assoc,aMp hlo];simp only [List.singleton_append,pB,Int.toNat_natCast];have hV8:=aYn hv;rw [aU2,hV8,if_pos ⟨by omega,by rw [aD2,tV],hv⟩];congr 2;refine aO3 (by simp [rK]) λj hj=>?_;rw [List.length_map,rK] at hj;have hx:=List.getElem?_eq_getElem hj;have hm:=hi.get hx;have hmle:=hle _ (List.mem_of_getElem? hx);rw [List.getElem?_map,aEk hj,aW3 hL (aNk hx),hx];simp only [Option.map_some,Option.some.injEq];exact aUu hm hlo hmle
theorem aUi {w:Nat} {l:List Int} (hw:w<4) (hl:l.length<=4096) (hi:I64 l):vH (asL w l)=some l:=by
 unfold vH aF6 asL;simp only [pB];rw [if_pos (by omega),aG0 (by omega) _ (by omega)];simp only [Int.toNat_natCast];have key:aJb (w:Int) l.length (body w l)=some (l,[]):=by
  unfold aJb
  match w,hw with
  | 0,_ =>
   rw [if_pos (by rfl)];have:=aM0 l [] hi
   rwa [List.append_nil] at this
  | 1,_ =>
   rw [if_neg (by decide),if_pos (by rfl)];have:=aXp l [] 0 hi
   rwa [List.append_nil] at this
  | 2,_ =>
   rw [if_neg (by decide),if_neg (by decide),if_pos (by rfl)];have:=aXx l.length l [] hi (Nat.le_refl _) hl
   rwa [List.append_nil] at this
  | 3,_ =>
   rw [if_neg (by decide),if_neg (by decide),if_neg (by decide)];cases l with
   | nil=>rfl
   | cons x l=>rw [if_pos (by simp)]; exact bCl hl hi
 rw [key]
theorem aDs (a b:List Int):iW a b=a\/iW a b=b:=by
 unfold iW;split
 ·exact .inr rfl
 ·exact .inl rfl
theorem aDz (a b:List Int):(iW a b).length<=a.length/\(iW a b).length<=b.length:=by unfold iW;split <;> omega
theorem aG5 (l:List Int):∃ w<4,fW l=asL w l:=by
 unfold fW;rcases aDs (iW (iW (asL 0 l) (asL 1 l)) (asL 2 l)) (asL 3 l) with h | h
 ·rw [h];rcases aDs (iW (asL 0 l) (asL 1 l)) (asL 2 l) with h | h
  ·rw [h];rcases aDs (asL 0 l) (asL 1 l) with h | h
   ·exact⟨0,by decide,h⟩
   ·exact⟨1,by decide,h⟩
  ·exact⟨2,by decide,h⟩
 ·exact⟨3,by decide,h⟩
theorem aR8 (l:List Int) {w:Nat} (hw:w<4):(fW l).length<=(asL w l).length:=by
 have h3:=aDz (iW (iW (asL 0 l) (asL 1 l)) (asL 2 l)) (asL 3 l);have h2:=aDz (iW (asL 0 l) (asL 1 l)) (asL 2 l);have h1:=aDz (asL 0 l) (asL 1 l);unfold fW
 match w,hw with
 | 0,_=>omega
 | 1,_=>omega
 | 2,_=>omega
 | 3,_=>omega
theorem aAo {l:List Int} (hl:l.length<=4096) (hi:I64 l):vH (fW l)=some l:=by obtain⟨w,hw,e⟩:=aG5 l;rw [e,aUi hw hl hi]
theorem Bs.ofN {D:List Nat} (h:Lt 8 D):Bs (ofN D):=by intro b hb;obtain⟨d,hd,rfl⟩:=List.mem_map.1 hb;have:=h d hd;omega
theorem aW7:∀ (l:List Int),Bs (b0 l)
 | []=>Bs.nil
 | x::l=>by
  have e:b0 (x::l)=uv (zz x)++b0 l:=by simp [b0]
  rw [e];exact (Bs.uv _).app (aW7 l)
theorem aW8:∀ (l:List Int) (a:Int),Bs (bD a l)
 | [],_=>Bs.nil
 | x::l,a=>(Bs.uv _).app (aW8 l x)
theorem aSo:∀ (l:List Int) (k:Nat),Bs (bR k l)
 | [],_=>Bs.nil
 | [x],k=>(Bs.uv _).app (Bs.uv _)
 | x::y::l,k=>by
  unfold bR;split
  ·exact aSo (y::l) _
  ·exact ((Bs.uv _).app (Bs.uv _)).app (aSo (y::l) _)
theorem bCu {l:List Int} (hi:I64 l):Bs (pk l):=by
 cases l with
 | nil=>exact Bs.nil
 | cons x l =>
  have hlo:=aLe hi;have hle:=aKg (x:=x) (l:=l);have hw:wdt (ds (mn x l) (x::l))<=64:=by
   have:=aKr hi hlo hle (x::l).length
   rwa [List.take_of_length_le (by rw [vR]; exact Nat.le_refl _)] at this
  exact ((Bs.uv _).app (Bs.mk (by omega) Bs.nil)).app (Bs.ofN (bB0 _ _))
theorem bB6 {w:Nat} {l:List Int} (hw:w<4) (hi:I64 l):Bs (asL w l):=by
 refine Bs.mk (by omega) ((Bs.uv _).app ?_)
 match w,hw with
 | 0,_=>exact aW7 l
 | 1,_=>exact aW8 l 0
 | 2,_=>exact aSo l 0
 | 3,_=>exact bCu hi
theorem aZs {l:List Int} (hl:l.length<=4096) (hi:I64 l):(pk l).length<=11+(l.length * 64+7) / 8:=by
 cases l with
 | nil=>simp [pk]
 | cons x l =>
  have hlo:=aLe hi;have hle:=aKg (x:=x) (l:=l);have hw:wdt (ds (mn x l) (x::l))<=64:=by
   have:=aKr hi hlo hle (x::l).length
   rwa [List.take_of_length_le (by rw [vR]; exact Nat.le_refl _)] at this
  have hz:=aL (wF hlo);have:=Nat.mul_le_mul_left (x::l).length hw;simp only [pk,List.length_append,List.length_singleton,aD2,tV];generalize (x::l).length=n at *;omega
theorem aYl {w:Nat} {l:List Int} (hw:w<4) (hl:l.length<=4096) (hi:I64 l):(asL w l).length<=1048576:=by
 have hu:=aL (n:=l.length) (by omega);unfold asL;simp only [List.length_cons,List.length_append]
 match w,hw with
 | 0,_=>have:=aKn hi; simp only [body]; omega
 | 1,_=>have:=aNq l 0; simp only [body]; omega
 | 2,_=>have:=aOk l 0 hi (by omega); simp only [body]; omega
 | 3,_=>have:=aZs hl hi; simp only [body]; omega
def aRn (a:Nat):Bool:=a / 4503599627370496 % 2048==2047&&a % 4503599627370496 != 0
theorem aOq (d:Ieee.Datum):(d.order d==some .eq) = !d.isNaN:=by
 cases d with
 | number s m p=>simp [Ieee.Datum.order,Ieee.Datum.isNaN]
 | infinity s=>simp [Ieee.Datum.order,Ieee.Datum.isNaN]
 | nan s f=>simp [Ieee.Datum.order,Ieee.Datum.isNaN]
theorem aS3 (a:Nat):feq a a = !aRn a:=by
 unfold feq Ieee.Format.order;rw [aOq];congr 1;unfold Ieee.Format.read aRn;have e1:FloatKind.f64.format.signWeight=9223372036854775808:=by decide
 have e2:FloatKind.f64.format.binade=4503599627370496:=by decide
 have e3:FloatKind.f64.format.infRung=9218868437227405312:=by decide
 simp only [e1,e2,e3];rw [Bool.eq_iff_iff];simp only [Bool.and_eq_true,beq_iff_eq,bne_iff_ne,ne_eq];split
 ·simp [Ieee.Datum.isNaN]; omega
 ·split
  ·simp [Ieee.Datum.isNaN]; omega
  ·split
   ·simp [Ieee.Datum.isNaN]; omega
   ·simp [Ieee.Datum.isNaN]; omega
def lT (a:Nat):Nat:=if aRn a then 9221120237041090560 else a
theorem yY (a:Nat):lT (lT a)=lT a:=by
 unfold lT;cases h:aRn a with
 | true=>rw [if_pos rfl,if_pos (by decide)]
 | false=>simp [h]
theorem aMw {a:Nat} (h:a<18446744073709551616):lT a<18446744073709551616:=by unfold lT; split <;> omega
theorem aI9 (a:Nat):vU a=some (lT a):=by unfold vU aA1 lT;simp only [Option.bind_some,aS3];cases aRn a <;> rfl
theorem aIj (a:Nat):xT a=some (lT a:Int):=by unfold xT;rw [aI9]; rfl
theorem aTp (a:Int):aEi a=some (lT a.toNat):=by unfold aEi;rw [aI9]; rfl
def rl (l:List Nat):List Int:=l.map λx=>IntKind.i64.wrap (lT x:Int)
theorem aJy (l:List Nat):I64 (rl l):=λx hx=>by obtain⟨y,_,rfl⟩:=List.mem_map.1 hx;exact aCi _
theorem aDa (l:List Nat):(rl l).length=l.length:=by simp [rl]
theorem aWc {l:List Nat} {k x:Nat} (h:l[k]?=some x):rl (l.take (k+1))=rl (l.take k)++[IntKind.i64.wrap (lT x:Int)]:=by unfold rl;rw [List.take_add_one,h,List.map_append]; rfl
theorem aQz {l:List Nat} (h:l.length<=4096):uR l=some (fW (rl l)):=by
 unfold uR;have:=kD (b:=λs:List Int×Int=>jC l s.1 s.2) (λk=>(rl (l.take k),(k:Int))) (t:=rl l) l.length (λk hk=>by
  have hx:=List.getElem?_eq_getElem hk;have hlen:(rl (l.take k)).length=k:=by rw [aDa,List.length_take]; omega
  show jC l (rl (l.take k)) (k:Int)=_;unfold jC;rw [if_pos (by simp only [decide_eq_true_eq]; omega),bG rfl hx];simp only [Option.bind_some];rw [aIj];simp only [Option.bind_some,lt_];rw [bM (by rw [hlen]; simp only [List.length_singleton]; omega),w64 (n:=(k:Int)+1) (by omega) (by omega), ← aWc hx];rfl) (by
  show jC l (rl (l.take l.length)) (l.length:Int)=_;unfold jC;rw [if_neg (by simp),List.take_length])
 rw [show (([],0):List Int×Int)=(λk=>(rl (l.take k),(k:Int))) 0 by simp [rl],this];simp only [Option.bind_some];unfold rA tF;rw [aBo (by rw [aDa]; exact h) (aJy l)];rfl
def ub (b:Int):Nat:=(IntKind.u64.wrap b).toNat
theorem aXo (b:Int):IntKind.u64.wrap b=(ub b:Int):=by unfold ub;rw [IntKind.wrap_u64]; omega
def aE7 (l:List Int):Option (List Nat):=if l.all (λb=>lT (ub b)==ub b)=true then some (l.map ub) else none
theorem aG7 (l:List Int) (f:Int) (h:l.length<=4096):∀ (m k:Nat),k+m=l.length->(∀ b∈l.take k,lT (ub b)=ub b) ->
  loop (λs:List Nat×Int=>dL (l,f) s.1 s.2) ((l.take k).map ub,(k:Int))=some (if (l.drop k).all (λb=>lT (ub b)==ub b)=true then .inl (l.map ub) else .inr ([],3))
 | 0,k,hk,ha=>by
  rw [bF (t:=Sum.inl (l.map ub)) (by
   show dL (l,f) ((l.take k).map ub) (k:Int)=_;unfold dL;rw [if_neg (by simp only [decide_eq_true_eq]; omega),show k=l.length by omega,List.take_length]),show k=l.length by omega,List.drop_length]
  rfl
 | m+1,k,hk,ha=>by
  have hkl:k<l.length:=by omega
  have hx:=List.getElem?_eq_getElem hkl;have hd:l.drop k=l[k]::l.drop (k+1):=List.drop_eq_getElem_cons hkl;rw [hd,List.all_cons];have hlen:((l.take k).map ub).length=k:=by simp; omega
  by_cases hc:lT (ub l[k])=ub l[k]
  ·rw [show (lT (ub l[k])==ub l[k])=true by simpa using hc,Bool.true_and,cH (s':=((l.take (k+1)).map ub,((k+1:Nat):Int))) (by
    show dL (l,f) ((l.take k).map ub) (k:Int)=_;unfold dL;rw [if_pos (by simp only [decide_eq_true_eq]; omega),bG rfl hx];simp only [Option.bind_some,lt_];rw [aXo,aTp];simp only [Option.bind_some];rw [aIj];simp only [Option.bind_some,Int.toNat_natCast];rw [yY,hc,if_neg (by simp),bM (by rw [hlen]; simp only [List.length_singleton]; omega),w64 (by omega) (by omega),uB hx,List.map_append];rfl)]
   exact aG7 l f h m (k+1) (by omega) (λb hb=>by
    rw [uB hx] at hb;rcases List.mem_append.1 hb with q | q
    ·exact ha b q
    ·rw [List.mem_singleton.1 q]; exact hc)
  ·rw [show (lT (ub l[k])==ub l[k])=false by simpa using hc,Bool.false_and,if_neg (by simp)];refine bF ?_;show dL (l,f) ((l.take k).map ub) (k:Int)=_;unfold dL;rw [if_pos (by simp only [decide_eq_true_eq]; omega),bG rfl hx];simp only [Option.bind_some,lt_];rw [aXo,aTp];simp only [Option.bind_some];rw [aIj];simp only [Option.bind_some,Int.toNat_natCast];rw [yY,if_pos (by simp only [bne_iff_ne,ne_eq,Int.natCast_inj]; exact hc)]
theorem aJg:∀ (n:Nat) (xs:List Int) {l r:List Int},aBe n xs=some (l,r)->l.length=n
 | 0,xs,l,r,h=>by cases h; rfl
 | n+1,xs,l,r,h=>by
  unfold aBe at h;split at h
  ·split at h
   ·rename_i he;cases h;simp [aJg n _ he]
   ·cases h
  ·cases h
theorem aTi:∀ (n:Nat) (a:Int) (xs:List Int) {l r:List Int},pD a n xs=some (l,r)->l.length=n
 | 0,a,xs,l,r,h=>by cases h; rfl
 | n+1,a,xs,l,r,h=>by
  unfold pD at h;split at h
  ·split at h
   ·rename_i he;cases h;simp [aTi n _ _ he]
   ·cases h
  ·cases h
theorem aRr:∀ (f n:Nat) (xs:List Int) {l r:List Int},pR f n xs=some (l,r)->l.length<=n
 | 0,n,xs,l,r,h=>by cases h; simp
 | f+1,n,xs,l,r,h=>by
  unfold pR at h;split at h
  ·cases h; simp
  ·split at h
   ·split at h
    ·rename_i hk;split at h
     ·rename_i he;cases h;have:=aRr f _ _ he;have:=(tH hk).1;simp only [List.length_append,List.length_replicate];omega
     ·cases h
    ·cases h
   ·cases h
theorem aZf (n:Nat) (xs:List Int) {l r:List Int} (h:pP n xs=some (l,r)):l.length=n:=by
 unfold pP at h;split at h
 ·split at h
  ·split at h
   ·cases h;rw [List.length_map,rK]
   ·cases h
  ·cases h
 ·cases h
theorem aQ7 (w:Int) (n:Nat) (xs:List Int) {l r:List Int} (h:aJb w n xs=some (l,r)):l.length<=n:=by
 unfold aJb at h;split at h
 ·exact Nat.le_of_eq (aJg _ _ h)
 ·split at h
  ·exact Nat.le_of_eq (aTi _ _ _ h)
  ·split at h
   ·exact aRr _ _ _ h
   ·split at h
    ·exact Nat.le_of_eq (aZf _ _ h)
    ·cases h; simp
theorem aJd {xs l r:List Int} (h:aF6 xs=some (l,r)):l.length<=4096:=by
 unfold aF6 at h;split at h
 ·split at h
  ·split at h
   ·rename_i hu;have:=aQ7 _ _ _ h;have:=(tH hu).1;omega
   ·cases h
  ·cases h
 ·cases h
theorem aJs {xs l:List Int} (h:vH xs=some l):l.length<=4096:=by
 unfold vH at h;split at h
 ·cases h; exact aJd (by assumption)
 ·cases h
theorem aIs {xs:List Int} (hB:Bs xs) (hl:xs.length<1099511627776):oW xs=some (match (vH xs).bind aE7 with | some l=>(l,0) | none=>([],3)):=by
 unfold oW;rw [xC hB hl];simp only [Option.bind_some];cases h:vH xs with
 | none=>rfl
 | some l =>
  simp only [Option.bind_some];rw [if_neg (by simp)];have:=aG7 l 0 (aJs h) l.length 0 (by omega) (λb hb=>by simp at hb);simp only [List.take_zero,List.map_nil,List.drop_zero] at this;rw [show ((0:Nat):Int)=0 from rfl] at this;rw [this];unfold aE7;simp only [Option.bind_some];cases (l.all λb=>lT (ub b)==ub b)
  ·rfl
  ·rfl
theorem aOe {l:List Nat} (h:∀ x∈l,x<18446744073709551616):aE7 (rl l)=some (l.map lT):=by
 have hu:∀ x∈l,ub (IntKind.i64.wrap (lT x:Int))=lT x:=by intro x hx;have:=aMw (h x hx);unfold ub;rw [IntKind.wrap_u64,IntWalk.i64_left];unfold wrap64;omega
 unfold aE7 rl;rw [if_pos]
 ·rw [List.map_map];congr 1;exact List.map_congr_left λx hx=>hu x hx
 ·rw [List.all_eq_true];intro b hb;obtain⟨x,hx,rfl⟩:=List.mem_map.1 hb;rw [hu x hx,yY];simp
def IsT (B acc:List Int) (t:List Int×Int×List Int) (p:Option (List Int×List Int)):Prop :=
 match p with
 | some (l,r)=>∃ q:Nat,t=(B,(q:Int),acc++l)/\q<=B.length/\B.drop q=r
 | none=>∃ a,t=(B,-1,a)
theorem IsT.cons {B acc:List Int} {t:List Int×Int×List Int} {p:Option (List Int×List Int)} (x:List Int) (h:IsT B (acc++x) t p) :
  IsT B acc t (match (generalizing:=false) p with | some (l,r)=>some (x++l,r) | none=>none):=by
 cases p with
 | none=>exact h
 | some y =>
  obtain⟨q,h1,h2,h3⟩:=h;exact⟨q,by rw [h1,List.append_assoc],h2,h3⟩
section
variable {B:List Int} (hBs:Bs B) (hB:B.length<1099511627776)
include hBs hB
end
section
variable {B:List Int} (hBs:Bs B) (hB:B.length<1099511627776)
include hBs hB
end
section
variable {B xs:List Int} {p:Nat} (hp:p<=B.length) (hx:B.drop p=xs) (hBs:Bs xs) (hB:B.length<1099511627776) (hs:xs.length<=32768)
include hp hx hBs hB hs
end
def aIb (acc:List (List UInt8)) (t:List UInt8):Bool:=match acc[acc.length - 1]? with
 | some y=>Op.bytesLess y t
 | none=>true
def aDj (acc:List (List UInt8)):Nat->List Int->Option (List (List UInt8)×List Int)
 | 0,xs=>some (acc,xs)
 | n+1,xs=>match pT 32 xs with
  | some (t,r)=>if aIb acc t=true then aDj (acc++[t]) n r else none
  | none=>none
def okI (n:Nat) (ix:List Int):Bool:=ix.all λi=>decide (0<=i/\i<(n:Int))
def usd (n:Nat) (ix:List Int):List Bool:=(List.range n).map λ(j:Nat)=>decide ((j:Int)∈ix)
def tx (ds:List (List UInt8)) (ix:List Int):List (List UInt8):=ix.map λi=>ds.getD i.toNat []
def aIf (xs:List Int):Option (List (List UInt8)×List Int):=match pU 4096 xs with
 | some (n,r)=>match aDj [] n.toNat r with
  | some (ds,r')=>match aF6 r' with
   | some (ix,r'')=>if okI ds.length ix=true/\false∉usd ds.length ix then some (tx ds ix,r'') else none
   | none=>none
  | none=>none
 | none=>none
theorem aPb {most:Int} {xs r:List Int} {t:List UInt8} (hB:Bs xs) (h:pT most xs=some (t,r)):Bs r/\r.length<=xs.length:=by
 unfold pT at h;split at h
 ·rename_i n r' he;obtain⟨_,p,hp,_⟩:=tH he;have hb:=aNe hB he;split at h
  ·cases h;refine⟨hb.drop _,?_⟩;rw [hp]; simp; omega
  ·cases h
 ·cases h
theorem aMq:∀ (n:Nat) (acc:List (List UInt8)) (xs:List Int) {ds:List (List UInt8)} {r:List Int},Bs xs->aDj acc n xs=some (ds,r)->Bs r/\r.length<=xs.length/\ds.length=acc.length+n
 | 0,acc,xs,ds,r,hB,h=>by cases h; exact⟨hB,Nat.le_refl _,rfl⟩
 | n+1,acc,xs,ds,r,hB,h=>by
  unfold aDj at h;split at h
  ·rename_i t r' he;obtain⟨h1,h2⟩:=aPb hB he;split at h
   ·obtain⟨g1,g2,g3⟩:=aMq n _ _ h1 h;refine⟨g1,by omega,?_⟩;rw [g3,List.length_append,List.length_singleton]; omega
   ·cases h
  ·cases h
theorem aL8 (l:List Bool) (b:Bool) (h:l.length<1099511627776):gK l b=some (decide (b∈l)):=by
 unfold gK lR;have key:∀ (m k:Nat),k+m=l.length->∃ y,loop (λs:Int=>dP l b s) (k:Int)=some y/\if b∈l.drop k then ∃ j:Nat,y=.inr (j:Int) else y=.inl ():=by
  intro m
  induction m with
  | zero =>
   intro k hk;refine⟨.inl (),bF ?_,?_⟩
   ·unfold dP;rw [if_neg (by simp only [decide_eq_true_eq]; omega)]
   ·rw [List.drop_of_length_le (by omega),if_neg (by simp)]
  | succ m ih =>
   intro k hk;have hkl:k<l.length:=by omega
   have hx:=List.getElem?_eq_getElem hkl;have hd:l.drop k=l[k]::l.drop (k+1):=List.drop_eq_getElem_cons hkl;rw [hd];by_cases hb:b=l[k]
   ·refine⟨.inr (k:Int),bF ?_,?_⟩
    ·unfold dP;rw [if_pos (by simp only [decide_eq_true_eq]; omega),bG rfl hx];simp only [Option.bind_some];rw [if_pos (by simpa using hb)]
    ·rw [if_pos (by rw [hb]; exact List.mem_cons_self)];exact⟨k,rfl⟩
   ·obtain⟨y,hy,hm⟩:=ih (k+1) (by omega);refine⟨y,(cH (s':=((k+1:Nat):Int)) ?_).trans hy,?_⟩
    ·unfold dP;rw [if_pos (by simp only [decide_eq_true_eq]; omega),bG rfl hx];simp only [Option.bind_some];rw [if_neg (by simpa using hb),lt_,w64 (by omega) (by omega)];rfl
    ·have he:(b∈l[k]::l.drop (k+1))=(b∈l.drop (k+1)):=propext ⟨λh=>(List.mem_cons.1 h).resolve_left hb,λh=>List.mem_cons_of_mem _ h⟩;simpa only [he] using hm
 obtain⟨y,hy,hm⟩:=key l.length 0 (by omega);rw [show ((0:Nat):Int)=0 from rfl] at hy;rw [hy,List.drop_zero] at *;by_cases hb:b∈l
 ·rw [if_pos hb] at hm;obtain⟨j,rfl⟩:=hm;simp only [Option.bind_some];rw [show decide (0<=(j:Int))=true by simp,show decide (b∈l)=true by simpa using hb]
 ·rw [if_neg hb] at hm;subst hm;rw [show decide (b∈l)=false by simpa using hb];rfl
theorem aTs (n:Nat) (ix:List Int) (k:Nat) {x:Int} (h:ix[k]?=some x):okI n (ix.take (k+1))=(okI n (ix.take k)&&decide (0<=x/\x<(n:Int))):=by unfold okI;rw [uB h,List.all_append];simp
theorem aSa {n:Nat} {ix:List Int} (h:okI n ix=true) (k:Nat):okI n (ix.take k)=true:=by unfold okI at *;rw [List.all_eq_true] at *;exact λx hx=>h x (List.mem_of_mem_take hx)
theorem aSq (n:Nat) (ix:List Int) {x:Int} (hx:0<=x/\x<(n:Int)):usd n (ix++[x])=(usd n ix).set x.toNat true:=by
 apply List.ext_getElem? λj=>?_;unfold usd;rw [List.getElem?_set];simp only [List.getElem?_map,List.length_map,List.length_range];rcases Nat.lt_or_ge j n with hj | hj
 ·rw [List.getElem?_range hj];by_cases e:x.toNat=j
  ·rw [if_pos e,if_pos (by omega)];simp;right; omega
  ·rw [if_neg e];have:¬ (j:Int)=x:=by omega
   simp [this]
 ·rw [List.getElem?_eq_none (by simpa using hj)];rw [if_neg (by omega)];rfl
theorem aUf (n:Nat):usd n []=List.replicate n false:=by unfold usd;rw [List.eq_replicate_iff];refine⟨by simp,λb hb=>?_⟩;obtain⟨q,_,rfl⟩:=List.mem_map.1 hb;simp
theorem aIi (n:Nat) (ix:List Int):(usd n ix).length=n:=by simp [usd]
theorem aYk (n:Nat) (ix:List Int) {x:Int} (hx:0<=x/\x<(n:Int)):∃ b,at_ (usd n ix) x=some b:=by
 have:x.toNat<(usd n ix).length:=by rw [aIi]; omega
 exact⟨_,bG (n:=x.toNat) (by omega) (List.getElem?_eq_getElem this)⟩
theorem bCf (ds:List (List UInt8)) {x:Int} (hx:0<=x/\x<(ds.length:Int)):at_ ds x=some (ds.getD x.toNat []):=by
 have:x.toNat<ds.length:=by omega
 refine bG (n:=x.toNat) (by omega) ?_;rw [List.getD_eq_getElem?_getD,List.getElem?_eq_getElem this];rfl
theorem aVd (ds:List (List UInt8)) (ix:List Int) (x:Int):tx ds (ix++[x])=tx ds ix++[ds.getD x.toNat []]:=by unfold tx; rw [List.map_append]; rfl
theorem aQ0 (ds:List (List UInt8)) (ix:List Int):(tx ds ix).length=ix.length:=by simp [tx]
theorem aJf (ds:List (List UInt8)) (ix:List Int) (Y:S140) (xs:List Int) (hl:ix.length<=4096):∀ (m k:Nat),k+m=ix.length->okI ds.length (ix.take k)=true ->
  ∃ y,loop (λs:List Int×List (List UInt8)×List Bool×Int=>cA ds (ix,Y) s.1 s.2.1 s.2.2.1 s.2.2.2) (xs,tx ds (ix.take k),usd ds.length (ix.take k),(k:Int))=some y /\
   if okI ds.length ix=true then y=.inl (xs,tx ds ix,usd ds.length ix) else ∃ s,y=.inr (.inr s)
 | 0,k,hk,ha=>by
  have hke:k=ix.length:=by omega
  subst hke;rw [List.take_length] at ha ⊢;refine⟨.inl (xs,tx ds ix,usd ds.length ix),bF ?_,by rw [if_pos ha]⟩;show cA ds (ix,Y) xs (tx ds ix) (usd ds.length ix) (ix.length:Int)=_;unfold cA;rw [if_neg (by simp)]
 | m+1,k,hk,ha=>by
  have hkl:k<ix.length:=by omega
  have hx:=List.getElem?_eq_getElem hkl;have hok:=aTs ds.length ix k hx;have hno:∀ s,cA ds (ix,Y) xs (tx ds (ix.take k)) (usd ds.length (ix.take k)) (k:Int)=some (.inr (.inr (.inr s)))->¬ (0<=ix[k]/\ix[k]<(ds.length:Int)) ->
    ∃ y,loop (λs:List Int×List (List UInt8)×List Bool×Int=>cA ds (ix,Y) s.1 s.2.1 s.2.2.1 s.2.2.2) (xs,tx ds (ix.take k),usd ds.length (ix.take k),(k:Int))=some y /\
   if okI ds.length ix=true then y=.inl (xs,tx ds ix,usd ds.length ix) else ∃ s,y=.inr (.inr s):=by
   intro s hs hn;refine⟨_,bF hs,?_⟩;rw [if_neg]
   ·exact⟨_,rfl⟩
   ·intro h;have:=aSa h (k+1);rw [hok] at this;simp only [Bool.and_eq_true,decide_eq_true_eq] at this;exact hn this.2
  by_cases h0:0<=ix[k]
  ·by_cases h1:ix[k]<(ds.length:Int)
   ·obtain⟨b,hb⟩:=aYk ds.length (ix.take k) ⟨h0,h1⟩;obtain⟨y,hy,hm⟩:=aJf ds ix Y xs hl m (k+1) (by omega) (by rw [hok,ha]; simp [h0,h1]);rw [uB hx,aVd,aSq _ _ ⟨h0,h1⟩] at hy;refine⟨y,(cH (s':=(xs,tx ds (ix.take k)++[ds.getD ix[k].toNat []],(usd ds.length (ix.take k)).set ix[k].toNat true,((k+1:Nat):Int))) ?_).trans hy,hm⟩;show cA ds (ix,Y) xs (tx ds (ix.take k)) (usd ds.length (ix.take k)) (k:Int)=_;unfold cA;rw [if_pos (by simp only [decide_eq_true_eq]; omega),bG rfl hx];simp only [Option.bind_some];rw [if_pos (by simpa using h0),show decide (ix[k]<(ds.length:Int))=true by simpa using h1,mN];simp only [Option.bind_some,iA];unfold jM;rw [hb,bCf _ ⟨h0,h1⟩];simp only [Option.bind_some];rw [bM (by rw [aQ0]; simp; omega),lt_,w64 (by omega) (by omega)];rfl
   ·refine hno (⟨xs⟩,tx ds (ix.take k)) ?_ (λc=>h1 c.2);unfold cA;rw [if_pos (by simp only [decide_eq_true_eq]; omega),bG rfl hx];simp only [Option.bind_some];rw [if_pos (by simpa using h0),show decide (ix[k]<(ds.length:Int))=false by simpa using h1,rS];rfl
  ·refine hno (⟨xs⟩,tx ds (ix.take k)) ?_ (λc=>h0 c.1);unfold cA;rw [if_pos (by simp only [decide_eq_true_eq]; omega),bG rfl hx];simp only [Option.bind_some];rw [if_neg (by simpa using h0),rS];rfl
theorem aHt (Y:Int×S140) (n:Nat) (hY:Y.1=(n:Int)) (hn:n<=4096):∀ (m k:Nat) (acc:List (List UInt8)) (xs:List Int),Bs xs->xs.length<1099511627776->k+m=n->acc.length=k ->
  ∃ y,loop (λs:List Int×List (List UInt8)×Int=>cZ [] Y s.1 s.2.1 s.2.2) (xs,acc,(k:Int))=some y/\match aDj acc m xs with
   | some (l,r)=>y=.inl (r,l)
   | none=>∃ s,y=.inr (.inr s)
 | 0,k,acc,xs,hB,hl,hk,ha=>by refine⟨.inl (xs,acc),bF ?_,rfl⟩;show cZ [] Y xs acc (k:Int)=_;unfold cZ;rw [hY,if_neg (by simp only [decide_eq_true_eq]; omega)]
 | m+1,k,acc,xs,hB,hl,hk,ha=>by
  unfold aDj;rcases (aKt 32 hB (by omega)).cases with ⟨t,r,h1,h2⟩ | ⟨h1,s,h2⟩
  ·rw [h1];obtain⟨hBr,hlr⟩:=aPb hB h1;have hl2:∀ (z:S140⊕S140),aI (⟨r⟩:S140) (aIb acc t)=some z->cZ [] Y xs acc (k:Int)=(fL z (λy=>gV acc (k:Int) (t,⟨r⟩) y.f0) (λy=>some (.inr (.inr (.inr (y,[])))))):=by
    intro z hz;unfold cZ;rw [hY,if_pos (by simp only [decide_eq_true_eq]; omega),h2];simp only [Option.bind_some,iA,lt_];unfold aIb at hz;by_cases h0:acc.length=0
    ·rw [List.getElem?_eq_none (by omega)] at hz;rw [if_pos (by simpa using h0),hz];rfl
    ·have hx:=List.getElem?_eq_getElem (l:=acc) (i:=acc.length - 1) (by omega);rw [hx] at hz;rw [if_neg (by simpa using h0),w64 (by omega) (by omega),bG (n:=acc.length - 1) (by omega) hx];simp only [Option.bind_some];rw [hz];rfl
   by_cases hr:aIb acc t=true
   ·obtain⟨y,hy,hm⟩:=aHt Y n hY hn m (k+1) (acc++[t]) r hBr (by omega) (by omega) (by simp [ha]);simp only [hr,if_true];refine⟨y,(cH (s':=(r,acc++[t],((k+1:Nat):Int))) ?_).trans hy,hm⟩;refine (hl2 _ (by rw [hr,mN])).trans ?_;rw [iA];unfold gV;rw [bM (by simp; omega),lt_,nO (by omega) (by omega)];rfl
   ·rw [Bool.not_eq_true] at hr;simp only [hr,Bool.false_eq_true,if_false];exact⟨_,bF ((hl2 _ (by rw [hr,rS])).trans rfl),_,rfl⟩
  ·rw [h1];refine⟨_,bF (t:=Sum.inr (.inr (s,[]))) ?_,_,rfl⟩;show cZ [] Y xs acc (k:Int)=_;unfold cZ;rw [hY,if_pos (by simp only [decide_eq_true_eq]; omega),h2];rfl
theorem aRk {xs:List Int} (hB:Bs xs) (hl:xs.length<1099511627776):match aIf xs with
  | some (T,r)=>kC ⟨xs⟩ []=some (.inl (⟨r⟩,T))
  | none=>∃ s,kC ⟨xs⟩ []=some (.inr s):=by
 unfold kC aIf;rcases (aCm 4096 hB).cases with ⟨n,r,h1,h2⟩ | ⟨h1,s,h2⟩
 ·rw [h1,h2];obtain⟨⟨q1,q2,q3⟩,p,hp,_⟩:=tH h1;have hBr:=aNe hB h1;have hrl:r.length<=xs.length:=by rw [hp]; simp
  obtain⟨n,rfl⟩:∃ m:Nat,n=(m:Int):=⟨n.toNat,by omega⟩;simp only [Option.bind_some,iA,Int.toNat_natCast];obtain⟨y,hy,hm⟩:=aHt ((n:Int),⟨r⟩) n rfl (by omega) n 0 [] r hBr (by omega) (by omega) rfl;rw [show ((0:Nat):Int)=0 from rfl] at hy;rw [hy];simp only [Option.bind_some];cases hd:aDj [] n r with
  | none =>
   rw [hd] at hm;obtain⟨s,rfl⟩:=hm;exact⟨s,rfl⟩
  | some z =>
   obtain⟨ds,r'⟩:=z;rw [hd] at hm;simp only at hm;subst hm;obtain⟨hBr',hrl',hdl⟩:=aMq n _ _ hBr hd;have hdl':ds.length=n:=by simpa using hdl
   simp only;unfold lB mP;rw [bM (by omega)];rcases (aPj hBr' (by omega)).cases with ⟨ix,r'',h3,h4⟩ | ⟨h3,s,h4⟩
   ·rw [h3,h4];have hil:=aJd h3;simp only [Option.bind_some,iA];obtain⟨y,hy,hm⟩:=aJf ds ix ⟨r''⟩ r'' hil ix.length 0 (by omega) rfl;rw [List.take_zero,aUf,show ((0:Nat):Int)=0 from rfl] at hy;rw [Int.toNat_natCast];have e0:tx ds []=[]:=rfl;rw [e0] at hy;rw [hy];simp only [Option.bind_some];by_cases hok:okI ds.length ix=true
    ·rw [if_pos hok] at hm;subst hm;simp only;unfold kZ mO;rw [aL8 _ _ (by rw [aIi]; omega)];simp only [Option.bind_some];by_cases hu:false∈usd ds.length ix
     ·rw [show decide (false∈usd ds.length ix)=true by simpa using hu,Bool.not_true,rS,if_neg (λc=>c.2 hu)];exact⟨_,rfl⟩
     ·rw [show decide (false∈usd ds.length ix)=false by simpa using hu,Bool.not_false,mN,if_pos ⟨hok,hu⟩];rfl
    ·rw [if_neg hok] at hm;obtain⟨s,rfl⟩:=hm;rw [if_neg (λc=>hok c.1)];exact⟨s,rfl⟩
   ·rw [h3,h4];exact⟨_,rfl⟩
 ·rw [h1,h2];exact⟨_,rfl⟩
def aJq (xs:List Int):Option (List (List UInt8)):=match aIf xs with
 | some (T,[])=>some T
 | _=>none
theorem aIp {xs:List Int} (hB:Bs xs) (hl:xs.length<1099511627776):oZ xs=some (match aJq xs with | some T=>(T,0) | none=>([],3)):=by
 unfold oZ pX aJq;have h:=aRk hB hl;cases hp:aIf xs with
 | none =>
  rw [hp] at h;obtain⟨s,hs⟩:=h;rw [hs];rfl
 | some z =>
  obtain⟨T,r⟩:=z;rw [hp] at h;simp only at h;rw [h];cases r with
  | nil=>rfl
  | cons b r =>
   simp only [Option.bind_some,iA];rw [show (((b::r).length:Int)==0)=false by simp; omega];rfl
def aMz (xs:List Int):Option (List Nat):=(vH xs).bind aE7
structure SWO {α:Type} (lt:α->α->Bool):Prop where
 irr:∀ a,lt a a=false
 trans:∀ a b c,lt a b=true->lt b c=true->lt a c=true
 neg:∀ a b c,lt a c=true->lt a b=true\/lt b c=true
section
variable {α:Type} {lt:α->α->Bool}
def ins (lt:α->α->Bool) (x:α):List α->List α
 | []=>[x]
 | y::l=>if lt x y then x::y::l else y::ins lt x l
def sortL (lt:α->α->Bool) (l:List α):List α:=l.foldl (λacc x=>ins lt x acc) []
def Srt (lt:α->α->Bool) (l:List α):Prop:=l.Pairwise λa b=>lt b a=false
theorem aHm (x:α):∀ l:List α,(ins lt x l).length=l.length+1
 | []=>rfl
 | y::l=>by unfold ins; split <;> simp [aHm x l]
theorem aEb:∀ (l acc:List α),(l.foldl (λacc x=>ins lt x acc) acc).length=acc.length+l.length
 | [],acc=>by simp
 | x::l,acc=>by rw [List.foldl_cons,aEb l,aHm]; simp; omega
theorem aEw (l:List α):(sortL lt l).length=l.length:=by unfold sortL; rw [aEb]; simp
theorem aOz {l:List α} (h:Srt lt l) {i j:Nat} {x y:α} (hij:i<j) (hx:l[i]?=some x) (hy:l[j]?=some y):lt y x=false:=by obtain⟨h1,rfl⟩:=List.getElem?_eq_some_iff.1 hx;obtain⟨h2,rfl⟩:=List.getElem?_eq_some_iff.1 hy;exact List.pairwise_iff_getElem.1 h i j h1 h2 hij
end
def bef (x y:S61):Bool:=if x.f3==y.f3 then (if x.f2==y.f2 then decide (x.f0<y.f0) else decide (x.f2<y.f2)) else Op.bytesLess x.f3 y.f3
def Anc (i j:Nat):Prop:=∃ m,j / 2 ^ m=i
theorem Anc.refl (i:Nat):Anc i i:=⟨0,by simp⟩
theorem Anc.up {i j:Nat} (h:Anc i j):Anc (i / 2) j:=by obtain⟨m,rfl⟩:=h;exact⟨m+1,by rw [Nat.pow_succ,Nat.div_div_eq_div_mul]⟩
theorem Anc.trans {i j k:Nat} (h:Anc i j) (h':Anc j k):Anc i k:=by obtain⟨m,rfl⟩:=h;obtain⟨m',rfl⟩:=h';exact⟨m'+m,by rw [Nat.pow_add,Nat.div_div_eq_div_mul]⟩
theorem Anc.le {i j:Nat} (h:Anc i j):i<=j:=by obtain⟨m,rfl⟩:=h; exact Nat.div_le_self _ _
theorem Anc.half {i j:Nat} (h:Anc i j) (hn:i≠j):Anc i (j / 2):=by
 obtain⟨m,rfl⟩:=h;cases m with
 | zero=>simp at hn
 | succ m=>exact⟨m,by rw [Nat.pow_succ,Nat.mul_comm,Nat.div_div_eq_div_mul]⟩
theorem Anc.one:∀ (j:Nat),1<=j->Anc 1 j:=by
 intro j
 induction j using Nat.strongRecOn with
 | _ j ih =>
  intro hj;rcases Nat.lt_or_ge j 2 with h | h
  ·rw [show j=1 by omega]; exact Anc.refl 1
  ·exact (ih (j / 2) (by omega) (by omega)).trans ⟨1,rfl⟩
theorem Anc.apart {i j:Nat} (hi:1<=i) (h:Anc (2 * i) j) (h':Anc (2 * i+1) j):False:=by
 obtain⟨m,hm⟩:=h;obtain⟨m',hm'⟩:=h';rcases Nat.lt_trichotomy m m' with hlt | rfl | hlt
 ·obtain⟨d,rfl⟩:∃ d,m'=m+(d+1):=⟨m' - m - 1,by omega⟩;rw [Nat.pow_add, ← Nat.div_div_eq_div_mul,hm,Nat.pow_succ,Nat.mul_comm (2 ^ d), ← Nat.div_div_eq_div_mul] at hm';have:=Nat.div_le_self (2 * i / 2) (2 ^ d);omega
 ·omega
 ·obtain⟨d,rfl⟩:∃ d,m=m'+(d+1):=⟨m - m' - 1,by omega⟩;rw [Nat.pow_add, ← Nat.div_div_eq_div_mul,hm',Nat.pow_succ,Nat.mul_comm (2 ^ d), ← Nat.div_div_eq_div_mul] at hm;have:=Nat.div_le_self ((2 * i+1) / 2) (2 ^ d);omega
structure STO (k:Nat) (lt:Nat->Nat->Bool):Prop where
 irr:∀ a,lt a a=false
 trans:∀ a b c,lt a b=true->lt b c=true->lt a c=true
 tot:∀ a b,a<k->b<k->a≠b->lt a b=true\/lt b a=true
def Inn (lt:Nat->Nat->Bool) (W node:Nat->Nat) (i:Nat):Prop :=
 lt (W i) (node i)=true/\((W i=W (2 * i)/\node i=W (2 * i+1))\/(W i=W (2 * i+1)/\node i=W (2 * i)))
structure Tour (k:Nat) (lt:Nat->Nat->Bool) (W node:Nat->Nat):Prop where
 leaf:∀ i,i<k->W (k+i)=i
 inner:∀ i,1<=i->i<k->Inn lt W node i
section
variable {k:Nat} {lt:Nat->Nat->Bool} {W node:Nat->Nat}
theorem below (leaf:∀ i,i<k->W (k+i)=i) (i0:Nat) (h0:1<=i0) (inner:∀ i,i0<=i->i<k->(W i=W (2 * i)\/W i=W (2 * i+1))) :
  ∀ (n i:Nat),i0<=i->i<2 * k->2 * k - i=n->W i<k/\Anc i (W i+k):=by
 intro n
 induction n using Nat.strongRecOn with
 | _ n ih =>
  intro i hi hk hn;rcases Nat.lt_or_ge i k with h | h
  ·rcases inner i hi h with h1 | h1
   ·obtain⟨h2,h3⟩:=ih (2 * k - 2 * i) (by omega) (2 * i) (by omega) (by omega) rfl;rw [h1];exact⟨h2,by have:=h3.up; rwa [show 2 * i / 2=i by omega] at this⟩
   ·obtain⟨h2,h3⟩:=ih (2 * k - (2 * i+1)) (by omega) (2 * i+1) (by omega) (by omega) rfl;rw [h1];exact⟨h2,by have:=h3.up; rwa [show (2 * i+1) / 2=i by omega] at this⟩
  ·have:=leaf (i - k) (by omega);rw [show k+(i - k)=i by omega] at this;rw [this];exact⟨by omega,by rw [show i - k+k=i by omega]; exact Anc.refl i⟩
theorem Inn.or {i:Nat} (h:Inn lt W node i):W i=W (2 * i)\/W i=W (2 * i+1):=h.2.elim (λh=>.inl h.1) λh=>.inr h.1
theorem Tour.below (h:Tour k lt W node) {i:Nat} (hi:1<=i) (hk:i<2 * k):W i<k/\Anc i (W i+k) :=
 P.below h.leaf 1 (Nat.le_refl _) (λi h1 h2=>(h.inner i h1 h2).or) _ i hi hk rfl
theorem Tour.min (h:Tour k lt W node) (ho:STO k lt):∀ (n i:Nat),1<=i->i<2 * k->2 * k - i=n->∀ j,j<k->Anc i (j+k)->j=W i\/lt (W i) j=true:=by
 intro n
 induction n using Nat.strongRecOn with
 | _ n ih =>
  intro i hi hk hn j hj ha;rcases Nat.lt_or_ge i k with hik | hik
  ·have ha':=ha.half (by omega);obtain⟨m,hm⟩:=ha';have key:∀ c,(c=2 * i\/c=2 * i+1)->Anc c (j+k)->j=W i\/lt (W i) j=true:=by
    intro c hc hac;obtain⟨hlt,hh⟩:=h.inner i hi hik;have:=ih (2 * k - c) (by omega) c (by omega) (by omega) rfl j hj hac;have hW:W i=W c\/lt (W i) (W c)=true:=by
     rcases hc with rfl | rfl
     ·rcases hh with ⟨h1,h2⟩ | ⟨h1,h2⟩
      ·exact .inl h1
      ·exact .inr (h2▸hlt)
     ·rcases hh with ⟨h1,h2⟩ | ⟨h1,h2⟩
      ·exact .inr (h2▸hlt)
      ·exact .inl h1
    rcases hW with hW | hW
    ·rw [hW]; exact this
    ·rcases this with rfl | this
     ·exact .inr hW
     ·exact .inr (ho.trans _ _ _ hW this)
   obtain⟨m,hm⟩:=ha;cases m with
   | zero=>simp at hm; omega
   | succ m =>
    rw [Nat.pow_succ, ← Nat.div_div_eq_div_mul] at hm;exact key _ (by omega) ⟨m,rfl⟩
  ·have:=h.leaf (i - k) (by omega);rw [show k+(i - k)=i by omega] at this;obtain⟨m,hm⟩:=ha;cases m with
   | zero=>simp at hm; exact .inl (by omega)
   | succ m =>
    rw [Nat.pow_succ,Nat.mul_comm, ← Nat.div_div_eq_div_mul] at hm;have:=Nat.div_le_self ((j+k) / 2) (2 ^ m);omega
theorem Tour.first (h:Tour k lt W node) (ho:STO k lt) (hk:1<=k) {j:Nat} (hj:j<k) (hn:j≠W 1):lt (W 1) j=true :=
 (h.min ho _ 1 (Nat.le_refl _) (by omega) rfl j hj (Anc.one _ (by omega))).resolve_left hn
theorem Tour.path (h:Tour k lt W node) (hk:1<=k):∀ (i:Nat),1<=i->Anc i (W 1+k)->W i=W 1:=by
 intro i
 induction i using Nat.strongRecOn with
 | _ i ih =>
  intro hi ha;have hw:=(h.below (i:=1) (by omega) (by omega)).1;have hi2:i<2 * k:=by have:=ha.le; omega
  rcases Nat.lt_or_ge i 2 with h2 | h2
  ·rw [show i=1 by omega]
  ·have hp:=ih (i / 2) (by omega) (by omega) ha.up;rcases (h.inner (i / 2) (by omega) (by omega)).or with h1 | h1
   ·have hb:=h.below (i:=2 * (i / 2)) (by omega) (by omega);rw [← h1,hp] at hb;rcases Nat.mod_two_eq_zero_or_one i with h3 | h3
    ·rw [show i=2 * (i / 2) by omega, ← h1,hp]
    ·exact (Anc.apart (i:=i / 2) (by omega) hb.2 (by rw [show 2 * (i / 2)+1=i by omega]; exact ha)).elim
   ·have hb:=h.below (i:=2 * (i / 2)+1) (by omega) (by omega);rw [← h1,hp] at hb;rcases Nat.mod_two_eq_zero_or_one i with h3 | h3
    ·exact (Anc.apart (i:=i / 2) (by omega) (by rw [show 2 * (i / 2)=i by omega]; exact ha) hb.2).elim
    ·rw [show i=2 * (i / 2)+1 by omega, ← h1,hp]
structure Way (k:Nat) (lt lt':Nat->Nat->Bool) (W node:Nat->Nat) (c:Nat) (W' node':Nat->Nat):Prop where
 c1:1<=c
 anc:Anc c (W 1+k)
 leaf:∀ i,i<k->W' (k+i)=i
 inner:∀ i,1<=i->i<k->¬ (Anc i c/\i≠c)->Inn lt' W' node' i
 todo:∀ i,Anc i c->i≠c->node' i=node i
 rest:∀ j,1<=j->¬ Anc j (W 1+k)->W' j=W j
 rng:W' c<k/\Anc c (W' c+k)
theorem Way.start {lt':Nat->Nat->Bool} (h:Tour k lt W node) (hk:1<=k) (hl:∀ a b,a≠W 1->b≠W 1->lt' a b=lt a b):Way k lt lt' W node (W 1+k) W node:=by
 have hw:=(h.below (i:=1) (by omega) (by omega)).1;refine⟨by omega,Anc.refl _,h.leaf,λi h1 h2 hn=>?_,λ_ _ _=>rfl,λ_ _ _=>rfl,?_⟩
 ·have hna:¬ Anc i (W 1+k):=λha=>hn ⟨ha,by omega⟩;obtain⟨hlt,hor⟩:=h.inner i h1 h2;have hd:∀ j,1<=j->j<2 * k->Anc i j->W j≠W 1:=by intro j hj1 hj2 hij he;have:=(h.below (i:=j) hj1 hj2).2;rw [he] at this;exact hna (hij.trans this)
  have d0:=hd i h1 (by omega) (Anc.refl i);have d1:=hd (2 * i) (by omega) (by omega) ⟨1,by omega⟩;have d2:=hd (2 * i+1) (by omega) (by omega) ⟨1,by omega⟩;refine⟨?_,hor⟩;rw [hl _ _ d0 (by rcases hor with ⟨_,e⟩ | ⟨_,e⟩ <;> rw [e] <;> assumption)];exact hlt
 ·have:=h.leaf (W 1) hw;rw [Nat.add_comm] at this;rw [this];exact⟨hw,Anc.refl _⟩
def upd (f:Nat->Nat) (i v:Nat):Nat->Nat:=λj=>if j=i then v else f j
theorem Way.step {lt':Nat->Nat->Bool} {c:Nat} {W' node':Nat->Nat} (h:Tour k lt W node) (hk:1<=k) (ho:STO k lt') (hw:Way k lt lt' W node c W' node') (hc:2<=c) :
  node (c / 2)<k/\(lt' (node (c / 2)) (W' c)=true->Way k lt lt' W node (c / 2) (upd W' (c / 2) (node (c / 2))) (upd node' (c / 2) (W' c))) /\
   (lt' (node (c / 2)) (W' c)=false->Way k lt lt' W node (c / 2) (upd W' (c / 2) (W' c)) node'):=by
 have hW1:=(h.below (i:=1) (by omega) (by omega)).1;have hc2:c<2 * k:=by have:=hw.anc.le; omega
 obtain⟨i,hi⟩:∃ i,i=c / 2:=⟨_,rfl⟩;rw [← hi];have hi1:1<=i:=by omega
 have hik:i<k:=by omega
 have hpi:=h.path hk i hi1 (by rw [hi]; exact hw.anc.up);have hpc:=h.path hk c hw.c1 hw.anc;obtain⟨s,hsc⟩:∃ s,(s=2 * i/\c=2 * i+1)\/(s=2 * i+1/\c=2 * i):=by
  rcases Nat.mod_two_eq_zero_or_one c with h3 | h3
  ·exact⟨2 * i+1,.inr ⟨rfl,by omega⟩⟩
  ·exact⟨2 * i,.inl ⟨rfl,by omega⟩⟩
 have hap:∀ j,Anc c j->Anc s j->False:=by
  intro j h1 h2;rcases hsc with ⟨rfl,e⟩ | ⟨rfl,e⟩ <;> rw [e] at h1
  ·exact Anc.apart hi1 h2 h1
  ·exact Anc.apart hi1 h1 h2
 have hs1:1<=s/\s<2 * k/\s / 2=i:=by omega
 have hsa:¬ Anc s (W 1+k):=λha=>hap _ hw.anc ha;have hsW:=hw.rest s hs1.1 hsa;have hsb:=h.below (i:=s) hs1.1 hs1.2.1;have hsn:W s≠W 1:=λe=>hsa (e▸hsb.2);have hnd:node i=W s:=by
  obtain⟨_,hor⟩:=h.inner i hi1 hik;rcases hsc with ⟨rfl,e⟩ | ⟨rfl,e⟩ <;> rcases hor with ⟨h1,h2⟩ | ⟨h1,h2⟩
  ·exact absurd (h1.symm.trans hpi) hsn
  ·exact h2
  ·exact h2
  ·exact absurd (h1.symm.trans hpi) hsn
 have hne:W' c≠W s:=λe=>hap _ hw.rng.2 (e▸hsb.2);have mk:∀ (x y:Nat) (node'':Nat->Nat),lt' x y=true->((x=W' c/\y=W s)\/(x=W s/\y=W' c))->node'' i=y->(∀ j,j≠i->node'' j=node' j)->Way k lt lt' W node i (upd W' i x) node'':=by
  intro x y node'' hxy hor hny hno;have hanc:Anc i (W 1+k):=by have:=hw.anc.up; rwa [← hi] at this
  refine⟨hi1,hanc,λj hj=>?_,λj h1 h2 hn=>?_,λj ha hj=>?_,λj h1 hn=>?_,?_⟩
  ·simp only [upd,if_neg (show k+j≠i by omega)]; exact hw.leaf j hj
  ·by_cases hji:j=i
   ·subst hji;refine⟨by simp only [upd,if_true]; rw [hny]; exact hxy,?_⟩;simp only [upd,if_true,if_neg (show 2 * j≠j by omega),if_neg (show 2 * j+1≠j by omega)];rw [hny];rcases hsc with ⟨e1,e2⟩ | ⟨e1,e2⟩
    ·rw [show W' (2 * j)=W s by rw [← e1,hsW],show W' (2 * j+1)=W' c by rw [← e2]];exact hor.elim .inr .inl
    ·rw [show W' (2 * j+1)=W s by rw [← e1,hsW],show W' (2 * j)=W' c by rw [← e2]];exact hor
   ·have hna:¬ Anc j i:=λha=>hn ⟨ha,hji⟩;have hin:=hw.inner j h1 h2 λ⟨ha,hjc⟩=>hna (by have:=ha.half hjc; rwa [← hi] at this);have e1:2 * j≠i:=λe=>hna ⟨1,by omega⟩;have e2:2 * j+1≠i:=λe=>hna ⟨1,by omega⟩;unfold Inn;simp only [upd,if_neg hji,if_neg e1,if_neg e2];rw [hno j hji];exact hin
  ·rw [hno j hj];exact hw.todo j (ha.trans ⟨1,by omega⟩) (by have:=ha.le; omega)
  ·simp only [upd,if_neg (show j≠i from λe=>hn (e▸hanc))];exact hw.rest j h1 hn
  ·simp only [upd,if_true];rcases hor with ⟨rfl,_⟩ | ⟨rfl,_⟩
   ·exact⟨hw.rng.1,by have:=hw.rng.2.up; rwa [← hi] at this⟩
   ·exact⟨hsb.1,by have:=hsb.2.up; rwa [hs1.2.2] at this⟩
 rw [hnd];refine⟨hsb.1,λht=>?_,λhf=>?_⟩
 ·exact mk _ (W' c) _ ht (.inr ⟨rfl,rfl⟩) (by simp [upd]) λj hj=>by simp [upd,hj]
 ·refine mk _ (W s) _ ?_ (.inl ⟨rfl,rfl⟩) ?_ λj hj=>rfl
  ·rcases ho.tot _ _ hw.rng.1 hsb.1 hne with h1 | h1
   ·exact h1
   ·rw [h1] at hf; cases hf
  ·rw [hw.todo i ⟨1,by omega⟩ (by omega),hnd]
theorem Way.done {lt':Nat->Nat->Bool} {W' node':Nat->Nat} (hw:Way k lt lt' W node 1 W' node'):Tour k lt' W' node' :=
 ⟨hw.leaf,λi h1 h2=>hw.inner i h1 h2 λ⟨ha,hn⟩=>hn (by have:=ha.le; omega)⟩
structure Rise (k:Nat) (lt:Nat->Nat->Bool) (i:Nat) (W node:Nat->Nat):Prop where
 leaf:∀ j,j<k->W (k+j)=j
 inner:∀ j,i<j->j<k->1<=j->Inn lt W node j
theorem Rise.step (ho:STO k lt) {i:Nat} (hi1:1<=i) (hik:i<k) (h:Rise k lt i W node) :
  W (2 * i)<k/\W (2 * i+1)<k/\(lt (W (2 * i+1)) (W (2 * i))=true->Rise k lt (i - 1) (upd W i (W (2 * i+1))) (upd node i (W (2 * i)))) /\
   (lt (W (2 * i+1)) (W (2 * i))=false->Rise k lt (i - 1) (upd W i (W (2 * i))) (upd node i (W (2 * i+1)))):=by
 have hb:=P.below h.leaf (i+1) (by omega) λj h1 h2=>(h.inner j (by omega) h2 (by omega)).or;have b1:=hb _ (2 * i) (by omega) (by omega) rfl;have b2:=hb _ (2 * i+1) (by omega) (by omega) rfl;have hne:W (2 * i)≠W (2 * i+1):=λe=>Anc.apart hi1 b1.2 (by rw [e]; exact b2.2);have mk:∀ x y,lt x y=true->((x=W (2 * i)/\y=W (2 * i+1))\/(x=W (2 * i+1)/\y=W (2 * i)))->Rise k lt (i - 1) (upd W i x) (upd node i y):=by
  intro x y hxy hor;refine⟨λj hj=>?_,λj h1 h2 h3=>?_⟩
  ·simp only [upd,if_neg (show k+j≠i by omega)]; exact h.leaf j hj
  ·unfold Inn;by_cases hji:j=i
   ·subst hji;simp only [upd,if_true,if_neg (show 2 * j≠j by omega),if_neg (show 2 * j+1≠j by omega)];exact⟨hxy,hor⟩
   ·simp only [upd,if_neg hji,if_neg (show 2 * j≠i by omega),if_neg (show 2 * j+1≠i by omega)];exact h.inner j (by omega) h2 h3
 refine⟨b1.1,b2.1,λht=>mk _ _ ht (.inr ⟨rfl,rfl⟩),λhf=>mk _ _ ?_ (.inl ⟨rfl,rfl⟩)⟩;rcases ho.tot _ _ b1.1 b2.1 hne with h1 | h1
 ·exact h1
 ·rw [h1] at hf; cases hf
theorem Rise.done (h:Rise k lt 0 W node):Tour k lt W node:=⟨h.leaf,λi h1 h2=>h.inner i h1 h2 h1⟩
end
def hd (R:List (List S61)) (i:Nat):Option S61:=R[i]?.bind List.head?
def bDu (p q:Option S61) (a b:Nat):Bool :=
 match p,q with
 | none,none=>decide (a<b)
 | none,some _=>false
 | some _,none=>true
 | some x,some y=>bef x y||(!bef y x&&decide (a<b))
def ahd (R:List (List S61)) (a b:Nat):Bool:=bDu (hd R a) (hd R b) a b
structure bE0 (R:List (List S61)) (nd:List Int) (W node:Nat->Nat):Prop where
 pos:1<=R.length
 small:R.length<2 ^ 40
 len:nd.length=R.length
 tour:Tour R.length (ahd R) W node
 top:nd[0]?=some (W 1:Int)
 inner:∀ i,1<=i->i<R.length->nd[i]?=some (node i:Int)
section
variable {α:Type} {lt:α->α->Bool}
end
section
variable {α:Type} {lt:α->α->Bool}
theorem SWO.lt_of_lt_of_le (h:SWO lt) {a b c:α} (h1:lt a b=true) (h2:lt c b=false):lt a c=true:=by
 rcases h.neg a c b h1 with q | q
 ·exact q
 ·simp_all
theorem SWO.lt_of_le_of_lt (h:SWO lt) {a b c:α} (h1:lt b a=false) (h2:lt b c=true):lt a c=true:=by
 rcases h.neg b a c h2 with q | q
 ·simp_all
 ·exact q
end
section
variable {α:Type} {lt:α->α->Bool}
inductive Blk (lt:α->α->Bool) (n:Nat):List α->List α->Prop
 | last {O:List α}:O.length<=n->Blk lt n O (sortL lt O)
 | cons {O1 O2 L2:List α}:O1.length=n->Blk lt n O2 L2->Blk lt n (O1++O2) (sortL lt O1++L2)
theorem Blk.length {n:Nat} {O L:List α} (h:Blk lt n O L):L.length=O.length:=by
 induction h with
 | last _=>exact aEw _
 | cons _ _ ih=>simp [aEw,ih]
theorem Blk.done {n:Nat} {O L:List α} (h:Blk lt n O L) (hn:O.length<=n):L=sortL lt O:=by
 cases h with
 | last _=>rfl
 | @cons O1 O2 L2 h1 h2 =>
  have hl:=h2.length;simp only [List.length_append] at hn;have e2:=List.eq_nil_of_length_eq_zero (show O2.length=0 by omega);subst e2;have e3:=List.eq_nil_of_length_eq_zero hl;rw [e3];simp
end
section
variable {α:Type} {lt:α->α->Bool}
theorem bEz (h:SWO lt) {l m:List α} (hl:Srt lt l) (hm:Srt lt m) (hp:l.Perm m) {i:Nat} {x y:α} (hx:l[i]?=some x) (hy:m[i]?=some y):lt x y=false:=by
 cases hxy:lt x y with
 | false=>rfl
 | true =>
  exfalso;have hc:=hp.countP_eq (λz=>lt z y);obtain⟨hil,hix⟩:=List.getElem?_eq_some_iff.1 hx;obtain⟨him,_⟩:=List.getElem?_eq_some_iff.1 hy;have h1:(l.take (i+1)).countP (λz=>lt z y)=i+1:=by
   have e:(l.take (i+1)).length=i+1:=by rw [List.length_take]; omega
   refine (List.countP_eq_length.2 ?_).trans e;intro z hz;obtain⟨j,hj⟩:=List.getElem?_of_mem hz;rw [List.getElem?_take] at hj;split at hj
   ·rcases Nat.lt_or_ge j i with hji | hji
    ·have hs:=aOz hl hji hj hx;rcases h.neg x z y hxy with q | q
     ·rw [hs] at q; cases q
     ·exact q
    ·have:j=i:=by omega
     subst this;rw [hx] at hj;cases hj;exact hxy
   ·cases hj
  have h2:(m.drop i).countP (λz=>lt z y)=0:=by
   rw [List.countP_eq_zero];intro z hz;obtain⟨j,hj⟩:=List.getElem?_of_mem hz;rw [List.getElem?_drop] at hj;rcases Nat.eq_zero_or_pos j with q | q
   ·subst q;rw [Nat.add_zero,hy] at hj;cases hj;rw [h.irr]; simp
   ·rw [aOz hm (show i<i+j by omega) hy hj]; simp
  have h3:(m.take i).countP (λz=>lt z y)<=i:=Nat.le_trans List.countP_le_length (by rw [List.length_take]; omega);have e1:l.countP (λz=>lt z y)=(l.take (i+1)).countP (λz=>lt z y)+(l.drop (i+1)).countP (λz=>lt z y):=by rw [← List.countP_append,List.take_append_drop]
  have e2:m.countP (λz=>lt z y)=(m.take i).countP (λz=>lt z y)+(m.drop i).countP (λz=>lt z y):=by rw [← List.countP_append,List.take_append_drop]
  omega
end
section
variable {α:Type}
end
theorem yK (a:List UInt8):Op.bytesLess a a=false:=by rw [bytesLess_eq]; simp [List.lt_irrefl]
theorem aEl {a b c:List UInt8} (h1:Op.bytesLess a b=true) (h2:Op.bytesLess b c=true):Op.bytesLess a c=true:=by rw [bytesLess_eq] at *;simp only [decide_eq_true_eq] at *;exact List.lt_trans h1 h2
theorem aKd {a b:List UInt8} (h:Op.bytesLess a b=false) (h':Op.bytesLess b a=false):a=b:=by rw [bytesLess_eq] at *;simp only [decide_eq_false_iff_not] at *;exact List.le_antisymm (List.not_lt.1 h') (List.not_lt.1 h)
def lE (l:List S98):Prop:=l.Pairwise λx y=>Op.bytesLess x.f0 y.f0=true
def pos (l:List S98) (n:List UInt8):Nat:=(l.takeWhile λx=>Op.bytesLess x.f0 n).length
theorem aSm (l:List S98) (n:List UInt8):pos l n<=l.length:=(List.takeWhile_sublist _).length_le
theorem aD6:∀ {l:List S98} (hl:lE l) (n:List UInt8) {h:Nat} {x:S98},l[h]?=some x->(Op.bytesLess x.f0 n=true↔h<pos l n)
 | [],_,n,h,x,hx=>by simp at hx
 | y::l,hl,n,h,x,hx=>by
  obtain⟨hy,hl'⟩:=List.pairwise_cons.1 hl;unfold pos;rw [List.takeWhile_cons];cases hyn:Op.bytesLess y.f0 n with
  | true =>
   rw [if_pos rfl,List.length_cons];cases h with
   | zero=>cases hx; simp [hyn]
   | succ h =>
    have:=aD6 hl' n (h:=h) (x:=x) (by simpa using hx);unfold pos at this;rw [this]; omega
  | false =>
   rw [if_neg (by simp),List.length_nil];cases h with
   | zero=>cases hx; simp [hyn]
   | succ h =>
    have hxm:x∈l:=List.mem_of_getElem? (by simpa using hx);constructor
    ·intro hxn;have:=aEl (hy x hxm) hxn;rw [hyn] at this;cases this
    ·intro h; omega
theorem aM8 (x:S98) (n:List UInt8):jZ x n=some (if Op.bytesLess x.f0 n=true then -1 else if x.f0=n then 0 else 1):=by
 unfold jZ;cases h:Op.bytesLess x.f0 n with
 | true=>rfl
 | false =>
  simp only [Bool.false_eq_true,if_false,Bool.false_or];by_cases e:x.f0=n
  ·simp [e]
  ·simp [e]
def has (l:List S98) (n:List UInt8):Bool:=match l[pos l n]? with
 | some x=>x.f0==n
 | none=>false
theorem aNs (l:List S98) (hl:lE l) (hlen:l.length<1099511627776) (n:List UInt8):bJ l n=some ((pos l n:Int),has l n):=by
 unfold bJ;have hp:=aSm l n;obtain⟨y,hy,hm⟩:=aCz (b:=λs:Int×Int=>aU l n s.1 s.2) (s:=(0,(l.length:Int)))
  (λs=>∃ i j:Nat,s=((i:Int),(j:Int))/\i<=pos l n/\pos l n<=j/\j<=l.length) (λs=>(s.2 - s.1).toNat) (λt=>t=((pos l n:Nat):Int)) ⟨0,l.length,rfl,Nat.zero_le _,hp,Nat.le_refl _⟩ (by
  rintro s ⟨i,j,rfl,h1,h2,h3⟩;show (∃ s',aU l n (i:Int) (j:Int)=some (.inl s')/\_)\/∃ t,aU l n (i:Int) (j:Int)=some (.inr t)/\_;unfold aU;by_cases hij:i<j
  ·have hx:=List.getElem?_eq_getElem (l:=l) (i:=(i+j) / 2) (by omega);have hpi:=aD6 hl n hx;have e1:pH .u64 (((i+j:Nat)):Int) 1=(((i+j) / 2:Nat):Int):=lZ (k:=.u64) (i+j) 1 (by decide);rw [if_pos (by simp only [decide_eq_true_eq]; omega)];simp only [lt_];rw [w64 (n:=(i:Int)+(j:Int)) (by omega) (by omega),nO (by omega) (by omega),show (i:Int)+(j:Int)=((i+j:Nat):Int) by omega,e1,w64 (by omega) (by omega),bG rfl hx];simp only [Option.bind_some];rw [aM8];simp only [Option.bind_some];unfold bE;by_cases hlt:Op.bytesLess (l[(i+j) / 2]).f0 n=true
   ·have:=hpi.1 hlt;rw [if_pos hlt,if_pos (by decide),w64 (by omega) (by omega)];exact .inl ⟨_,rfl,⟨(i+j) / 2+1,j,rfl,by omega,h2,h3⟩,by simp only; omega⟩
   ·have:¬ (i+j) / 2<pos l n:=λq=>hlt (hpi.2 q);rw [if_neg hlt,if_neg (by split <;> decide)];exact .inl ⟨_,rfl,⟨i,(i+j) / 2,rfl,h1,by omega,by omega⟩,by simp only; omega⟩
  ·rw [if_neg (by simp only [decide_eq_true_eq]; omega)];exact .inr ⟨_,rfl,by rw [show i=pos l n by omega]⟩)
 rw [hy,hm];simp only [Option.bind_some];unfold bN bW has;by_cases hlt:pos l n<l.length
 ·have hx:=List.getElem?_eq_getElem hlt;have hpi:=aD6 hl n hx;have hnl:¬ Op.bytesLess (l[pos l n]).f0 n=true:=λq=>by have:=hpi.1 q; omega
  rw [if_pos (by simp only [decide_eq_true_eq]; omega),bG rfl hx,hx];simp only [Option.bind_some];rw [aM8];simp only [Option.bind_some];rw [if_neg hnl];congr 2;by_cases e:(l[pos l n]).f0=n
  ·rw [if_pos e]; simp [e]
  ·rw [if_neg e]; simp [e]
 ·rw [if_neg (by simp only [decide_eq_true_eq]; omega),List.getElem?_eq_none (by omega)]
theorem aO2 (s:S77) (hl:lE s.f0) (hlen:s.f0.length<1099511627776) (n:List UInt8):eD s n=some ((pos s.f0 n:Int),has s.f0 n):=by unfold eD;rw [aNs s.f0 hl hlen n];rfl
def okc (c:UInt8):Bool:=decide (c.toNat=46)||(decide (48<=c.toNat)&&decide (c.toNat<=57))||(decide (97<=c.toNat)&&decide (c.toNat<=122))
def sV (n:List UInt8):Bool:=n.all okc&&decide (1<=n.length)&&decide (n.length<=32)
theorem aNx (a:List UInt8) (i:Nat) {c:UInt8} (hc:a[i]?=some c):fX a (i:Int)=iO (i:Int) (!okc c):=by
 have hi:=(List.getElem?_eq_some_iff.1 hc).1;unfold fX okc;rw [if_pos (by simp only [decide_eq_true_eq]; omega),bG rfl hc];simp only [Option.bind_some,bne_iff_ne,ne_eq,decide_eq_true_eq];by_cases h1:c.toNat=46
 ·rw [if_neg (by omega),decide_eq_true h1]; rfl
 rw [if_pos (by omega),decide_eq_false h1];by_cases h2:c.toNat<48
 ·rw [if_pos (by omega),if_pos (by omega),decide_eq_false (show ¬ 48<=c.toNat by omega),decide_eq_false (show ¬ 97<=c.toNat by omega)]; rfl
 rw [if_neg (by omega),decide_eq_true (show 48<=c.toNat by omega)];by_cases h3:57<c.toNat
 ·rw [if_pos (by omega),decide_eq_false (show ¬ c.toNat<=57 by omega)];by_cases h4:c.toNat<97
  ·rw [if_pos (by omega),decide_eq_false (show ¬ 97<=c.toNat by omega)]; rfl
  ·rw [if_neg (by omega),decide_eq_true (show 97<=c.toNat by omega)];by_cases h5:c.toNat<=122
   ·rw [decide_eq_true h5,decide_eq_false (by omega)]; rfl
   ·rw [decide_eq_false h5,decide_eq_true (by omega)]; rfl
 ·rw [if_neg (by omega),decide_eq_true (show c.toNat<=57 by omega)]; rfl
theorem aJe (a:List UInt8) (ha:a.length<4611686018427387904):∀ (m i:Nat),i+m=a.length->loop (λs=>fX a s) (i:Int)=some (if (a.drop i).all okc=true then .inl () else .inr false)
 | 0,i,hi=>by refine bF ?_;show fX a (i:Int)=_;unfold fX;rw [if_neg (by simp only [decide_eq_true_eq]; omega),List.drop_of_length_le (by omega)];rfl
 | m+1,i,hi=>by
  have hx:=List.getElem?_eq_getElem (l:=a) (i:=i) (by omega);have hr:=aNx a i hx;have hd:a.drop i=a[i]::a.drop (i+1):=List.drop_eq_getElem_cons (by omega);cases hc:okc a[i] with
  | true =>
   rw [hc] at hr;have:fX a (i:Int)=some (.inl ((i+1:Nat):Int)):=by rw [hr]; unfold iO; rw [if_neg (by simp),lt_,w64 (by omega) (by omega)]; rfl
   rw [cH (b:=λs=>fX a s) this,aJe a ha m (i+1) (by omega),hd,List.all_cons,hc,Bool.true_and]
  | false =>
   rw [hc] at hr;have:fX a (i:Int)=some (.inr (.inr false)):=by rw [hr]; rfl
   rw [bF (b:=λs=>fX a s) this,hd,List.all_cons,hc,Bool.false_and];rfl
theorem aP7 (a:List UInt8) (ha:a.length<4611686018427387904):rG a=some (sV a):=by
 unfold rG;have h:=aJe a ha a.length 0 (by omega);rw [show ((0:Nat):Int)=0 from rfl,List.drop_zero] at h;rw [h];unfold sV;cases a.all okc with
 | true =>
  show sX a=_;unfold sX;cases a with
  | nil=>rfl
  | cons c a =>
   rw [if_pos (show (!(c::a==[]))=true from rfl)];simp only [List.length_cons,Bool.true_and,decide_eq_true (show 1<=a.length+1 by omega)];congr 1;exact decide_eq_decide.2 (by omega)
 | false=>rfl
theorem aAk {P D:List S98} {x:S98} (h:lE (P++x::D)):(∀ y∈P,Op.bytesLess y.f0 x.f0=true)/\(∀ y∈D,Op.bytesLess x.f0 y.f0=true):=by obtain⟨h1,h2,h3⟩:=List.pairwise_append.1 h;exact⟨λy hy=>h3 y hy x (List.mem_cons_self ..),(List.pairwise_cons.1 h2).1⟩
theorem aDn {a b:List UInt8} (h:Op.bytesLess a b=true):a≠b:=λe=>by subst e; rw [yK] at h; cases h
theorem aEe {a b:List UInt8} (h:Op.bytesLess a b=true):Op.bytesLess b a=false:=by
 cases hb:Op.bytesLess b a with
 | false=>rfl
 | true=>have:=aEl h hb; rw [yK] at this; cases this
theorem aR5 {P D:List S98} {n:List UInt8} (hP:∀ y∈P,Op.bytesLess y.f0 n=true) (hD:∀ y,D.head?=some y->Op.bytesLess y.f0 n=false):pos (P++D) n=P.length:=by
 unfold pos;rw [List.takeWhile_append_of_pos hP,List.length_append];cases D with
 | nil=>rfl
 | cons y D=>rw [List.takeWhile_cons,hD y rfl]; rfl
theorem aAw {P D:List S98} {x:S98} {n:List UInt8} (hn:x.f0=n) (h:lE (P++x::D)):pos (P++x::D) n=P.length:=by subst hn;exact aR5 (aAk h).1 λy hy=>by cases hy; exact yK _
theorem aC8 {P D:List S98} {x:S98} {n:List UInt8} (hn:x.f0=n) (h:lE (P++x::D)):has (P++x::D) n=true:=by unfold has;rw [aAw hn h,List.getElem?_append_right (Nat.le_refl _),Nat.sub_self];simp [hn]
theorem aLc {P D:List S98} {n:List UInt8} (hP:∀ y∈P,Op.bytesLess y.f0 n=true) (hD:∀ y∈D,Op.bytesLess n y.f0=true):pos (P++D) n=P.length :=
 aR5 hP λy hy=>aEe (hD y (List.mem_of_mem_head? hy))
theorem aCx {P D:List S98} {n:List UInt8} (hP:∀ y∈P,Op.bytesLess y.f0 n=true) (hD:∀ y∈D,Op.bytesLess n y.f0=true):has (P++D) n=false:=by
 unfold has;rw [aLc hP hD,List.getElem?_append_right (Nat.le_refl _),Nat.sub_self];cases D with
 | nil=>rfl
 | cons y D =>
  show (y.f0==n)=false;rw [beq_eq_false_iff_ne];exact λe=>aDn (hD y (List.mem_cons_self ..)) e.symm
theorem aBf {l:List S98} (h:lE l) (n:List UInt8) :
  (∃ P x D,l=P++x::D/\x.f0=n)\/∃ P D,l=P++D/\(∀ y∈P,Op.bytesLess y.f0 n=true)/\∀ y∈D,Op.bytesLess n y.f0=true:=by
 have hp:=aSm l n;have hsp:l=l.take (pos l n)++l.drop (pos l n):=(List.take_append_drop _ _).symm;have hP:∀ y∈l.take (pos l n),Op.bytesLess y.f0 n=true:=by
  intro y hy;obtain⟨j,hj⟩:=List.getElem?_of_mem hy;rw [List.getElem?_take] at hj;split at hj
  ·exact (aD6 h n hj).2 (by assumption)
  ·cases hj
 cases hd:l.drop (pos l n) with
 | nil=>rw [hd] at hsp; exact .inr ⟨_,[],hsp,hP,λy hy=>by cases hy⟩
 | cons x D =>
  rw [hd] at hsp;have hx:l[pos l n]?=some x:=by
   have:(l.drop (pos l n))[0]?=some x:=by rw [hd]; rfl
   rwa [List.getElem?_drop,Nat.add_zero] at this
  have hxn:Op.bytesLess x.f0 n=false:=by
   cases hb:Op.bytesLess x.f0 n with
   | false=>rfl
   | true=>have:=(aD6 h n hx).1 hb; omega
  by_cases e:x.f0=n
  ·exact .inl ⟨_,x,D,hsp,e⟩
  ·refine .inr ⟨_,x::D,hsp,hP,?_⟩;have hnx:Op.bytesLess n x.f0=true:=by
    cases hb:Op.bytesLess n x.f0 with
    | true=>rfl
    | false=>exact absurd (aKd hxn hb) e
   intro y hy;rcases List.mem_cons.1 hy with rfl | hy
   ·exact hnx
   ·have hr:=h;rw [hsp] at hr;exact aEl hnx ((aAk hr).2 y hy)
theorem aI6 {P D:List S98} {x y:S98} (hn:x.f0=y.f0) (h:lE (P++x::D)):lE (P++y::D):=by
 obtain⟨h1,h2,h3⟩:=List.pairwise_append.1 h;obtain⟨h4,h5⟩:=List.pairwise_cons.1 h2;refine List.pairwise_append.2 ⟨h1,List.pairwise_cons.2 ⟨λz hz=>hn▸h4 z hz,h5⟩,λa ha b hb=>?_⟩;rcases List.mem_cons.1 hb with rfl | hb
 ·rw [← hn]; exact h3 a ha x (List.mem_cons_self ..)
 ·exact h3 a ha b (List.mem_cons_of_mem _ hb)
theorem aM9 {P D:List S98} {y:S98} (h:lE (P++D)) (hP:∀ z∈P,Op.bytesLess z.f0 y.f0=true) (hD:∀ z∈D,Op.bytesLess y.f0 z.f0=true):lE (P++y::D):=by
 obtain⟨h1,h2,h3⟩:=List.pairwise_append.1 h;refine List.pairwise_append.2 ⟨h1,List.pairwise_cons.2 ⟨hD,h2⟩,λa ha b hb=>?_⟩;rcases List.mem_cons.1 hb with rfl | hb
 ·exact hP a ha
 ·exact h3 a ha b hb
theorem aQr {P D:List S98} {x:S98} (h:lE (P++x::D)):lE (P++D) :=
 h.sublist (List.Sublist.append_left (List.sublist_cons_self x D) P)
def used (l:List S98):Nat:=(l.map λx=>x.f1.length).sum
theorem uA (P D:List S98):used (P++D)=used P+used D:=by simp [used]
theorem xV (x:S98) (D:List S98):used (x::D)=x.f1.length+used D:=by simp [used]
theorem aTh {l:List S98} {x:S98} (h:x∈l):x.f1.length<=used l:=by
 induction l with
 | nil=>cases h
 | cons y l ih =>
  rw [xV];rcases List.mem_cons.1 h with rfl | h
  ·omega
  ·have:=ih h; omega
theorem aJm (s:S77) (hl:s.f0.length<4611686018427387904) (hu:used s.f0<4611686018427387904):∀ (m i:Nat),i+m=s.f0.length->loop (λq:Int×Int=>dK s q.1 q.2) ((used (s.f0.take i):Int),(i:Int))=some (used s.f0:Int)
 | 0,i,hi=>by refine bF ?_;show dK s _ (i:Int)=_;unfold dK;rw [if_neg (by simp only [decide_eq_true_eq]; omega),List.take_of_length_le (by omega)]
 | m+1,i,hi=>by
  have hx:=List.getElem?_eq_getElem (l:=s.f0) (i:=i) (by omega);have ht:s.f0.take (i+1)=s.f0.take i++[s.f0[i]]:=by rw [List.take_add_one,hx]; rfl
  have hle:used (s.f0.take (i+1))<=used s.f0:=by have:=uA (s.f0.take (i+1)) (s.f0.drop (i+1));rw [List.take_append_drop] at this;omega
  have hs:used (s.f0.take (i+1))=used (s.f0.take i)+(s.f0[i]).f1.length:=by rw [ht,uA,xV]; rfl
  have:dK s (used (s.f0.take i):Int) (i:Int)=some (.inl ((used (s.f0.take (i+1)):Int),((i+1:Nat):Int))):=by unfold dK;rw [if_pos (by simp only [decide_eq_true_eq]; omega),bG rfl hx];simp only [Option.bind_some,lt_];rw [w64 (by omega) (by omega),w64 (by omega) (by omega),hs];rfl
  rw [cH (b:=λq:Int×Int=>dK s q.1 q.2) this];exact aJm s hl hu m (i+1) (by omega)
theorem aUr (s:S77) (hl:s.f0.length<4611686018427387904) (hu:used s.f0<4611686018427387904):pE (some s)=some (used s.f0:Int):=by show (loop (λq:Int×Int=>dK s q.1 q.2) (0,0)).bind _=_;have h:=aJm s hl hu s.f0.length 0 (by omega);rw [List.take_zero] at h;rw [show ((0:Int),(0:Int))=((used []:Int),((0:Nat):Int)) from rfl,h];rfl
theorem aHx (s:S77) (hl:s.f0.length<1099511627776):∀ (m i:Nat),i+m=s.f0.length->loop (λq:List (List UInt8)×Int=>dM s q.1 q.2) ((s.f0.take i).map S98.f0,(i:Int))=some (s.f0.map S98.f0)
 | 0,i,hi=>by refine bF ?_;show dM s _ (i:Int)=_;unfold dM;rw [if_neg (by simp only [decide_eq_true_eq]; omega),List.take_of_length_le (by omega)]
 | m+1,i,hi=>by
  have hx:=List.getElem?_eq_getElem (l:=s.f0) (i:=i) (by omega);have ht:s.f0.take (i+1)=s.f0.take i++[s.f0[i]]:=by rw [List.take_add_one,hx]; rfl
  have:dM s ((s.f0.take i).map S98.f0) (i:Int)=some (.inl ((s.f0.take (i+1)).map S98.f0,((i+1:Nat):Int))):=by unfold dM;rw [if_pos (by simp only [decide_eq_true_eq]; omega),bG rfl hx];simp only [Option.bind_some,lt_];rw [bM (by simp only [List.length_map,List.length_take,List.length_singleton]; omega),w64 (by omega) (by omega),ht,List.map_append];rfl
  rw [cH (b:=λq:List (List UInt8)×Int=>dM s q.1 q.2) this];exact aHx s hl m (i+1) (by omega)
theorem aUh (s:S77) (hl:s.f0.length<1099511627776):jU (some s)=some (s.f0.map S98.f0):=by show (loop (λq:List (List UInt8)×Int=>dM s q.1 q.2) ([],0)).bind _=_;have h:=aHx s hl s.f0.length 0 (by omega);rw [List.take_zero] at h;rw [show (([]:List (List UInt8)),(0:Int))=(([]:List S98).map S98.f0,((0:Nat):Int)) from rfl,h];rfl
def get (l:List S98) (n:List UInt8):Option S98:=l.find? λx=>x.f0==n
def put:List S98->S98->List S98
 | [],x=>[x]
 | y::l,x=>if Op.bytesLess y.f0 x.f0=true then y::put l x else if y.f0=x.f0 then x::l else x::y::l
def del (l:List S98) (n:List UInt8):List S98:=l.filter λx => !(x.f0==n)
theorem uW {P D:List S98} {x:S98} {n:List UInt8} (hn:x.f0=n) (h:lE (P++x::D)):get (P++x::D) n=some x:=by subst hn;unfold get;rw [List.find?_append,List.find?_eq_none.2 (λy hy=>by simpa using aDn ((aAk h).1 y hy))];simp
theorem xJ {P D:List S98} {n:List UInt8} (hP:∀ y∈P,Op.bytesLess y.f0 n=true) (hD:∀ y∈D,Op.bytesLess n y.f0=true):get (P++D) n=none:=by
 unfold get;rw [List.find?_eq_none];intro y hy;rcases List.mem_append.1 hy with h | h
 ·simpa using aDn (hP y h)
 ·simpa using λe=>aDn (hD y h) e.symm
theorem aNu:∀ {P D:List S98} {x:S98},(∀ y∈P,Op.bytesLess y.f0 x.f0=true)->put (P++D) x=P++put D x
 | [],D,x,h=>rfl
 | y::P,D,x,h=>by show put (y::(P++D)) x=_;rw [put,if_pos (h y (List.mem_cons_self ..)),aNu λz hz=>h z (List.mem_cons_of_mem _ hz)];rfl
theorem aA5 {P D:List S98} {x y:S98} (hn:x.f0=y.f0) (h:lE (P++x::D)):put (P++x::D) y=P++y::D:=by rw [aNu λz hz=>hn▸(aAk h).1 z hz,put,if_neg (by rw [hn,yK]; simp),if_pos hn]
theorem aC2 {P D:List S98} {y:S98} (hP:∀ z∈P,Op.bytesLess z.f0 y.f0=true) (hD:∀ z∈D,Op.bytesLess y.f0 z.f0=true):put (P++D) y=P++y::D:=by
 rw [aNu hP];congr 1;cases D with
 | nil=>rfl
 | cons z D =>
  have:=hD z (List.mem_cons_self ..);rw [put,if_neg (by rw [aEe this]; simp),if_neg λe=>aDn this e.symm]
theorem aGo {P D:List S98} {x:S98} {n:List UInt8} (hn:x.f0=n) (h:lE (P++x::D)):del (P++x::D) n=P++D:=by
 subst hn;unfold del;rw [List.filter_append,List.filter_cons_of_neg (by simp),List.filter_eq_self.2,List.filter_eq_self.2]
 ·intro y hy; simpa using λe:y.f0=x.f0=>aDn ((aAk h).2 y hy) e.symm
 ·intro y hy; simpa using aDn ((aAk h).1 y hy)
theorem aO7 {P D:List S98} {n:List UInt8} (hP:∀ y∈P,Op.bytesLess y.f0 n=true) (hD:∀ y∈D,Op.bytesLess n y.f0=true):del (P++D) n=P++D:=by
 unfold del;rw [List.filter_eq_self];intro y hy;rcases List.mem_append.1 hy with h | h
 ·simpa using aDn (hP y h)
 ·simpa using λe:y.f0=n=>aDn (hD y h) e.symm
theorem aGm {l:List S98} {x y:S98} (h:y∈put l x):y=x\/y∈l:=by
 induction l with
 | nil=>exact .inl (by simpa [put] using h)
 | cons z l ih =>
  unfold put at h;split at h
  ·rcases List.mem_cons.1 h with rfl | h
   ·exact .inr (List.mem_cons_self ..)
   ·rcases ih h with h | h
    ·exact .inl h
    ·exact .inr (List.mem_cons_of_mem _ h)
  ·split at h
   ·rcases List.mem_cons.1 h with rfl | h
    ·exact .inl rfl
    ·exact .inr (List.mem_cons_of_mem _ h)
   ·rcases List.mem_cons.1 h with rfl | h
    ·exact .inl rfl
    ·exact .inr h
theorem aNd {l:List S98} (h:lE l) (x:S98):lE (put l x):=by
 rcases aBf h x.f0 with ⟨P,y,D,rfl,hy⟩ | ⟨P,D,rfl,hP,hD⟩
 ·rw [aA5 hy h]; exact aI6 hy h
 ·rw [aC2 hP hD]; exact aM9 h hP hD
theorem yG {l:List S98} (h:lE l) (n:List UInt8):lE (del l n):=List.Pairwise.filter _ h
theorem tI {l:List S98} {n:List UInt8} {x:S98} (h:get l n=some x):x∈l/\x.f0=n:=⟨List.mem_of_find?_eq_some h,by simpa using List.find?_some h⟩
theorem aGn {l:List S98} {n:List UInt8} {x:S98} (h:x∈del l n):x∈l:=(List.mem_filter.1 h).1
theorem xH {l:List S98} (h:lE l) (x:S98) (n:List UInt8):get (put l x) n=if x.f0=n then some x else get l n:=by
 have e:∀ P D:List S98,x.f0≠n->get (P++x::D) n=get (P++D) n:=by intro P D hne;unfold get;rw [List.find?_append,List.find?_append,List.find?_cons_of_neg (by simpa using hne)]
 rcases aBf h x.f0 with ⟨P,y,D,rfl,hy⟩ | ⟨P,D,rfl,hP,hD⟩
 ·rw [aA5 hy h];split
  ·rename_i e; exact uW e (aI6 hy h)
  ·rename_i hne;rw [e P D hne];unfold get;rw [List.find?_append,List.find?_append,List.find?_cons_of_neg (by simpa [hy] using hne)]
 ·rw [aC2 hP hD];split
  ·rename_i e; exact uW e (aM9 h hP hD)
  ·rename_i hne; exact e P D hne
theorem aC6 {l:List S98} (h:lE l) (m n:List UInt8):get (del l m) n=if m=n then none else get l n:=by
 unfold get del;split
 ·rename_i e;subst e;rw [List.find?_eq_none];intro x hx;simpa using (List.mem_filter.1 hx).2
 ·rename_i hne;rw [List.find?_filter];congr 1
  funext x
  by_cases hx:x.f0=n
  ·simp [hx]; exact λe=>hne e.symm
  ·simp [hx]
theorem aPm:∀ {l m:List S98},lE l->lE m->(∀ n,get l n=get m n)->l=m
 | [],[],_,_,_=>rfl
 | [],y::m,_,_,h=>by have:=h y.f0; simp [get] at this
 | x::l,[],_,_,h=>by have:=h x.f0; simp [get] at this
 | x::l,y::m,hl,hm,h=>by
  have h1:=h x.f0;have h2:=h y.f0;have g1:get (x::l) x.f0=some x:=by simp [get]
  have g2:get (y::m) y.f0=some y:=by simp [get]
  rw [g1] at h1;rw [g2] at h2;have hxm:=tI h1.symm;have hyl:=tI h2;have hxy:x=y:=by
   rcases List.mem_cons.1 hxm.1 with e | e
   ·exact e
   ·rcases List.mem_cons.1 hyl.1 with e' | e'
    ·exact e'.symm
    ·have a1:=(List.pairwise_cons.1 hm).1 x e;have a2:=(List.pairwise_cons.1 hl).1 y e';have:=aEe a1;rw [a2] at this;cases this
  subst hxy;congr 1;refine aPm (List.pairwise_cons.1 hl).2 (List.pairwise_cons.1 hm).2 λn=>?_;have hn:=h n;by_cases e:x.f0=n
  ·subst e;have q:∀ k:List S98,lE (x::k)->get k x.f0=none:=λk hk=>List.find?_eq_none.2 λz hz=>by have:=aDn ((List.pairwise_cons.1 hk).1 z hz);simpa using λe:z.f0=x.f0=>this e.symm
   rw [q l hl,q m hm]
  ·simpa [get,e] using hn
theorem aBz {l:List S98} (h:lE l) (x:S98):used (put l x)+((get l x.f0).getD ⟨x.f0,[],0⟩).f1.length=used l+x.f1.length:=by
 rcases aBf h x.f0 with ⟨P,y,D,rfl,hy⟩ | ⟨P,D,rfl,hP,hD⟩
 ·rw [aA5 hy h,uW hy h];simp only [uA,xV,Option.getD_some];omega
 ·rw [aC2 hP hD,xJ hP hD];simp only [uA,xV,Option.getD_none,List.length_nil];omega
theorem aH5 {l:List S98} (h:lE l) (n:List UInt8):used (del l n)+((get l n).getD ⟨n,[],0⟩).f1.length=used l:=by
 rcases aBf h n with ⟨P,y,D,rfl,hy⟩ | ⟨P,D,rfl,hP,hD⟩
 ·rw [aGo hy h,uW hy h];simp only [uA,xV,Option.getD_some];omega
 ·rw [aO7 hP hD,xJ hP hD];rfl
theorem aE2 {l:List S98} (h:lE l) (x:S98):(put l x).length=if (get l x.f0).isSome then l.length else l.length+1:=by
 rcases aBf h x.f0 with ⟨P,y,D,rfl,hy⟩ | ⟨P,D,rfl,hP,hD⟩
 ·rw [aA5 hy h,uW hy h]; simp
 ·rw [aC2 hP hD,xJ hP hD]; simp; omega
theorem aKv {l:List S98} (h:lE l) (n:List UInt8):(del l n).length+(if (get l n).isSome then 1 else 0)=l.length:=by
 rcases aBf h n with ⟨P,y,D,rfl,hy⟩ | ⟨P,D,rfl,hP,hD⟩
 ·rw [aGo hy h,uW hy h]; simp; omega
 ·rw [aO7 hP hD,xJ hP hD]; simp
def step (s:S77):S77:=⟨s.f0,s.f1,if 0<s.f2 then s.f2 - 1 else s.f2,if 0<s.f2 then s.f2 - 1==0 else s.f3,s.f4+1⟩
structure SI (k:Nat) (s:S77):Prop where
 rise:lE s.f0
 form:∀ x∈s.f0,sV x.f0=true
 len:s.f0.length<=500
 room:1<=s.f1/\s.f1<=16777216
 use:(used s.f0:Int)<=s.f1
 sure:∀ x∈s.f0,0<=x.f2/\x.f2<=x.f1.length
 byt:∀ x∈s.f0,∀ b∈x.f1,0<=b/\b<256
 armed:0<=s.f2/\s.f2<=9223372036854775807
 ops:0<=s.f4/\s.f4<=k
def tZ (s:S77) (n:List UInt8):Int:=if sV n=true then (if s.f3=true then 9 else 0) else 1
section
variable {k:Nat} {s:S77} {n:List UInt8}
theorem SI.find (h:SI k s) (n:List UInt8):eD s n=some ((pos s.f0 n:Int),has s.f0 n):=aO2 s h.rise (by have:=h.len; omega) n
theorem SI.one (h:SI k s) {x:S98} (hx:x∈s.f0):(x.f1.length:Int)<=16777216:=by have:=aTh hx; have:=h.use; have:=h.room; omega
theorem SI.Used (h:SI k s):pE (some s)=some (used s.f0:Int):=aUr s (by have:=h.len; omega) (by have:=h.use; have:=h.room; omega)
theorem SI.Names (h:SI k s):jU (some s)=some (s.f0.map S98.f0):=aUh s (by have:=h.len; omega)
theorem SI.begin (h:SI k s) (hk:k<4611686018427387904):gP s=some (!(step s).f3,step s):=by
 have h1:=h.armed; have h2:=h.ops;unfold gP step;rw [lt_,w64 (n:=s.f4+1) (by omega) (by omega)];by_cases c:0<s.f2
 ·rw [if_pos (by simpa using c),lt_,w64 (n:=s.f2 - 1) (by omega) (by omega)];simp only [if_pos c];rfl
 ·rw [if_neg (by simpa using c)];simp only [if_neg c];rfl
theorem SI.stepped (h:SI k s):SI (k+1) (step s):=by
 refine⟨h.rise,h.form,h.len,h.room,h.use,h.sure,h.byt,?_,?_⟩
 ·have:=h.armed; simp only [P.step]; split <;> omega
 ·have:=h.ops; simp only [P.step]; omega
theorem SI.mono (h:SI k s) {k':Nat} (hk:k<=k'):SI k' s:=⟨h.rise,h.form,h.len,h.room,h.use,h.sure,h.byt,h.armed,by have:=h.ops; omega⟩
theorem aCv (s:S77) (hn:n.length<4611686018427387904):cQ (some s) n=some (tZ s n):=by
 show (rG n).bind _=_;rw [aP7 n hn];simp only [Option.bind_some];unfold tZ;cases sV n with
 | true=>cases s.f3 <;> rfl
 | false=>rfl
theorem aR1 (a:List Int) (h:a.length<=140737488355328):dE a=some a:=by
 unfold dE;rw [bM (by simp only [List.length_nil]; omega)];cases a with
 | nil=>simp [tE]
 | cons b a=>simp [tE]
def aAh (s:S77) (n:List UInt8):List Int×Int:=if tZ s n=0 then (match get s.f0 n with | some x=>(x.f1,0) | none=>([],5)) else ([],tZ s n)
theorem SI.Read (h:SI k s) (hn:n.length<4611686018427387904):jT (some s) n=some (aAh s n):=by
 show (cQ (some s) n).bind _=_;rw [aCv s hn];simp only [Option.bind_some];unfold aAh;by_cases c:tZ s n=0
 ·rw [if_neg (by simpa using c),if_pos c,h.find];simp only [Option.bind_some];have hr:=h.rise;have hone:=λx=>h.one (x:=x);rcases aBf hr n with ⟨P,x,D,e,hx⟩ | ⟨P,D,e,hP,hD⟩
  ·rw [e] at hr hone ⊢;have hx1:=hone x (by simp);rw [aC8 hx hr,aAw hx hr,uW hx hr,if_neg (by simp),bG rfl (show (P++x::D)[P.length]?=some x by simp)];simp only [Option.bind_some];rw [aR1 _ (by omega)];rfl
  ·rw [e] at hr ⊢;rw [aCx hP hD,xJ hP hD,if_pos (by simp)]
 ·rw [if_pos (by simpa using c),if_neg c]
def rF (s:S77) (n:List UInt8) (p:List Int):Int×S77 :=
 if tZ s n=0 then
  if s.f1 - used s.f0<p.length\/((get s.f0 n).isNone=true/\500<=s.f0.length) then (10,s)
  else (if (P.step s).f3=true then 9 else 0,{ P.step s with f0:=put s.f0 ⟨n,((get s.f0 n).getD ⟨n,[],0⟩).f1++p,((get s.f0 n).getD ⟨n,[],0⟩).f2⟩ })
 else (tZ s n,s)
theorem aRt {y:Int×Bool} {b:Bool} {p:List Int} (h:b=true):eA n p s y b=some (10,some s):=by subst h; rfl
theorem aMl {l:List S98} {P D:List S98} {x:S98} {p:List Int} {b:Bool} {y:Bool} {r:S77} (hl:l=P++x::D) (hb:x.f1.length+p.length<=140737488355328) :
  gR p ((P.length:Int),b) (y,r) l=some (if y=true then 0 else 9,some ⟨P++⟨x.f0,x.f1++p,x.f2⟩::D,r.f1,r.f2,r.f3,r.f4⟩):=by
 subst hl;unfold gR;rw [bG rfl (show (P++x::D)[P.length]?=some x by simp)];simp only [Option.bind_some];rw [bM (by omega),Int.toNat_natCast,show (P++x::D).set P.length (⟨x.f0,x.f1++p,x.f2⟩:S98)=P++⟨x.f0,x.f1++p,x.f2⟩::D by simp];cases y <;> rfl
theorem SI.Append (h:SI k s) (hk:k<4611686018427387904) (hn:n.length<4611686018427387904) (p:List Int):pK (some s) n p=some ((rF s n p).1,some (rF s n p).2):=by
 have hu:=h.use; have hro:=h.room; have hlen:=h.len;show (cQ (some s) n).bind _=_;rw [aCv s hn];simp only [Option.bind_some];unfold rF;by_cases c:tZ s n=0
 ·rw [if_neg (by simpa using c),if_pos c,h.find];simp only [Option.bind_some];rw [h.Used];simp only [Option.bind_some];rw [lt_,w64 (by omega) (by omega)];by_cases c1:s.f1 - used s.f0<p.length
  ·rw [if_pos (by simpa using c1),if_pos (.inl c1),aRt rfl]
  ·rw [if_neg (by simpa using c1)];have hb:=h.begin hk;have hr:=h.rise;have hone:=λx=>h.one (x:=x);rcases aBf hr n with ⟨P,x,D,e,hx⟩ | ⟨P,D,e,hP,hD⟩
   ·rw [e] at hr;have hx1:=hone x (by rw [e]; simp);have e1:has s.f0 n=true:=by rw [e]; exact aC8 hx hr
    have e2:pos s.f0 n=P.length:=by rw [e]; exact aAw hx hr
    have e3:get s.f0 n=some x:=by rw [e]; exact uW hx hr
    rw [e1,e2,if_neg (by simp)];unfold eA;rw [if_neg (by simp),hb];simp only [Option.bind_some];rw [if_neg (by simp),e3,if_neg (by simp [c1]),show (step s).f0=P++x::D from e,aMl rfl (by omega),e,Option.getD_some,aA5 hx hr];subst hx;cases (step s).f3 <;> rfl
   ·rw [e] at hr;have e1:has s.f0 n=false:=by rw [e]; exact aCx hP hD
    have e2:pos s.f0 n=P.length:=by rw [e]; exact aLc hP hD
    have e3:get s.f0 n=none:=by rw [e]; exact xJ hP hD
    rw [e1,e2,if_pos (by simp)];by_cases c2:500<=s.f0.length
    ·rw [aRt (by simp; omega),e3,if_pos (by simp [c2])]
    ·unfold eA;rw [if_neg (by simp; omega),hb];simp only [Option.bind_some];have hl:s.f0.length=P.length+D.length:=by rw [e]; simp
     have hins:aN3 (step s).f0 (P.length:Int) [(⟨n,[],0⟩:S98)]=some (P++⟨n,[],0⟩::D):=by unfold aN3;rw [if_pos ⟨by omega,by show (P.length:Int)<=(s.f0.length:Int); omega,by simp,by show (s.f0.length+1) * 48<=_; omega⟩,show (step s).f0=P++D from e,Int.toNat_natCast,List.take_left,List.drop_left];simp
     rw [if_pos (by simp),hins];simp only [Option.bind_some];rw [e3,if_neg (by simp [c1]; omega),aMl rfl (by simp only [List.length_nil]; omega),e,Option.getD_none,aC2 hP hD];cases (step s).f3 <;> rfl
 ·rw [if_pos (by simpa using c),if_neg c]
end
section
variable {k:Nat} {s:S77} {n:List UInt8}
def aBt (s:S77) (n:List UInt8) (f:S98->List S98):Int×S77 :=
 if tZ s n=0 then
  match get s.f0 n with
  | none=>(5,s)
  | some x=>if (step s).f3=true then (9,step s) else (0,{ step s with f0:=f x })
 else (tZ s n,s)
def aDc (s:S77) (n:List UInt8):Int×S77:=aBt s n λx=>put s.f0 ⟨x.f0,x.f1,x.f1.length⟩
def uG (s:S77) (n:List UInt8):Int×S77:=aBt s n λx=>del s.f0 n
def aOb (s:S77) (a b:List UInt8):Int×S77 :=
 if sV a=true then if tZ s b=0 then aBt s a λx=>put (del s.f0 a) ⟨b,x.f1,x.f2⟩ else (tZ s b,s) else (1,s)
theorem SI.Sync (h:SI k s) (hk:k<4611686018427387904) (hn:n.length<4611686018427387904):pG (some s) n=some ((aDc s n).1,some (aDc s n).2):=by
 show (nK n s).bind _=_;unfold nK aDc aBt;rw [aCv s hn];simp only [Option.bind_some];by_cases c:tZ s n=0
 ·rw [if_neg (by simpa using c),if_pos c,h.find];simp only [Option.bind_some];have hb:=h.begin hk;have hr:=h.rise;rcases aBf hr n with ⟨P,x,D,e,hx⟩ | ⟨P,D,e,hP,hD⟩
  ·rw [e] at hr;have e1:has s.f0 n=true:=by rw [e]; exact aC8 hx hr
   have e2:pos s.f0 n=P.length:=by rw [e]; exact aAw hx hr
   have e3:get s.f0 n=some x:=by rw [e]; exact uW hx hr
   rw [e1,e2,e3,if_neg (by simp),hb];simp only [Option.bind_some];cases c3:(step s).f3 with
   | true=>rfl
   | false =>
    unfold pM;rw [if_neg (by simp),if_neg (by simp),bG rfl (show (step s).f0[P.length]?=some x by rw [show (step s).f0=P++x::D from e]; simp)];simp only [Option.bind_some];rw [e,aA5 (x:=x) (y:=⟨x.f0,x.f1,x.f1.length⟩) rfl hr,show (step s).f0=P++x::D from e,Int.toNat_natCast,
     show (P++x::D).set P.length (⟨x.f0,x.f1,x.f1.length⟩:S98)=P++⟨x.f0,x.f1,x.f1.length⟩::D by simp, ← c3]
  ·rw [e] at hr;have e1:has s.f0 n=false:=by rw [e]; exact aCx hP hD
   have e3:get s.f0 n=none:=by rw [e]; exact xJ hP hD
   rw [e1,e3,if_pos (by simp)];rfl
 ·rw [if_pos (by simpa using c),if_neg c];rfl
theorem SI.Delete (h:SI k s) (hk:k<4611686018427387904) (hn:n.length<4611686018427387904):pY (some s) n=some ((uG s n).1,some (uG s n).2):=by
 show (lJ n s).bind _=_;unfold lJ uG aBt;rw [aCv s hn];simp only [Option.bind_some];by_cases c:tZ s n=0
 ·rw [if_neg (by simpa using c),if_pos c,h.find];simp only [Option.bind_some];have hb:=h.begin hk;have hr:=h.rise;have hlen:=h.len;rcases aBf hr n with ⟨P,x,D,e,hx⟩ | ⟨P,D,e,hP,hD⟩
  ·rw [e] at hr;have e1:has s.f0 n=true:=by rw [e]; exact aC8 hx hr
   have e2:pos s.f0 n=P.length:=by rw [e]; exact aAw hx hr
   have e3:get s.f0 n=some x:=by rw [e]; exact uW hx hr
   have hl:s.f0.length=P.length+(D.length+1):=by rw [e]; simp
   rw [e1,e2,e3,if_neg (by simp),hb];simp only [Option.bind_some];cases c3:(step s).f3 with
   | true=>rfl
   | false =>
    unfold nH aWd;rw [if_neg (by simp),if_neg (by simp),lt_,w64 (by omega) (by omega),if_pos ⟨by omega,by show (P.length:Int)<(s.f0.length:Int); omega,rfl⟩];simp only [Option.bind_some];rw [e,aGo hx hr,show (step s).f0=P++x::D from e,Int.toNat_natCast,List.eraseIdx_append_of_length_le (Nat.le_refl _),Nat.sub_self,List.eraseIdx_cons_zero, ← c3]
  ·rw [e] at hr;have e1:has s.f0 n=false:=by rw [e]; exact aCx hP hD
   have e3:get s.f0 n=none:=by rw [e]; exact xJ hP hD
   rw [e1,e3,if_pos (by simp)];rfl
 ·rw [if_pos (by simpa using c),if_neg c];rfl
theorem SI.Rename (h:SI k s) (hk:k<4611686018427387904) {a b:List UInt8} (ha:a.length<4611686018427387904) (hn:b.length<4611686018427387904):pQ (some s) a b=some ((aOb s a b).1,some (aOb s a b).2):=by
 show (rG a).bind _=_;unfold aOb;rw [aP7 a ha];simp only [Option.bind_some];cases cf:sV a with
 | false=>rfl
 | true =>
  rw [if_neg (by simp),if_pos rfl,aCv s hn];simp only [Option.bind_some];by_cases c0:tZ s b=0
  ·rw [if_neg (by simpa using c0),if_pos c0];unfold oM aBt;rw [aCv s ha];simp only [Option.bind_some];by_cases c:tZ s a=0
   ·rw [if_neg (by simpa using c),if_pos c,h.find];simp only [Option.bind_some];have hb:=h.begin hk;have hr:=h.rise;have hlen:=h.len;rcases aBf hr a with ⟨P,x,D,e,hx⟩ | ⟨P,D,e,hP,hD⟩
    ·rw [e] at hr;have e1:has s.f0 a=true:=by rw [e]; exact aC8 hx hr
     have e2:pos s.f0 a=P.length:=by rw [e]; exact aAw hx hr
     have e3:get s.f0 a=some x:=by rw [e]; exact uW hx hr
     have hl:s.f0.length=P.length+(D.length+1):=by rw [e]; simp
     have hs0:(step s).f0=P++x::D:=e;rw [e1,e2,e3,if_neg (by simp),hb];simp only [Option.bind_some];cases c3:(step s).f3 with
     | true=>rfl
     | false =>
      unfold nU;rw [if_neg (by simp),if_neg (by simp),bG rfl (show (step s).f0[P.length]?=some x by rw [hs0]; simp)];simp only [Option.bind_some];have her:(step s).f0.eraseIdx (P.length:Int).toNat=P++D:=by rw [hs0,Int.toNat_natCast,List.eraseIdx_append_of_length_le (Nat.le_refl _),Nat.sub_self,List.eraseIdx_cons_zero]
      have hdl:del s.f0 a=P++D:=by rw [e]; exact aGo hx hr
      have hrd:lE (P++D):=aQr hr;rw [lt_,w64 (by omega) (by omega),bM rfl,her,hdl,aO2 _ hrd (by show (P++D).length<_; rw [List.length_append]; omega)];simp only [Option.bind_some];rcases aBf hrd b with ⟨P',x',D',e',hx'⟩ | ⟨P',D',e',hP',hD'⟩
      ·rw [e'] at hrd ⊢;rw [aC8 hx' hrd,aAw hx' hrd,if_pos rfl,bG rfl (show (P'++x'::D')[P'.length]?=some x' by simp)];simp only [Option.bind_some];rw [aA5 (y:=⟨b,x.f1,x.f2⟩) hx' hrd,Int.toNat_natCast,show (P'++x'::D').set P'.length (⟨b,x.f1,x.f2⟩:S98)=P'++⟨b,x.f1,x.f2⟩::D' by simp, ← c3]
      ·have hl':P.length+D.length=P'.length+D'.length:=by rw [← List.length_append,e',List.length_append]
       rw [e'];rw [aCx hP' hD',aLc hP' hD',if_neg (by simp)];unfold aN3;rw [if_pos ⟨by omega,by rw [List.length_append]; omega,by simp,by rw [List.length_append]; simp only [List.length_singleton]; omega⟩];simp only [Option.bind_some];rw [aC2 (y:=⟨b,x.f1,x.f2⟩) hP' hD',Int.toNat_natCast,List.take_left,List.drop_left, ← c3];simp
    ·rw [e] at hr;have e1:has s.f0 a=false:=by rw [e]; exact aCx hP hD
     have e3:get s.f0 a=none:=by rw [e]; exact xJ hP hD
     rw [e1,e3,if_pos (by simp)];rfl
   ·rw [if_pos (by simpa using c),if_neg c];rfl
  ·rw [if_pos (by simpa using c0),if_neg c0]
theorem aX0 (h:tZ s n=0):sV n=true/\s.f3=false:=by
 unfold tZ at h;split at h
 ·split at h
  ·cases h
  ·exact⟨by assumption,by simpa using (by assumption:¬ s.f3=true)⟩
 ·cases h
theorem SI.app (h:SI k s) {p:List Int} (hp:∀ b∈p,0<=b/\b<256):SI (k+1) (rF s n p).2:=by
 unfold rF;split
 ·rename_i c;split
  ·exact h.mono (Nat.le_succ k)
  ·rename_i c1;have hs:=h.stepped;have hu:=aBz h.rise ⟨n,((get s.f0 n).getD ⟨n,[],0⟩).f1++p,((get s.f0 n).getD ⟨n,[],0⟩).f2⟩;have hl:=aE2 h.rise ⟨n,((get s.f0 n).getD ⟨n,[],0⟩).f1++p,((get s.f0 n).getD ⟨n,[],0⟩).f2⟩;have hold:∀ y,y=(get s.f0 n).getD ⟨n,[],0⟩->(0<=y.f2/\y.f2<=y.f1.length)/\∀ b∈y.f1,0<=b/\b<256:=by
    intro y hy;cases hg:get s.f0 n with
    | none=>rw [hg] at hy; subst hy; simp
    | some x=>rw [hg] at hy; subst hy; exact⟨h.sure _ (tI hg).1,h.byt _ (tI hg).1⟩
   obtain⟨ho1,ho2⟩:=hold _ rfl;have hlen:=h.len; have huse:=h.use; have hro:=h.room;refine⟨aNd h.rise _,λx hx=>?_,?_,hs.room,?_,λx hx=>?_,λx hx=>?_,hs.armed,hs.ops⟩
   ·rcases aGm hx with rfl | hx
    ·exact (aX0 c).1
    ·exact h.form x hx
   ·show (put s.f0 _).length<=500;rw [hl];split
    ·exact hlen
    ·rename_i hi;have hi':get s.f0 n=none:=by simpa using hi
     have:¬ 500<=s.f0.length:=λq=>c1 (.inr ⟨by rw [hi']; rfl,q⟩);omega
   ·show ((used (put s.f0 _):Nat):Int)<=s.f1;simp only [List.length_append] at hu;have:¬ s.f1 - used s.f0<p.length:=λq=>c1 (.inl q);omega
   ·rcases aGm hx with rfl | hx
    ·simp only [List.length_append]; omega
    ·exact h.sure x hx
   ·rcases aGm hx with rfl | hx
    ·intro b hb;rcases List.mem_append.1 hb with hb | hb
     ·exact ho2 b hb
     ·exact hp b hb
    ·exact h.byt x hx
 ·exact h.mono (Nat.le_succ k)
theorem SI.putS (h:SI k s) {l:List S98} (hl:lE l) (hs:∀ x∈l,x∈s.f0) (y:S98) (hf:sV y.f0=true) (hn:(put l y).length<=500) (hu:(used (put l y):Int)<=s.f1) (h2:0<=y.f2/\y.f2<=y.f1.length) (hb:∀ b∈y.f1,0<=b/\b<256) {a:Int} (ha:0<=a/\a<=9223372036854775807) {f:Bool} {o:Int} (ho:0<=o/\o<=(k+1:Nat)) :
  SI (k+1) ⟨put l y,s.f1,a,f,o⟩:=by
 refine⟨aNd hl _,λx hx=>?_,hn,h.room,hu,λx hx=>?_,λx hx=>?_,ha,ho⟩
 all_goals rcases aGm hx with rfl | hx
 ·exact hf
 ·exact h.form x (hs x hx)
 ·exact h2
 ·exact h.sure x (hs x hx)
 ·exact hb
 ·exact h.byt x (hs x hx)
theorem SI.chg (h:SI k s) {f:S98->List S98} (hf:∀ x,get s.f0 n=some x->SI (k+1) { step s with f0:=f x }):SI (k+1) (aBt s n f).2:=by
 unfold aBt;split
 ·split
  ·exact h.mono (Nat.le_succ k)
  ·rename_i x hx;split
   ·exact h.stepped
   ·exact hf x hx
 ·exact h.mono (Nat.le_succ k)
theorem SI.syn (h:SI k s):SI (k+1) (aDc s n).2:=by refine h.chg λx hx=>?_;obtain⟨hm,hn⟩:=tI hx;have hl:=aE2 h.rise ⟨x.f0,x.f1,x.f1.length⟩;have hu:=aBz h.rise ⟨x.f0,x.f1,x.f1.length⟩;subst hn;simp only at hl hu;rw [hx] at hl hu;simp only [Option.isSome_some,if_true,Option.getD_some] at hl hu;exact h.putS h.rise (λ_ h=>h) ⟨x.f0,x.f1,x.f1.length⟩ (h.form x hm) (by rw [hl]; exact h.len) (by have:=h.use; omega) ⟨by simp,by simp⟩ (h.byt x hm) h.stepped.armed h.stepped.ops
theorem SI.del (h:SI k s):SI (k+1) (uG s n).2:=by refine h.chg λx hx=>?_;have hl:=aKv h.rise n;have hu:=aH5 h.rise n;exact⟨yG h.rise n,λy hy=>h.form y (aGn hy),by show (P.del s.f0 n).length<=500; have:=h.len; omega,h.room,by show (used (P.del s.f0 n):Int)<=s.f1; have:=h.use; omega,λy hy=>h.sure y (aGn hy),λy hy=>h.byt y (aGn hy),h.stepped.armed,h.stepped.ops⟩
theorem SI.ren (h:SI k s) {a b:List UInt8}:SI (k+1) (aOb s a b).2:=by
 unfold aOb;split
 ·split
  ·rename_i c;refine h.chg λx hx=>?_;obtain⟨hm,hn⟩:=tI hx;have hl:=aKv h.rise a;have hu:=aH5 h.rise a;have hl2:=aE2 (yG h.rise a) ⟨b,x.f1,x.f2⟩;have hu2:=aBz (yG h.rise a) ⟨b,x.f1,x.f2⟩;rw [hx] at hl hu;simp only [Option.isSome_some,if_true,Option.getD_some] at hl hu hl2 hu2;have h1:=h.len; have h2:=h.use;exact h.putS (yG h.rise a) (λy hy=>aGn hy) ⟨b,x.f1,x.f2⟩ (aX0 c).1 (by rw [hl2]; split <;> omega) (by omega) (h.sure x hm) (h.byt x hm) h.stepped.armed h.stepped.ops
  ·exact h.mono (Nat.le_succ k)
 ·exact h.mono (Nat.le_succ k)
end
def onS (l:List S98) (room:Int) (ops:Int):S77:=⟨l,room,0,false,ops⟩
theorem aPt {r:Int} (h:1<=r) (h':r<=16777216):vQ r=some (some (onS [] r 0),0):=by unfold vQ;rw [if_neg (by simp; omega)];unfold uQ;rw [if_neg (by simp; omega)];rfl
theorem aZq {r:Int} (h:1<=r) (h':r<=16777216):SI 0 (onS [] r 0) :=
 ⟨List.Pairwise.nil,λx hx=>(by cases hx),Nat.zero_le _,⟨h,h'⟩,by show ((0:Nat):Int)<=r; omega,λx hx=>(by cases hx),λx hx=>(by cases hx),⟨Int.le_refl 0,by show (0:Int)<=9223372036854775807; decide⟩,⟨Int.le_refl 0,Int.le_refl 0⟩⟩
structure AI (k i:Nat) (s:S77):Prop where
 si:SI i s
 room:s.f1=5000
 left:s.f2=(k:Int)+1 - i
 off:s.f3=decide (i=k+1)
 one:∃ p t,s.f0=[⟨[97],p,t⟩]/\p.length<=i
structure RI (n:Int) (i:Nat) (l:List S98) (ops:Int):Prop where
 si:SI (2 * i) (onS l n ops)
 len:l.length<=i
theorem bAa {x:Int} (h:gI .u8 x):0<=x/\x<256:=by unfold gI Lit.wf at h;simp only [Bool.and_eq_true,decide_eq_true_eq] at h;exact⟨h.1,Int.lt_of_le_of_lt h.2 (by decide)⟩
section
end
section
variable {k:Nat} {s:S77} {n:List UInt8}
end
section
variable {k:Nat} {s:S77} {n:List UInt8}
end
section
variable {k:Nat} {s:S77} {n:List UInt8}
theorem aC0 {l:List Int} (h:∀ b∈l,0<=b/\b<256):stb (bts l)=l:=by
 induction l with
 | nil=>rfl
 | cons b l ih =>
  have hb:=h b (List.mem_cons_self ..);show ((UInt8.ofNat b.toNat).toNat:Int)::stb (bts l)=_;rw [ih λx hx=>h x (List.mem_cons_of_mem _ hx)];congr 1;rw [UInt8.toNat_ofNat'];omega
end
section
variable {k:Nat} {s:S77} {n:List UInt8}
end
theorem wB (a:Nat):IntKind.u32.wrap (a:Int)=((a % 4294967296:Nat):Int):=by rw [IntKind.wrap_u32]; omega
theorem aM2 {a b:Nat} (ha:a<4294967296) (hb:b<4294967296):aAv .u32 (a:Int) (b:Int)=((a &&& b:Nat):Int):=by unfold aAv;rw [fB,fB,wB];have h:a &&& b<4294967296:=Nat.lt_of_le_of_lt Nat.and_le_left ha;simp only [BitVec.toNat_and,BitVec.toNat_ofNat,show IntKind.u32.bits=32 from rfl];rw [Nat.mod_eq_of_lt (show a<2 ^ 32 by omega),Nat.mod_eq_of_lt (show b<2 ^ 32 by omega),Nat.mod_eq_of_lt h]
theorem aLi {a b:Nat} (ha:a<4294967296) (hb:b<4294967296):ior .u32 (a:Int) (b:Int)=((a ||| b:Nat):Int):=by unfold ior;rw [fB,fB,wB];have h:a ||| b<2 ^ 32:=Nat.or_lt_two_pow (show a<2 ^ 32 by omega) (show b<2 ^ 32 by omega);simp only [BitVec.toNat_or,BitVec.toNat_ofNat,show IntKind.u32.bits=32 from rfl];rw [Nat.mod_eq_of_lt (show a<2 ^ 32 by omega),Nat.mod_eq_of_lt (show b<2 ^ 32 by omega),Nat.mod_eq_of_lt (show a ||| b<4294967296 from h)]
theorem aCe {a b:Nat} (ha:a<4294967296) (hb:b<4294967296):zW .u32 (a:Int) (b:Int)=((a ^^^ b:Nat):Int):=by unfold zW;rw [fB,fB,wB];have h:a ^^^ b<2 ^ 32:=Nat.xor_lt_two_pow (show a<2 ^ 32 by omega) (show b<2 ^ 32 by omega);simp only [BitVec.toNat_xor,BitVec.toNat_ofNat,show IntKind.u32.bits=32 from rfl];rw [Nat.mod_eq_of_lt (show a<2 ^ 32 by omega),Nat.mod_eq_of_lt (show b<2 ^ 32 by omega),Nat.mod_eq_of_lt (show a ^^^ b<4294967296 from h)]
theorem aGt (a n:Nat) (h:n<=32):wD .u32 (a:Int) (n:Int)=((a * 2 ^ n % 4294967296:Nat):Int):=by unfold wD;rw [Int.toNat_natCast,show min n IntKind.u32.bits=n from Nat.min_eq_left h,aEm, ← Int.natCast_mul,wB]
theorem zU {a b:Nat} (ha:a<4294967296) (hb:b<4294967296):a ^^^ b<4294967296:=Nat.xor_lt_two_pow (n:=32) ha hb
def s1 (c:Nat):Nat:=if c % 2=1 then (c / 2) ^^^ 3988292384 else c / 2
theorem bAw {c:Nat} (h:c<4294967296):s1 c<4294967296:=by
 unfold s1;split
 ·exact zU (by omega) (by decide)
 ·omega
theorem aZe (a b:Nat):s1 (a ^^^ b)=s1 a ^^^ s1 b:=by
 unfold s1;have h:=Nat.xor_mod_two_eq_one (a:=a) (b:=b);rw [Nat.xor_div_two];by_cases ha:a % 2=1 <;> by_cases hb:b % 2=1
 ·rw [if_neg (by rw [h]; simp [ha,hb]),if_pos ha,if_pos hb];rw [show (a / 2 ^^^ 3988292384) ^^^ (b / 2 ^^^ 3988292384)=(a / 2 ^^^ b / 2) ^^^ (3988292384 ^^^ 3988292384) by
   rw [Nat.xor_assoc, ← Nat.xor_assoc 3988292384,Nat.xor_comm 3988292384 (b / 2),Nat.xor_assoc (b / 2), ← Nat.xor_assoc]]
  simp
 ·rw [if_pos (by rw [h]; simp [ha,hb]),if_pos ha,if_neg hb,Nat.xor_assoc,Nat.xor_comm (b / 2), ← Nat.xor_assoc]
 ·rw [if_pos (by rw [h]; simp [ha,hb]),if_neg ha,if_pos hb,Nat.xor_assoc]
 ·rw [if_neg (by rw [h]; simp [ha,hb]),if_neg ha,if_neg hb]
theorem aUn (a:Nat):s1 (2 * a)=a:=by unfold s1; rw [if_neg (by omega)]; omega
theorem aVi (a z:Nat):s1 (2 * a ^^^ z)=a ^^^ s1 z:=by rw [aZe,aUn]
def st (x:Nat):Nat->Nat->Nat
 | 0,c=>c
 | k+1,c=>s1 (st x k c ^^^ (x / 2 ^ k % 2))
theorem aXw (x:Nat) {c:Nat} (h:c<4294967296):∀ k,st x k c<4294967296
 | 0=>h
 | k+1=>bAw (zU (aXw x h k) (by omega))
def tabN:List Nat:=[0,498536548,997073096,651767980,1994146192,1802195444,1303535960,1342533948,3988292384,4027552580,3604390888,3412177804,2607071920,2262029012,2685067896,3183342108]
theorem aZv:bX=tabN.map λn:Nat=>(n:Int):=by decide
def F4 (r m:Nat):Nat:=s1 (s1 (s1 (s1 (r ^^^ m / 1 % 2) ^^^ m / 2 % 2) ^^^ m / 4 % 2) ^^^ m / 8 % 2)
theorem aTc:∀ r<16,∀ m<16,tabN[r ^^^ m]?=some (F4 r m):=by decide +kernel
theorem aU6 (c:Nat):c=(16 * (c / 16)) ^^^ (c % 16):=by
 apply Nat.eq_of_testBit_eq;intro i;rw [Nat.testBit_xor,show 16 * (c / 16)=2 ^ 4 * (c / 2 ^ 4) from rfl,show c % 16=c % 2 ^ 4 from rfl,Nat.testBit_two_pow_mul,Nat.testBit_mod_two_pow,Nat.testBit_div_two_pow];by_cases h:i<4
 ·simp [h,Nat.not_le.2 h]
 ·rw [show i - 4+4=i by omega]; simp [h,Nat.le_of_not_lt h]
theorem nib (c m:Nat):s1 (s1 (s1 (s1 (c ^^^ m / 1 % 2) ^^^ m / 2 % 2) ^^^ m / 4 % 2) ^^^ m / 8 % 2)=(c / 16) ^^^ F4 (c % 16) m:=by have h:=aU6 c;obtain⟨q,hq⟩:∃ q,q=c / 16:=⟨_,rfl⟩;obtain⟨r,hr⟩:∃ r,r=c % 16:=⟨_,rfl⟩;rw [← hq, ← hr] at h ⊢;rw [h];unfold F4;rw [Nat.xor_assoc,show 16 * q=2 * (8 * q) by omega,aVi,Nat.xor_assoc,show 8 * q=2 * (4 * q) by omega,aVi,Nat.xor_assoc,show 4 * q=2 * (2 * q) by omega,aVi,Nat.xor_assoc,aVi]
theorem st8 (x c:Nat) (hx:x<256):st x 8 c=(((c / 16) ^^^ F4 (c % 16) (x % 16)) / 16) ^^^ F4 (((c / 16) ^^^ F4 (c % 16) (x % 16)) % 16) (x / 16):=by
 rw [← nib c (x % 16), ← nib _ (x / 16)];show s1 (s1 (s1 (s1 (s1 (s1 (s1 (s1 (c ^^^ x / 2 ^ 0 % 2) ^^^ x / 2 ^ 1 % 2) ^^^ x / 2 ^ 2 % 2) ^^^ x / 2 ^ 3 % 2) ^^^ x / 2 ^ 4 % 2) ^^^ x / 2 ^ 5 % 2) ^^^ x / 2 ^ 6 % 2) ^^^ x / 2 ^ 7 % 2)=_;rw [show x / 2 ^ 0 % 2=x % 16 / 1 % 2 by omega,show x / 2 ^ 1 % 2=x % 16 / 2 % 2 by omega,show x / 2 ^ 2 % 2=x % 16 / 4 % 2 by omega,show x / 2 ^ 3 % 2=x % 16 / 8 % 2 by omega,
  show x / 2 ^ 4 % 2=x / 16 / 1 % 2 by omega,show x / 2 ^ 5 % 2=x / 16 / 2 % 2 by omega,show x / 2 ^ 6 % 2=x / 16 / 4 % 2 by omega,show x / 2 ^ 7 % 2=x / 16 / 8 % 2 by omega]
def aHg (c:Nat) (xs:List Int):Nat:=xs.foldl (λc x=>st x.toNat 8 c) c
theorem aGk:∀ (xs:List Int) {c:Nat},c<4294967296->aHg c xs<4294967296
 | [],_,h=>h
 | x::xs,c,h=>aGk xs (aXw _ h 8)
theorem aQp (c:Nat) (xs:List Int) (x:Int):aHg c (xs++[x])=st x.toNat 8 (aHg c xs):=by simp [aHg]
theorem aXm {r m:Nat} (hr:r<16) (hm:m<16):at_ bX ((r ^^^ m:Nat):Int)=some ((F4 r m:Nat):Int):=by rw [aN2,aZv,List.getElem?_map,aTc r hr m hm]; rfl
theorem aXu (a b:Nat):(a ^^^ b) &&& 15=a % 16 ^^^ b % 16:=by rw [show 15=2 ^ 4 - 1 from rfl,Nat.and_two_pow_sub_one_eq_mod,Nat.xor_mod_two_pow]
theorem aXf {r m:Nat} (hr:r<16) (hm:m<16):F4 r m<4294967296:=by
 have:=aTc r hr m hm;have h:∀ x∈tabN,x<4294967296:=by decide
 exact h _ (List.mem_of_getElem? this)
theorem aQa {xs:List Int} (hB:Bs xs) (hl:xs.length<2 ^ 60) {k:Nat} (hk:k<xs.length) {c:Nat} (hc:c<4294967296) :
  nM xs (c:Int) (k:Int)=some (.inl (((st (xs[k]'hk).toNat 8 c:Nat):Int),((k+1:Nat):Int))):=by
 obtain⟨x,hx⟩:∃ x,x=xs[k]'hk:=⟨_,rfl⟩;have hxb:=hB x (hx▸List.getElem_mem hk);obtain⟨b,rfl⟩:=Int.eq_ofNat_of_zero_le hxb.1;have hb:b<256:=by omega
 have hg:xs[k]?=some (b:Int):=by rw [hx]; exact List.getElem?_eq_getElem hk
 rw [← hx,Int.toNat_natCast,st8 b c hb];unfold nM;simp only [lt_];rw [if_pos (by simp; omega),bG rfl hg];simp only [Option.bind_some];have z:(15:Int)=((15:Nat):Int):=rfl;have e4:(4:Int)=((4:Nat):Int):=rfl;have hf:F4 (c % 16) (b % 16)<4294967296:=aXf (by omega) (by omega);have hd:c / 16 ^^^ F4 (c % 16) (b % 16)<4294967296:=zU (by omega) hf;obtain⟨d,hdd⟩:∃ d,d=c / 16 ^^^ F4 (c % 16) (b % 16):=⟨_,rfl⟩;rw [← hdd] at hd ⊢;rw [wB,Nat.mod_eq_of_lt (by omega),aCe hc (by omega),z,aM2 (zU hc (by omega)) (by decide),aXu,aXm (by omega) (by omega),e4];simp only [Option.bind_some];rw [lZ _ _ (by decide),lZ _ _ (by decide),show c / 2 ^ 4=c / 16 from rfl,show b / 2 ^ 4=b / 16 from rfl,aCe hf (by omega),Nat.xor_comm _ (c / 16), ← hdd,aCe hd (by omega),
  aM2 (zU hd (by omega)) (by decide),aXu,show b / 16 % 16=b / 16 by omega,aXm (by omega) (by omega)]
 simp only [Option.bind_some];rw [lZ _ _ (by decide),show d / 2 ^ 4=d / 16 from rfl,aCe (aXf (by omega) (by omega)) (by omega),Nat.xor_comm _ (d / 16),w64 (by omega) (by omega)];rfl
theorem aSn (c:Nat) {xs:List Int} {k:Nat} (hk:k<xs.length):aHg c (xs.take (k+1))=st (xs[k]'hk).toNat 8 (aHg c (xs.take k)):=by rw [List.take_add_one,List.getElem?_eq_getElem hk];exact aQp _ _ _
def crc (xs:List Int):Nat:=aHg 4294967295 xs ^^^ 4294967295
theorem aN5 (xs:List Int):crc xs<4294967296:=zU (aGk xs (by decide)) (by decide)
theorem aF7 {xs:List Int} (hB:Bs xs) (hl:xs.length<2 ^ 60):zY xs=some ((crc xs:Nat):Int):=by
 have h:=kD (b:=λs:Int×Int=>nM xs s.1 s.2) (λk=>(((aHg 4294967295 (xs.take k):Nat):Int),(k:Int))) (t:=((aHg 4294967295 xs:Nat):Int)) xs.length (λk hk=>by
  show nM xs _ _=_;rw [aQa hB hl hk (aGk _ (by decide)),aSn _ hk]) (by
  show nM xs ((aHg 4294967295 (xs.take xs.length):Nat):Int) (xs.length:Int)=_;unfold nM;rw [if_neg (by simp),List.take_length])
 unfold zY;rw [show ((4294967295,0):Int×Int)=(((aHg 4294967295 (xs.take 0):Nat):Int),((0:Nat):Int)) from rfl,h];show some (zW .u32 IntKind.u32.max _)=_;rw [show IntKind.u32.max=((4294967295:Nat):Int) by decide,aCe (by decide) (aGk _ (by decide)),Nat.xor_comm];rfl
def aBm (v:List Int):Nat:=(v.getD 0 0).toNat+256 * (v.getD 1 0).toNat+65536 * (v.getD 2 0).toNat+16777216 * (v.getD 3 0).toNat
theorem aPr {v:List Int} (hB:Bs v) (h:4<=v.length):∃ a b c d:Nat,∃ r,v=(a:Int)::b::c::d::r/\a<256/\b<256/\c<256/\d<256:=by
 match v,h with
 | a::b::c::d::r,_ =>
  have ha:=hB a (by simp); have hb:=hB b (by simp); have hc:=hB c (by simp); have hd:=hB d (by simp);obtain⟨a,rfl⟩:=Int.eq_ofNat_of_zero_le ha.1; obtain⟨b,rfl⟩:=Int.eq_ofNat_of_zero_le hb.1;obtain⟨c,rfl⟩:=Int.eq_ofNat_of_zero_le hc.1; obtain⟨d,rfl⟩:=Int.eq_ofNat_of_zero_le hd.1;exact⟨a,b,c,d,r,rfl,by omega,by omega,by omega,by omega⟩
theorem aLb (a b c d:Nat) (r:List Int):aBm ((a:Int)::b::c::d::r)=a+256 * b+65536 * c+16777216 * d:=by simp [aBm]
theorem aVq {v:List Int} (hB:Bs v) (h:4<=v.length):aBm v<4294967296:=by obtain⟨a,b,c,d,r,rfl,h1,h2,h3,h4⟩:=aPr hB h;rw [aLb]; omega
theorem at0 {α:Type} (a b c d:α) (r:List α):at_ (a::b::c::d::r) 0=some a/\at_ (a::b::c::d::r) 1=some b/\at_ (a::b::c::d::r) 2=some c/\at_ (a::b::c::d::r) 3=some d :=
 ⟨bG (n:=0) rfl rfl,bG (n:=1) rfl rfl,bG (n:=2) rfl rfl,bG (n:=3) rfl rfl⟩
theorem aBu {v:List Int} (hB:Bs v) (h:4<=v.length):tT v=some (aBm v:Int):=by obtain⟨a,b,c,d,r,rfl,h1,h2,h3,h4⟩:=aPr hB h;obtain⟨e0,e1,e2,e3⟩:=at0 (a:Int) (b:Int) (c:Int) (d:Int) r;unfold tT;simp only [lt_,e0,e1,e2,e3,Option.bind_some];rw [show (8:Int)=((8:Nat):Int) from rfl,show (16:Int)=((16:Nat):Int) from rfl,show (24:Int)=((24:Nat):Int) from rfl];rw [wB a,wB b,wB c,wB d,Nat.mod_eq_of_lt (show a<4294967296 by omega),Nat.mod_eq_of_lt (show b<4294967296 by omega),Nat.mod_eq_of_lt (show c<4294967296 by omega),Nat.mod_eq_of_lt (show d<4294967296 by omega)];rw [aGt b 8 (by decide),aGt c 16 (by decide),aGt d 24 (by decide),Nat.mod_eq_of_lt (show b * 2 ^ 8<4294967296 by omega),Nat.mod_eq_of_lt (show c * 2 ^ 16<4294967296 by omega),Nat.mod_eq_of_lt (show d * 2 ^ 24<4294967296 by omega)];rw [aLi (by omega) (by omega),aBa (show a<2 ^ 8 by omega),aLi (by omega) (by omega),aBa (show a+b * 2 ^ 8<2 ^ 16 by omega),aLi (by omega) (by omega),aBa (show a+b * 2 ^ 8+c * 2 ^ 16<2 ^ 24 by omega),aLb];congr 2;omega
theorem aFx {l:List Int} (h:l.length<=140737488355328):dE l=some l:=by unfold dE;rw [bM (by simp; omega)];unfold tE;cases l <;> simp
def zT (b:List Int) (a:Int):Int×List Int×Int×Int :=
 if a<0\/(b.length:Int)<a then (0,[],0,1) else
 if (b.drop a.toNat).length<9 then (0,[],0,3) else
 if 1048576<aBm (b.drop a.toNat)\/(b.drop a.toNat).length - 9<aBm (b.drop a.toNat) then (0,[],0,3) else
 if crc ((b.drop a.toNat).take (5+aBm (b.drop a.toNat)))=aBm ((b.drop a.toNat).drop (5+aBm (b.drop a.toNat))) then
  ((b.drop a.toNat).getD 4 0,((b.drop a.toNat).take (5+aBm (b.drop a.toNat))).drop 5,a+aBm (b.drop a.toNat)+9,0) else (0,[],0,4)
theorem bBb {v:List Int} (h:5<=v.length):at_ v 4=some (v.getD 4 0):=by refine bG (n:=4) rfl ?_;rw [List.getD_eq_getElem?_getD,List.getElem?_eq_getElem (by omega)];rfl
theorem aO6 {α:Type} {xs:List α} {l:Nat} (h:l<=xs.length):kX xs (l:Int) (xs.length:Int)=some (xs.drop l):=by rw [sE h (Nat.le_refl _),List.take_length]
theorem xD {b:List Int} {a:Int} (hB:Bs b) (hl:b.length<2 ^ 40):sH b a=some (zT b a):=by
 unfold sH zT;by_cases h0:a<0
 ·rw [if_pos (by simpa using h0),if_pos (.inl h0)]; rfl
 rw [if_neg (by simpa using h0)];by_cases h1:(b.length:Int)<a
 ·rw [if_pos (.inr h1),show decide ((b.length:Int)<a)=true by simpa using h1]; rfl
 rw [if_neg (by omega),show decide ((b.length:Int)<a)=false by simpa using h1];obtain⟨k,rfl⟩:=Int.eq_ofNat_of_zero_le (show 0<=a by omega);have hv:=hB.drop k;have hvl:(b.drop k).length=b.length - k:=by simp
 have hc:=aO6 (xs:=b) (l:=k) (by omega);rw [Int.toNat_natCast];obtain⟨v,hvd⟩:∃ v,v=b.drop k:=⟨_,rfl⟩;rw [← hvd] at hv hvl hc ⊢;unfold uO;rw [if_neg (by simp),hc];simp only [Option.bind_some];by_cases h9:v.length<9
 ·rw [if_pos (by simp; omega),if_pos h9]
 rw [if_neg (by simp; omega),if_neg h9,aBu hv (by omega)];simp only [Option.bind_some];have z:=aVq hv (by omega);have hcr:=aN5 (v.take (5+aBm v));obtain⟨n,hn⟩:∃ n,n=aBm v:=⟨_,rfl⟩;rw [← hn] at z hcr ⊢;by_cases h2:1048576<n
 ·rw [if_pos (by simp; omega),if_pos (.inl h2)]; rfl
 rw [if_neg (by simp; omega),lt_,lt_,w64 (by omega) (by omega),w64 (by omega) (by omega)];by_cases h3:v.length - 9<n
 ·rw [if_pos (.inr h3),show decide ((v.length:Int) - 9<(n:Int))=true by simp; omega]; rfl
 rw [if_neg (by omega),show decide ((v.length:Int) - 9<(n:Int))=false by simp; omega];unfold uX;rw [if_neg (by simp)];simp only [lt_];rw [w64 (n:=(n:Int)) (by omega) (by omega),w64 (n:=5+(n:Int)) (by omega) (by omega),show (5:Int)+(n:Int)=((5+n:Nat):Int) by omega,
  show kX v 0 ((5+n:Nat):Int)=some ((v.take (5+n)).drop 0) from sE (l:=0) (Nat.zero_le _) (by omega),List.drop_zero]
 simp only [Option.bind_some];rw [aO6 (by omega)];simp only [Option.bind_some];rw [aF7 (hv.take _) (by simp; omega)];simp only [Option.bind_some];rw [aBu (hv.drop _) (by simp; omega)];simp only [Option.bind_some];by_cases h4:crc (v.take (5+n))=aBm (v.drop (5+n))
 ·rw [if_neg (by simp; omega),if_pos h4,bBb (by omega)];simp only [Option.bind_some];rw [show kX v 5 ((5+n:Nat):Int)=some ((v.take (5+n)).drop 5) from sE (l:=5) (by omega) (by omega)];simp only [Option.bind_some];rw [aFx (by simp; omega)];simp only [Option.bind_some];rw [w64 (n:=(k:Int)+((5+n:Nat):Int)) (by omega) (by omega),w64 (by omega) (by omega)];congr 4;omega
 ·rw [if_pos (by simp; omega),if_neg h4]
theorem aSj {b:List Int} {a:Int} (hB:Bs b):Bs (zT b a).2.1/\(zT b a).2.1.length<=1048576:=by
 unfold zT
 repeat' split
 all_goals first
  | exact⟨Bs.nil,by simp⟩
  | exact⟨((hB.drop _).take _).drop _,by simp; omega⟩
def pTx:Nat->List Int->Option (List (List UInt8)×List Int)
 | 0,xs=>some ([],xs)
 | n+1,xs=>match pT 1048576 xs with
  | some (t,r)=>match pTx n r with
   | some (ts,r')=>some (t::ts,r')
   | none=>none
  | none=>none
theorem aPk {most:Int} {xs r:List Int} {t:List UInt8} (h:pT most xs=some (t,r)):t.length<=xs.length:=by
 unfold pT at h;split at h
 ·rename_i n r' he;obtain⟨_,p,hp,_⟩:=tH he;split at h
  ·cases h;rw [hp]; simp [bts]; omega
  ·cases h
 ·cases h
theorem aTm:∀ (n:Nat) {xs:List Int} {ts:List (List UInt8)} {r:List Int},Bs xs->pTx n xs=some (ts,r)->Bs r/\r.length<=xs.length/\ts.length=n/\∀ t∈ts,t.length<=xs.length
 | 0,xs,ts,r,hB,h=>by cases h; exact⟨hB,Nat.le_refl _,rfl,λt ht=>by cases ht⟩
 | n+1,xs,ts,r,hB,h=>by
  unfold pTx at h;split at h
  ·rename_i t r1 he;obtain⟨h1,h2⟩:=aPb hB he;split at h
   ·rename_i us r2 he2;cases h;obtain⟨g1,g2,g3,g4⟩:=aTm n h1 he2;refine⟨g1,by omega,by simp [g3],λq hq=>?_⟩;rcases List.mem_cons.1 hq with rfl | hq
    ·exact aPk he
    ·have:=g4 q hq; omega
   ·cases h
  ·cases h
theorem aJu:∀ (m k:Nat) (a:List (List Int)) (xs:List Int),Bs xs->xs.length<1099511627776->k+m=5->a.length=5 ->
  ∃ y,loop (λs:List Int×List (List Int)×Int=>fY s.1 s.2.1 s.2.2) (xs,a,(k:Int))=some y/\match pTx m xs with
   | some (ts,r)=>y=.inl (r,a.take k++ts.map stb)
   | none=>∃ s,y=.inr (.inr s)
 | 0,k,a,xs,hB,hl,hk,ha=>by
  refine⟨.inl (xs,a),bF ?_,?_⟩
  ·show fY xs a (k:Int)=_;unfold fY;rw [if_neg (by simp only [decide_eq_true_eq]; omega)]
  ·show _=_;rw [List.take_of_length_le (by omega)]; simp
 | m+1,k,a,xs,hB,hl,hk,ha=>by
  unfold pTx;rcases (aKt 1048576 hB (by omega)).cases with ⟨t,r,h1,h2⟩ | ⟨h1,s,h2⟩
  ·rw [h1];obtain⟨hBr,hlr⟩:=aPb hB h1;have htl:=aPk h1;obtain⟨y,hy,hm⟩:=aJu m (k+1) (a.set k (stb t)) r hBr (by omega) (by omega) (by simpa using ha);have hx:=List.getElem?_eq_getElem (l:=a) (i:=k) (by omega);refine⟨y,(cH (s':=(r,a.set k (stb t),((k+1:Nat):Int))) ?_).trans hy,?_⟩
   ·show fY xs a (k:Int)=_;unfold fY;rw [if_pos (by simp only [decide_eq_true_eq]; omega),h2];simp only [Option.bind_some,iA];rw [bM (by simp only [maxLen]; omega),bG rfl hx];simp only [Option.bind_some];rw [lt_,w64 (by omega) (by omega)];rfl
   ·have e:(a.set k (stb t)).take (k+1)=a.take k++[stb t]:=by rw [List.take_add_one,List.getElem?_set_self (by omega),List.take_set_of_le (by omega)]; rfl
    dsimp only;cases hq:pTx m r with
    | none=>rw [hq] at hm; exact hm
    | some z =>
     rw [hq] at hm;obtain⟨ts,r'⟩:=z;simp only at hm ⊢;rw [hm,e]; simp
  ·rw [h1];refine⟨.inr (.inr (s,a)),bF ?_,_,rfl⟩;show fY xs a (k:Int)=_;unfold fY;rw [if_pos (by simp only [decide_eq_true_eq]; omega),h2];rfl
def qG (x:S61) (k:Int):Bool:=decide (0<=x.f1)&&(decide (x.f1<k)&&(decide (-1099511627776<=x.f2)&&(decide (x.f2<=1099511627776)&&(decide ((x.f3.length:Int)<=32)&&decide (x.f0<1099511627776)))))
theorem aKo (x:S61) (k:Int):vN x k=some (qG x k):=by unfold vN qG;cases decide (0<=x.f1) <;> cases decide (x.f1<k) <;> cases decide (-1099511627776<=x.f2) <;> cases decide (x.f2<=1099511627776) <;> cases decide ((x.f3.length:Int)<=32) <;> rfl
def aDm (k:Int):List Int->List Int->List Int->List (List UInt8)->List Nat->Option (List S61)
 | a::as_,b::bs,c::cs,d::ds,e::es =>
  if qG ⟨IntKind.u64.wrap a,b,c,d,e⟩ k=true then (aDm k as_ bs cs ds es).map (⟨IntKind.u64.wrap a,b,c,d,e⟩::·) else none
 | _,_,_,_,_=>some []
theorem aI5 (s:Int) (A B C:List Int) (D:List (List UInt8)) (F:List Nat) (i j k l m:Int) (hB:B.length=A.length) (hC:C.length=A.length) (hD:D.length=A.length) (hF:F.length=A.length) (hA:A.length<=4096) :
  ∀ (n q:Nat) (pre:List S61),q+n=A.length->pre.length=q ->
   loop (λz:List S61×Int=>lV s (A,i) (B,j) (C,k) (D,l) (F,m) z.1 z.2) (pre,(q:Int))=some (match aDm s (A.drop q) (B.drop q) (C.drop q) (D.drop q) (F.drop q) with
    | some es=>.inl (pre++es)
    | none=>.inr ([],0,3))
 | 0,q,pre,hq,hp=>by rw [List.drop_of_length_le (show A.length<=q by omega)];refine bF ?_;show lV s (A,i) (B,j) (C,k) (D,l) (F,m) pre (q:Int)=_;unfold lV aDm;rw [if_neg (by simp only [decide_eq_true_eq]; omega)];simp
 | n+1,q,pre,hq,hp=>by
  have gA:=List.getElem?_eq_getElem (l:=A) (i:=q) (by omega);have gB:=List.getElem?_eq_getElem (l:=B) (i:=q) (by omega);have gC:=List.getElem?_eq_getElem (l:=C) (i:=q) (by omega);have gD:=List.getElem?_eq_getElem (l:=D) (i:=q) (by omega);have gF:=List.getElem?_eq_getElem (l:=F) (i:=q) (by omega);rw [List.drop_eq_getElem_cons (show q<A.length by omega),List.drop_eq_getElem_cons (show q<B.length by omega),List.drop_eq_getElem_cons (show q<C.length by omega),List.drop_eq_getElem_cons (show q<D.length by omega),List.drop_eq_getElem_cons (show q<F.length by omega)];generalize A[q]=a at *;generalize B[q]=b at *;generalize C[q]=c at *;generalize D[q]=d at *;generalize F[q]=e at *;have hs:lV s (A,i) (B,j) (C,k) (D,l) (F,m) pre (q:Int)=if qG ⟨IntKind.u64.wrap a,b,c,d,e⟩ s=true then some (.inl (pre++[⟨IntKind.u64.wrap a,b,c,d,e⟩],((q+1:Nat):Int))) else some (.inr (.inr ([],0,3))):=by unfold lV;rw [if_pos (by simp only [decide_eq_true_eq]; omega),bG rfl gA];simp only [Option.bind_some,lt_];rw [bG rfl gB,bG rfl gC,bG rfl gD,bG rfl gF];simp only [Option.bind_some,aKo];rw [bM (by simp; omega),w64 (by omega) (by omega)];cases qG ⟨IntKind.u64.wrap a,b,c,d,e⟩ s <;> rfl
  unfold aDm;by_cases hf:qG ⟨IntKind.u64.wrap a,b,c,d,e⟩ s=true
  ·rw [if_pos hf] at hs ⊢;rw [cH (s':=(pre++[⟨IntKind.u64.wrap a,b,c,d,e⟩],((q+1:Nat):Int))) hs,aI5 s A B C D F i j k l m hB hC hD hF hA n (q+1) (pre++[(⟨IntKind.u64.wrap a,b,c,d,e⟩:S61)]) (by omega) (by simp [hp])];cases aDm s (A.drop (q+1)) (B.drop (q+1)) (C.drop (q+1)) (D.drop (q+1)) (F.drop (q+1)) <;> simp
  ·rw [if_neg hf] at hs ⊢;rw [bF (t:=.inr ([],0,3)) hs]
theorem aH4 (l:List Int) (b:Int) (h:l.length<1099511627776):dH l b=some (decide (b∈l)):=by
 unfold dH fJ;have key:∀ (m k:Nat),k+m=l.length->∃ y,loop (λs:Int=>bY l b s) (k:Int)=some y/\if b∈l.drop k then ∃ j:Nat,y=.inr (j:Int) else y=.inl ():=by
  intro m
  induction m with
  | zero =>
   intro k hk;refine⟨.inl (),bF ?_,?_⟩
   ·unfold bY;rw [if_neg (by simp only [decide_eq_true_eq]; omega)]
   ·rw [List.drop_of_length_le (by omega),if_neg (by simp)]
  | succ m ih =>
   intro k hk;have hkl:k<l.length:=by omega
   have hx:=List.getElem?_eq_getElem hkl;have hd:l.drop k=l[k]::l.drop (k+1):=List.drop_eq_getElem_cons hkl;rw [hd];by_cases hb:b=l[k]
   ·refine⟨.inr (k:Int),bF ?_,?_⟩
    ·unfold bY;rw [if_pos (by simp only [decide_eq_true_eq]; omega),bG rfl hx];simp only [Option.bind_some];rw [if_pos (by simpa using hb)]
    ·rw [if_pos (by rw [hb]; exact List.mem_cons_self)];exact⟨k,rfl⟩
   ·obtain⟨y,hy,hm⟩:=ih (k+1) (by omega);refine⟨y,(cH (s':=((k+1:Nat):Int)) ?_).trans hy,?_⟩
    ·unfold bY;rw [if_pos (by simp only [decide_eq_true_eq]; omega),bG rfl hx];simp only [Option.bind_some];rw [if_neg (by simpa using hb),lt_,w64 (by omega) (by omega)];rfl
    ·have he:(b∈l[k]::l.drop (k+1))=(b∈l.drop (k+1)):=propext ⟨λh=>(List.mem_cons.1 h).resolve_left hb,λh=>List.mem_cons_of_mem _ h⟩;simpa only [he] using hm
 obtain⟨y,hy,hm⟩:=key l.length 0 (by omega);rw [show ((0:Nat):Int)=0 from rfl] at hy;rw [hy,List.drop_zero] at *;by_cases hb:b∈l
 ·rw [if_pos hb] at hm;obtain⟨j,rfl⟩:=hm;simp only [Option.bind_some];rw [show decide (0<=(j:Int))=true by simp,show decide (b∈l)=true by simpa using hb]
 ·rw [if_neg hb] at hm;subst hm;rw [show decide (b∈l)=false by simpa using hb];rfl
def evL (s:Int) (t0 t1 t2 t3 t4:List UInt8):Option (List S61) :=
 match vH (stb t0),vH (stb t1),vH (stb t2),aJq (stb t3),aMz (stb t4) with
 | some a,some b,some c,some d,some e=>if b.length=a.length/\c.length=a.length/\d.length=a.length/\e.length=a.length then aDm s a b c d e else none
 | _,_,_,_,_=>none
def evR (b:List Int) (a s:Int):List S61×Int×Int :=
 if (zT b a).2.2.2≠0 then ([],0,(zT b a).2.2.2) else
 if (zT b a).1≠101 then ([],0,3) else
 match pTx 5 (zT b a).2.1 with
 | some ([t0,t1,t2,t3,t4],[])=>match evL s t0 t1 t2 t3 t4 with
  | some l=>(l,(zT b a).2.2.1,0)
  | none=>([],0,3)
 | _=>([],0,3)
theorem aGz (t:List UInt8):Bs (stb t):=λb hb=>by unfold stb at hb;obtain⟨c,_,rfl⟩:=List.mem_map.1 hb;have:=c.toNat_lt;omega
theorem xK (t:List UInt8):(stb t).length=t.length:=by simp [stb]
theorem aOp (s:Int) (y:Int×List Int×Int×Int) (t0 t1 t2 t3 t4:List UInt8) (h0:t0.length<1099511627776) (h1:t1.length<1099511627776) (h2:t2.length<1099511627776) (h3:t3.length<1099511627776) (h4:t4.length<1099511627776) :
  oB s y [stb t0,stb t1,stb t2,stb t3,stb t4] true=some (match evL s t0 t1 t2 t3 t4 with | some l=>(l,y.2.2.1,0) | none=>([],0,3)):=by
 unfold oB evL;rw [if_neg (by simp)];rw [show at_ [stb t0,stb t1,stb t2,stb t3,stb t4] 0=some (stb t0) from rfl,show at_ [stb t0,stb t1,stb t2,stb t3,stb t4] 1=some (stb t1) from rfl,show at_ [stb t0,stb t1,stb t2,stb t3,stb t4] 2=some (stb t2) from rfl,show at_ [stb t0,stb t1,stb t2,stb t3,stb t4] 3=some (stb t3) from rfl,show at_ [stb t0,stb t1,stb t2,stb t3,stb t4] 4=some (stb t4) from rfl];simp only [Option.bind_some];rw [xC (aGz t0) (by rw [xK]; omega)];simp only [Option.bind_some];rw [xC (aGz t1) (by rw [xK]; omega)];simp only [Option.bind_some];rw [xC (aGz t2) (by rw [xK]; omega)];simp only [Option.bind_some];rw [aIp (aGz t3) (by rw [xK]; omega)];simp only [Option.bind_some];rw [aIs (aGz t4) (by rw [xK]; omega),show (vH (stb t4)).bind aE7=aMz (stb t4) from rfl];simp only [Option.bind_some];rw [aH4 _ _ (by simp)];simp only [Option.bind_some];cases ha:vH (stb t0) with
 | none=>simp [fC]
 | some A =>
 cases hb:vH (stb t1) with
 | none=>simp [fC]
 | some B =>
 cases hc:vH (stb t2) with
 | none=>simp [fC]
 | some C =>
 cases hd:aJq (stb t3) with
 | none=>simp [fC]
 | some D =>
 cases he:aMz (stb t4) with
 | none=>simp [fC]
 | some F =>
 have hAl:=aJs ha;simp only;rw [if_neg (by simp)];by_cases e1:B.length=A.length
 ·rw [if_neg (by simp [e1])];by_cases e2:C.length=A.length
  ·rw [if_neg (by simp [e2])];by_cases e3:D.length=A.length
   ·rw [if_neg (by simp [e3])];by_cases e4:F.length=A.length
    ·rw [if_pos ⟨e1,e2,e3,e4⟩,show ((F.length:Int) != (A.length:Int))=false by simp [e4]];unfold fC;rw [if_neg (by simp),show ((0:Int))=((0:Nat):Int) from rfl,aI5 s A B C D F _ _ _ _ _ e1 e2 e3 e4 hAl A.length 0 [] (by omega) rfl];simp only [List.drop_zero,List.nil_append];cases aDm s A B C D F <;> rfl
    ·rw [if_neg (by simp [e4]),show ((F.length:Int) != (A.length:Int))=true by simp; omega];rfl
   ·rw [if_pos (by simp; omega),if_neg (by simp [e3])]; rfl
  ·rw [if_pos (by simp; omega),if_neg (by simp [e2])]; rfl
 ·rw [if_pos (by simp; omega),if_neg (by simp [e1])]; rfl
theorem aIt {b:List Int} {a s:Int} (hB:Bs b) (hl:b.length<2 ^ 40):yO b a s=some (evR b a s):=by
 unfold yO evR;rw [xD hB hl];simp only [Option.bind_some];obtain⟨hp,hpl⟩:=aSj (a:=a) hB;generalize zT b a=y at *;obtain⟨y0,y1,y2,y3⟩:=y;simp only at hp hpl ⊢;by_cases h3:y3=0
 ·rw [if_neg (show ¬ ((y3 != 0)=true) by simp [h3]),if_neg (show ¬ (y3≠0) by simp [h3])];by_cases h0:y0=101
  ·rw [if_pos (show (y0==101)=true by simp [h0]),if_neg (show ¬ (y0≠101) by simp [h0])];unfold vP xM;obtain⟨z,hz,hm⟩:=aJu 5 0 [[],[],[],[],[]] y1 hp (by omega) rfl rfl;rw [show ((0:Nat):Int)=0 from rfl] at hz;simp only;rw [hz];simp only [Option.bind_some];cases hq:pTx 5 y1 with
   | none =>
    rw [hq] at hm;obtain⟨e,rfl⟩:=hm;rfl
   | some w =>
    obtain⟨ts,r⟩:=w;obtain⟨g1,g2,g3,g4⟩:=aTm 5 hp hq;rw [hq] at hm;simp only at hm;subst hm
    match ts,g3,g4 with
    | [t0,t1,t2,t3,t4],_,g4 =>
     have hc:=aOp s (y0,y1,y2,y3) t0 t1 t2 t3 t4 (by have:=g4 t0 (by simp); omega) (by have:=g4 t1 (by simp); omega) (by have:=g4 t2 (by simp); omega) (by have:=g4 t3 (by simp); omega) (by have:=g4 t4 (by simp); omega);cases r with
     | nil=>exact hc
     | cons x r =>
      show oB s (y0,y1,y2,y3) [stb t0,stb t1,stb t2,stb t3,stb t4] ((((x::r).length:Nat):Int)==0)=_;rw [show ((((x::r).length:Nat):Int)==0)=false by simp; omega];rfl
  ·rw [if_neg (show ¬ ((y0==101)=true) by simp [h0]),if_pos (show y0≠101 by simp [h0])];rfl
 ·rw [if_pos (show (y3 != 0)=true by simp [h3]),if_pos (show y3≠0 by simp [h3])]
def Up (l:List (List UInt8)):Prop:=l.Pairwise λa b=>Op.bytesLess a b=true
theorem Up.get {l:List (List UInt8)} (h:Up l) {i j:Nat} {a b:List UInt8} (ha:l[i]?=some a) (hb:l[j]?=some b) (hij:i<j):Op.bytesLess a b=true:=by obtain⟨hi,rfl⟩:=List.getElem?_eq_some_iff.1 ha;obtain⟨hj,rfl⟩:=List.getElem?_eq_some_iff.1 hb;exact List.pairwise_iff_getElem.1 h i j hi hj hij
theorem Up.nodup {l:List (List UInt8)} (h:Up l) {i j:Nat} {a:List UInt8} (ha:l[i]?=some a) (hb:l[j]?=some a):i=j:=by
 rcases Nat.lt_trichotomy i j with h1 | h1 | h1
 ·have:=h.get ha hb h1; rw [yK] at this; cases this
 ·exact h1
 ·have:=h.get hb ha h1; rw [yK] at this; cases this
theorem Up.ext:∀ {l m:List (List UInt8)},Up l->Up m->(∀ x,x∈l↔x∈m)->l=m
 | [],[],_,_,_=>rfl
 | [],b::m,_,_,h=>absurd ((h b).2 List.mem_cons_self) (by simp)
 | a::l,[],_,_,h=>absurd ((h a).1 List.mem_cons_self) (by simp)
 | a::l,b::m,hl,hm,h=>by
  have hl':=List.pairwise_cons.1 hl;have hm':=List.pairwise_cons.1 hm;have hab:a=b:=by
   rcases List.mem_cons.1 ((h a).1 List.mem_cons_self) with e | h1
   ·exact e
   ·rcases List.mem_cons.1 ((h b).2 List.mem_cons_self) with e | h2
    ·exact e.symm
    ·have q1:=hm'.1 a h1;have q2:=hl'.1 b h2;rw [aEe q1] at q2; cases q2
  subst hab;rw [Up.ext hl'.2 hm'.2 λx=>⟨λhx=>by
   rcases List.mem_cons.1 ((h x).1 (List.mem_cons_of_mem _ hx)) with e | h1
   ·have:=hl'.1 x hx; rw [e,yK] at this; cases this
   ·exact h1,λhx=>by
   rcases List.mem_cons.1 ((h x).2 (List.mem_cons_of_mem _ hx)) with e | h1
   ·have:=hm'.1 x hx; rw [e,yK] at this; cases this
   ·exact h1⟩]
theorem bC8 (x y:List UInt8):decide (x<=y) = !Op.bytesLess y x:=by
 rw [bytesLess_eq];by_cases h:y<x
 ·rw [decide_eq_true h,decide_eq_false (λh2=>absurd h (List.not_lt.2 h2))]; rfl
 ·rw [decide_eq_false h,decide_eq_true (List.not_lt.1 h)]; rfl
def uq (l:List (List UInt8)):List (List UInt8):=Lib.compact (l.mergeSort λx y=>decide (x<=y))
theorem aIx (l:List (List UInt8)):(l.mergeSort λx y=>decide (x<=y)).Pairwise λa b=>Op.bytesLess b a=false:=by
 have h:=List.pairwise_mergeSort (le:=λx y:List UInt8=>decide (x<=y)) (λa b c h1 h2=>by
  simp only [decide_eq_true_eq] at h1 h2 ⊢; exact List.le_trans h1 h2) (λa b=>by
  simp only [Bool.or_eq_true,decide_eq_true_eq]; exact List.le_total a b) l
 exact h.imp λ{a b} hab=>by rw [bC8] at hab;simpa using hab
theorem aDv (s:List (List UInt8)) (hs:s.Pairwise λa b=>Op.bytesLess b a=false):∀ m,m<=s.length->Up (Lib.compactUpTo s.toArray m)/\∀ x,x∈Lib.compactUpTo s.toArray m↔x∈s.take m
 | 0,_=>by have e:Lib.compactUpTo s.toArray 0=[]:=rfl;rw [e]; exact⟨List.Pairwise.nil,λx=>by simp⟩
 | m+1,hm=>by
  obtain⟨h1,h2⟩:=aDv s hs m (by omega);have hg:s[m]?=some (s[m]'(by omega)):=List.getElem?_eq_getElem (by omega);have hd:s.toArray[m]! = s[m]'(by omega):=by rw [getElem!_pos _ m (by simp; omega)]; rfl
  have ht:s.take (m+1)=s.take m++[s[m]'(by omega)]:=by rw [List.take_add_one,hg]; rfl
  rw [Lib.compactUpTo_succ,ht,hd];by_cases hk:Lib.keeps s.toArray m=true
  ·rw [if_pos hk];refine⟨List.pairwise_append.2 ⟨h1,List.pairwise_singleton _ _,λa ha b hb=>?_⟩,λx=>by rw [List.mem_append,List.mem_append,h2 x]⟩;rw [List.mem_singleton] at hb;subst hb;obtain⟨i,hi,rfl⟩:=List.mem_iff_getElem.1 ((h2 a).1 ha);have hil:i<m:=by simp at hi; omega
   have hne:s.toArray[m]! ≠ s.toArray[m - 1]! := by
    unfold Lib.keeps at hk;simp only [decide_eq_true_eq] at hk;rcases hk with h0 | h0
    ·omega
    ·exact h0
   rw [hd,getElem!_pos _ (m - 1) (by simp; omega)] at hne;have hne':s[m]'(by omega)≠s[m - 1]'(by omega):=hne;have q1:Op.bytesLess (s[m]'(by omega)) (s[m - 1]'(by omega))=false:=List.pairwise_iff_getElem.1 hs (m - 1) m (by omega) (by omega) (by omega);have q2:Op.bytesLess (s[m - 1]'(by omega)) (s[m]'(by omega))=true:=by
    cases hq:Op.bytesLess (s[m - 1]'(by omega)) (s[m]'(by omega)) with
    | true=>rfl
    | false=>exact absurd (aKd q1 hq) hne'
   simp only [List.getElem_take];rcases Nat.lt_or_ge i (m - 1) with h | h
   ·have q3:Op.bytesLess (s[m - 1]'(by omega)) (s[i]'(by omega))=false:=List.pairwise_iff_getElem.1 hs i (m - 1) (by omega) (by omega) h;cases hq:Op.bytesLess (s[i]'(by omega)) (s[m - 1]'(by omega)) with
    | true=>exact aEl hq q2
    | false=>rw [aKd hq q3]; exact q2
   ·have:i=m - 1:=by omega
    subst this; exact q2
  ·rw [if_neg hk,List.append_nil];refine⟨h1,λx=>?_⟩;have h0:0<m:=by
    rcases Nat.eq_zero_or_pos m with e | e
    ·subst e; exact absurd (Lib.keeps_lt_one s.toArray 0 (by omega)) hk
    ·exact e
   have he:s.toArray[m]! = s.toArray[m - 1]! := by
    rcases Decidable.em (s.toArray[m]! = s.toArray[m - 1]!) with e | e
    ·exact e
    ·exact absurd (Lib.keeps_pos e) hk
   rw [hd,getElem!_pos _ (m - 1) (by simp; omega)] at he;have he':s[m]'(by omega)=s[m - 1]'(by omega):=he;rw [h2 x,List.mem_append,List.mem_singleton,he'];exact⟨.inl,λh=>h.elim id λe=>by
    rw [e];exact List.mem_iff_getElem.2 ⟨m - 1,by simp; omega,by simp⟩⟩
theorem aW9 (l:List (List UInt8)):Up (uq l):=by have:=(aDv _ (aIx l) _ (Nat.le_refl _)).1;exact this
theorem aBp (l:List (List UInt8)) (x:List UInt8):x∈uq l↔x∈l:=by have:=(aDv _ (aIx l) _ (Nat.le_refl _)).2 x;rw [List.take_length,List.mem_mergeSort] at this;exact this
theorem aJ8 (l:List (List UInt8)):(uq l).length<=l.length:=by have h:=aF2 (l.mergeSort λx y=>decide (x<=y));rw [List.length_mergeSort] at h;exact h
def ix:List (List UInt8)->List UInt8->Nat
 | [],_=>0
 | a::as_,s=>if a=s then 0 else ix as_ s+1
theorem aHv:∀ {l:List (List UInt8)} {s:List UInt8},s∈l->l[ix l s]?=some s
 | a::l,s,h=>by
  unfold ix;by_cases e:a=s
  ·rw [if_pos e,e]; rfl
  ·rw [if_neg e,List.getElem?_cons_succ];exact aHv ((List.mem_cons.1 h).resolve_left λq=>e q.symm)
end Go.Proofs.YtdkpjpoajlmmfaaGreatDoor.P
