/- Texts of the claim, joined: what it uses of Qc, Qd, Qe, Qf, Qg, Qh, Qi, Qj, Qk, Qm, Qn, Qo, Qp, Qq, Pa, Pb, Pc, Pd, Pf, Pg, Ph, Pi, Pj, Pk, Pl, Pm, Po, Rb, Rc, Rd, Re. -/
import Derived.Test.YtdkpjpoajlmmfaaGreatDoorZk
import Derived.Sort.Walk0
import Derived.IntWalk
namespace Go.Proofs.YtdkpjpoajlmmfaaGreatDoor.P
open Go Go.RowKit Go.Proofs.YtdkpjpoajlmmfaaGreatDoor.E Go.Proofs.YtdkpjpoajlmmfaaGreatDoor.M
set_option linter.unusedVariables false
set_option linter.unusedSectionVars false
def pB:List Int->Option (Int×List Int)
 | []=>none
 | b::r=>some (b,r)
def pV (i n:Nat):List Int->Option (Nat×List Int)
 | []=>none
 | b::r=>if i<9\/(i=9/\b<2) then
   (if b<128 then (if i=0\/0<b then some (n+b.toNat % 128 * 2 ^ (7 * i),r) else none) else pV (i+1) (n+b.toNat % 128 * 2 ^ (7 * i)) r)
  else none
def pU (most:Int) (xs:List Int):Option (Int×List Int):=match pV 0 0 xs with
 | some (n,r)=>if (n:Int)<=most then some ((n:Int),r) else none
 | none=>none
def pI (xs:List Int):Option (Int×List Int):=match pU 18446744073709551615 xs with
 | some (n,r)=>some (uz n.toNat,r)
 | none=>none
def pT (most:Int) (xs:List Int):Option (List UInt8×List Int):=match pU (IntKind.u64.wrap most) xs with
 | some (n,r)=>if n<=(r.length:Int) then some (bts (r.take n.toNat),r.drop n.toNat) else none
 | none=>none
def IsR {ρ:Type} (o:Option ((ρ×S140)⊕S140)) (p:Option (ρ×List Int)):Prop:=match p with
 | some (a,r)=>o=some (.inl (a,⟨r⟩))
 | none=>∃ s,o=some (.inr s)
theorem IsR.cases {ρ:Type} {o:Option ((ρ×S140)⊕S140)} {p:Option (ρ×List Int)} (h:IsR o p):(∃ a r,p=some (a,r)/\o=some (.inl (a,⟨r⟩)))\/(p=none/\∃ s,o=some (.inr s)):=by
 unfold IsR at h;split at h
 ·exact .inl ⟨_,_,rfl,h⟩
 ·exact .inr ⟨rfl,h⟩
theorem hT {α β γ:Type} (a:α) (f:α->Option γ) (g:β->Option γ):fN (.inl a) f g=f a:=rfl
theorem mI (s:S140):aJ s true=some (.inl s):=rfl
theorem rQ (s:S140):aJ s false=some (.inr s):=rfl
theorem aKz (xs:List Int):IsR (fW ⟨xs⟩) (pB xs):=by
 unfold fW;cases xs with
 | nil=>exact⟨_,rfl⟩
 | cons b r =>
  rw [show decide (0<(((⟨b::r⟩:S140).f0.length:Nat):Int))=true by simp,mI];simp only [bGi,hT];have a:at_ (b::r) 0=some b:=rfl;have c:kD (b::r) 1 ((b::r).length:Int)=some r:=by have:=oG (xs:=b::r) (l:=1) (u:=(b::r).length) (by simp) (Nat.le_refl _);rw [show ((1:Nat):Int)=1 from rfl,List.take_length] at this;exact this
  rw [a];simp only [bGi];rw [c];rfl
theorem aVv (a:Nat):a &&& 127=a % 128:=Nat.and_two_pow_sub_one_eq_mod a 7
theorem aYr:∀ (xs:List Int) (i n m:Nat) (r:List Int),n<2 ^ (7 * i)->n<18446744073709551616->pV i n xs=some (m,r)->m<18446744073709551616/\∃ p,xs=p++r/\0<p.length
 | [],i,n,m,r,_,_,h=>by cases h
 | b::xs,i,n,m,r,h1,h2,h=>by
  unfold pV at h;split at h
  ·rename_i hc;have a:n+b.toNat % 128 * 2 ^ (7 * i)<18446744073709551616/\n+b.toNat % 128 * 2 ^ (7 * i)<2 ^ (7 * (i+1)):=by
    have hp:2 ^ (7 * (i+1))=128 * 2 ^ (7 * i):=by rw [show 7 * (i+1)=7+7 * i by omega,Nat.pow_add]
    have hm:b.toNat % 128 * 2 ^ (7 * i)<=127 * 2 ^ (7 * i):=Nat.mul_le_mul_right _ (by omega);refine⟨?_,by rw [hp];omega⟩;rcases hc with hc | ⟨hc,hb⟩
    ·have:2 ^ (7 * i)<=2 ^ 56:=Nat.pow_le_pow_right (by decide) (by omega);omega
    ·subst hc;have:b.toNat % 128 * 2 ^ (7 * 9)<=1 * 2 ^ (7 * 9):=Nat.mul_le_mul_right _ (by omega);omega
   split at h
   ·split at h
    ·cases h;exact⟨a.1,[b],rfl,by simp⟩
    ·cases h
   ·obtain⟨c,p,rfl,d⟩:=aYr xs (i+1) _ m r a.2 a.1 h;exact⟨c,b::p,rfl,by simp⟩
  ·cases h
theorem aX2 (most:Int):∀ (xs:List Int) (i n:Nat),Bs xs->i<=10->n<2 ^ (7 * i)->n<18446744073709551616 ->
  IsR (loop (λs:List Int×Int×Int=>eG most s.1 s.2.1 s.2.2) (xs,(n:Int),(i:Int))) (match pV i n xs with | some (m,r)=>if (m:Int)<=most then some ((m:Int),r) else none | none=>none)
 | [],i,n,hB,hi,h1,h2=>⟨⟨[]⟩,bE rfl⟩
 | b::xs,i,n,hB,hi,h1,h2=>by
  obtain⟨hb,u⟩:=hB.cons;generalize d:pV i n (b::xs)=pv;have p:fW ⟨b::xs⟩=some (.inl (b,⟨xs⟩)):=aKz (b::xs);obtain⟨c,rfl⟩:∃ c:Nat,b=(c:Int):=⟨b.toNat,by omega⟩;have v:(c:Int)<128\/128<=(c:Int):=by omega
  by_cases hc:i<9\/(i=9/\(c:Int)<2)
  ·
   have hp:2 ^ (7 * (i+1))=128 * 2 ^ (7 * i):=by rw [show 7 * (i+1)=7+7 * i by omega,Nat.pow_add]
   have hm:c % 128 * 2 ^ (7 * i)<=127 * 2 ^ (7 * i):=Nat.mul_le_mul_right _ (by omega);have l:c % 128 * 2 ^ (7 * i)<18446744073709551616/\n+c % 128 * 2 ^ (7 * i)<18446744073709551616:=by
    rcases hc with hc | ⟨hc,hb⟩
    ·have:2 ^ (7 * i)<=2 ^ 56:=Nat.pow_le_pow_right (by decide) (by omega);omega
    ·subst hc;have:c % 128 * 2 ^ (7 * 9)<=1 * 2 ^ (7 * 9):=Nat.mul_le_mul_right _ (by omega);omega
   have w:n+c % 128 * 2 ^ (7 * i)<2 ^ (7 * (i+1)):=by rw [hp];omega
   obtain⟨m,h⟩:∃ m,m=n+c % 128 * 2 ^ (7 * i):=⟨_,rfl⟩;have x:aBk .u8 (c:Int) 127=((c % 128:Nat):Int):=by have:=aWl (a:=c) (b:=127) (by omega) (by omega);rw [show ((127:Nat):Int)=127 from rfl] at this;rw [this,aVv]
   have y:IntKind.i64.wrap (7 * (i:Int))=((7 * i:Nat):Int):=by rw [w64 (by omega) (by omega)];omega
   have z:wT .u64 ((c % 128:Nat):Int) ((7 * i:Nat):Int)=((c % 128 * 2 ^ (7 * i):Nat):Int):=by rw [aNr _ _ (by omega),Nat.mod_eq_of_lt l.1]
   have A:ior .u64 (n:Int) ((c % 128 * 2 ^ (7 * i):Nat):Int)=(m:Int):=by rw [aWo h2 l.1,aBo h1,h]
   have j:eG most ((c:Int)::xs) (n:Int) (i:Int)=eF most (n:Int) (i:Int) ((c:Int),⟨xs⟩) xs:=by
    unfold eG;rw [p];simp only [bGi,hT];rcases hc with hc | ⟨hc,B⟩
    ·rw [if_pos (by simp only [decide_eq_true_eq];omega),mI];rfl
    ·rw [if_neg (by simp only [decide_eq_true_eq];omega),if_pos (by subst hc;rfl),show decide ((c:Int)<2)=true by simpa using B,mI];rfl
   have f:eF most (n:Int) (i:Int) ((c:Int),⟨xs⟩) xs=if (c:Int)<128 then (if (m:Int)<=most/\(i=0\/0<(c:Int)) then some (.inr (.inl ((m:Int),⟨xs⟩))) else some (.inr (.inr ⟨xs⟩))) else some (.inl (xs,(m:Int),((i+1:Nat):Int))):=by
    unfold eF;simp only [lt_];rw [x,mE (by omega) (by omega),y,bJ (by omega),z,A];by_cases g:(c:Int)<128
    ·rw [if_pos (by simpa using g),if_pos g];by_cases e:(m:Int)<=most
     ·rw [if_pos (by simpa using e)];by_cases o:i=0
      ·subst o;rw [if_pos (by rfl),mI,if_pos ⟨e,.inl rfl⟩];rfl
      ·rw [if_neg (by simpa using o)];by_cases k:0<(c:Int)
       ·rw [show decide (0<(c:Int))=true by simpa using k,mI,if_pos ⟨e,.inr k⟩];rfl
       ·rw [show decide (0<(c:Int))=false by simpa using k,rQ,if_neg (by rintro⟨_,q | q⟩;exact o q;exact k q)];rfl
     ·rw [if_neg (by simpa using e),rQ,if_neg (λq=>e q.1)];rfl
    ·rw [if_neg (by simpa using g),if_neg g,w64 (by omega) (by omega)];rfl
   rw [pV,if_pos hc,Int.toNat_natCast, ← h] at d;rcases v with g | g
   ·rw [if_pos g] at f d;by_cases h0:i=0\/0<(c:Int)
    ·rw [if_pos h0] at d;subst d;simp only;by_cases e:(m:Int)<=most
     ·rw [if_pos ⟨e,h0⟩] at f;rw [if_pos e];exact bE (j.trans f)
     ·rw [if_neg (λq=>e q.1)] at f;rw [if_neg e];exact⟨_,bE (j.trans f)⟩
    ·rw [if_neg h0] at d;subst d;rw [if_neg (λq=>h0 q.2)] at f;exact⟨_,bE (j.trans f)⟩
   ·rw [if_neg (Int.not_lt.2 g)] at f d;rw [cD (j.trans f)];subst d;exact aX2 most xs (i+1) m u (by omega) (by rw [h];exact w) (by rw [h];exact l.2)
  ·rw [pV,if_neg hc] at d;subst d;refine⟨_,bE (t:=Sum.inr ⟨xs⟩) ?_⟩;show eG most ((c:Int)::xs) (n:Int) (i:Int)=_;unfold eG;rw [p];simp only [bGi,hT];rw [if_neg (by simp only [decide_eq_true_eq];omega)];by_cases C:i=9
   ·rw [if_pos (by subst C;rfl),show decide ((c:Int)<2)=false by simp;omega,rQ];rfl
   ·rw [if_neg (by simp;omega),rQ];rfl
theorem aDa (most:Int) {xs:List Int} (hB:Bs xs):IsR (bC ⟨xs⟩ most) (pU most xs):=by
 unfold bC pU;have:=aX2 most xs 0 0 hB (by omega) (by simp) (by omega);simp only [Int.natCast_zero] at this;rcases this.cases with ⟨a,r,b,c⟩ | ⟨b,s,c⟩
 ·rw [b];show _=_;rw [c];rfl
 ·rw [b];exact⟨s,by rw [c];rfl⟩
theorem tL {most:Int} {xs r:List Int} {n:Int} (h:pU most xs=some (n,r)):(0<=n/\n<18446744073709551616/\n<=most)/\∃ p,xs=p++r/\0<p.length:=by
 unfold pU at h;split at h
 ·rename_i m r' he;split at h
  ·cases h;obtain⟨b,a⟩:=aYr _ _ _ _ _ (by simp) (by omega) he;exact⟨⟨by omega,by omega,by assumption⟩,a⟩
  ·cases h
 ·cases h
theorem aNy {most:Int} {xs r:List Int} {n:Int} (hB:Bs xs) (h:pU most xs=some (n,r)):Bs r:=by obtain⟨_,p,rfl,_⟩:=tL h;exact hB.r
theorem aS1 (a:Nat):a &&& 1=a % 2:=Nat.and_two_pow_sub_one_eq_mod a 1
theorem bAy {a:Nat} (h:a<9223372036854775808):aAx .i64 (a:Int) (-1) = -(a:Int) - 1:=by show IntKind.i64.wrap (((BitVec.ofInt 64 (a:Int) ^^^ BitVec.allOnes 64).toNat:Nat):Int)=_;rw [fH,BitVec.xor_allOnes,BitVec.toNat_not,BitVec.toNat_ofNat,Nat.mod_eq_of_lt (show a<2 ^ 64 by omega),IntWalk.i64_left];unfold wrap64;omega
theorem bD6 {a:Nat} (h:a<9223372036854775808):aAx .i64 (a:Int) 0=(a:Int):=by show IntKind.i64.wrap (((BitVec.ofInt 64 (a:Int) ^^^ 0#64).toNat:Nat):Int)=_;rw [fH,BitVec.xor_zero,BitVec.toNat_ofNat,Nat.mod_eq_of_lt (show a<2 ^ 64 by omega),w64 (by omega) (by omega)]
theorem bDp {n:Nat} (h:n<18446744073709551616):aAx .i64 (IntKind.i64.wrap (oC .u64 (n:Int) 1)) (IntKind.i64.wrap (0 - IntKind.i64.wrap (aBk .u64 (n:Int) 1)))=uz n:=by
 have d:oC .u64 (n:Int) 1=((n / 2:Nat):Int):=lG (k:=.u64) n 1 (by decide);have e:aBk .u64 (n:Int) 1=((n % 2:Nat):Int):=by have:=aIf (a:=n) (b:=1) h (by omega);rw [show ((1:Nat):Int)=1 from rfl] at this;rw [this,aS1]
 rw [d,e,w64 (n:=((n / 2:Nat):Int)) (by omega) (by omega),w64 (n:=((n % 2:Nat):Int)) (by omega) (by omega),w64 (by omega) (by omega)];unfold uz;by_cases c:n % 2=1
 ·rw [if_pos c,c,show (0:Int) - ((1:Nat):Int) = -1 from rfl,bAy (by omega)]
 ·rw [if_neg c,show n % 2=0 by omega,show (0:Int) - ((0:Nat):Int)=0 from rfl,bD6 (by omega)]
theorem aHr {xs:List Int} (hB:Bs xs):IsR (cR ⟨xs⟩) (pI xs):=by
 unfold cR pI;rcases (aDa 18446744073709551615 hB).cases with ⟨a,r,b,c⟩ | ⟨b,s,c⟩
 ·rw [b,c];obtain⟨⟨d,e,_⟩,_⟩:=tL b;simp only [bGi,hT,lt_];have:=bDp (n:=a.toNat) (by omega);rw [show ((a.toNat:Nat):Int)=a by omega] at this;show _=_;rw [this]
 ·rw [b,c];exact⟨s,rfl⟩
theorem aQx {xs r:List Int} {n:Int} (hB:Bs xs) (h:pI xs=some (n,r)):Bs r/\i64 n/\∃ p,xs=p++r/\0<p.length:=by
 unfold pI at h;split at h
 ·rename_i m r' he;cases h;refine⟨aNy hB he,?_,(tL he).2⟩;have:=(tL he).1;unfold i64 uz;split <;> omega
 ·cases h
theorem aLb (most:Int) {xs:List Int} (hB:Bs xs) (hl:xs.length<9223372036854775808):IsR (fD ⟨xs⟩ most) (pT most xs):=by
 unfold fD pT;rw [lt_];rcases (aDa (IntKind.u64.wrap most) hB).cases with ⟨a,r,b,c⟩ | ⟨b,s,c⟩
 ·rw [b,c];obtain⟨⟨d,e,_⟩,p,hp,_⟩:=tL b;have hr:r.length<=xs.length:=by rw [hp];simp
  simp only [bGi,hT,lt_];rw [mE (by omega) (by omega)];obtain⟨n,rfl⟩:∃ n:Nat,a=(n:Int):=⟨a.toNat,by omega⟩;by_cases hn:(n:Int)<=(r.length:Int)
  ·rw [show decide ((n:Int)<=(r.length:Int))=true by simpa using hn,mI,if_pos hn];simp only [bGi,hT];have c1:=oG (xs:=r) (l:=0) (u:=n) (by omega) (by omega);have c2:=oG (xs:=r) (l:=n) (u:=r.length) (by omega) (by omega);rw [show ((0:Nat):Int)=0 from rfl,List.drop_zero] at c1;rw [List.take_length] at c2;rw [c1];simp only [bGi];rw [c2];rfl
  ·rw [show decide ((n:Int)<=(r.length:Int))=false by simpa using hn,rQ,if_neg hn];exact⟨_,rfl⟩
 ·rw [b,c];exact⟨s,rfl⟩
theorem aYs:∀ (k:Nat) (m i n:Nat) (r:List Int),m<128 ^ (k+1)->k+i<=9->m * 2 ^ (7 * i)+n<18446744073709551616->(0<i->0<m)->pV i n (uv m++r)=some (n+m * 2 ^ (7 * i),r)
 | k,m,i,n,r,h,hi,hlt,h0=>by
  by_cases hm:m<128
  ·rw [aC6 hm,List.singleton_append,pV];have b:i<9\/(i=9/\(m:Int)<2):=by
    rcases Nat.lt_or_ge i 9 with q | q
    ·exact .inl q
    ·have:i=9:=by omega
     subst this;refine .inr ⟨rfl,?_⟩;rcases Nat.lt_or_ge m 2 with a | a
     ·omega
     ·have:2 * 2 ^ (7 * 9)<=m * 2 ^ (7 * 9):=Nat.mul_le_mul_right _ a;omega
   rw [if_pos b,if_pos (by omega),if_pos (by rcases Nat.eq_zero_or_pos i with q | q;exact .inl q;have:=h0 q;exact .inr (by omega)),Int.toNat_natCast,Nat.mod_eq_of_lt hm]
  ·rw [aC5 hm,List.cons_append,pV]
   match k,h,hi with
   | 0,h,_=>exact absurd (by simpa using h) hm
   | k+1,h,hi =>
    rw [if_pos (.inl (by omega)),if_neg (by omega),Int.toNat_natCast,show (m % 128+128) % 128=m % 128 by omega];have hp:2 ^ (7 * (i+1))=128 * 2 ^ (7 * i):=by rw [show 7 * (i+1)=7+7 * i by omega,Nat.pow_add]
    have c:m / 128 * (128 * 2 ^ (7 * i))+m % 128 * 2 ^ (7 * i)=m * 2 ^ (7 * i):=by rw [← Nat.mul_assoc, ← Nat.add_mul];congr 1;omega
    rw [aYs k (m / 128) (i+1) _ r (by rw [Nat.pow_succ] at h;exact Nat.div_lt_of_lt_mul (by rw [Nat.mul_comm];exact h)) (by omega) (by rw [hp];omega) (λ_=>by omega),hp];congr 2;omega
theorem aIx {m:Nat} (h:m<18446744073709551616) (r:List Int) {most:Int} (hm:(m:Int)<=most):pU most (uv m++r)=some ((m:Int),r):=by unfold pU;rw [aYs 9 m 0 0 r (by omega) (by omega) (by simp;omega) (λq=>absurd q (by omega))];simp only [Nat.mul_zero,Nat.pow_zero,Nat.mul_one,Nat.zero_add];rw [if_pos hm]
theorem aNw {x:Int} (h:i64 x) (r:List Int):pI (uv (zz x)++r)=some (x,r):=by unfold pI;have:=xD h;rw [aIx this r (by omega)];simp only [Int.toNat_natCast,bDq]
def bl (n:Nat):Nat:=if h:n=0 then 0 else bl (n / 2)+1
termination_by n
decreasing_by omega
theorem aE4:bl 0=0:=by rw [bl,dif_pos rfl]
theorem aLc {n:Nat} (h:0<n):bl n=bl (n / 2)+1:=by rw [bl,dif_neg (by omega)]
theorem bA9 (n:Nat):n<2 ^ bl n:=by
 induction n using Nat.strongRecOn with
 | _ n ih =>
  rcases Nat.eq_zero_or_pos n with rfl | h
  ·rw [aE4];decide
  ·rw [aLc h,Nat.pow_succ];have:=ih (n / 2) (by omega);omega
theorem aX4:∀ (k n:Nat),n<2 ^ k->bl n<=k
 | 0,n,h=>by
  have:n=0:=by simpa using h
  rw [this,aE4];exact Nat.le_refl _
 | k+1,n,h=>by
  rcases Nat.eq_zero_or_pos n with rfl | hp
  ·rw [aE4];omega
  ·rw [aLc hp];have:=aX4 k (n / 2) (by rw [Nat.pow_succ] at h;omega);omega
theorem aCg:∀ (k n:Nat),2 ^ k<=n->bl n=k+bl (n / 2 ^ k)
 | 0,n,_=>by simp
 | k+1,n,h=>by have hp:0<2 ^ k:=Nat.two_pow_pos k;rw [Nat.pow_succ] at h;rw [aLc (by omega),aCg k (n / 2) (by omega),Nat.div_div_eq_div_mul,Nat.pow_succ,Nat.mul_comm (2 ^ k) 2];omega
def V (w:Nat):List Nat->Nat
 | []=>0
 | d::ds=>d+2 ^ w * V w ds
def Lt (w:Nat) (ds:List Nat):Prop:=∀ d∈ds,d<2 ^ w
theorem Lt.tail {w d:Nat} {ds:List Nat} (h:Lt w (d::ds)):d<2 ^ w/\Lt w ds:=⟨h d List.mem_cons_self,λx hx=>h x (List.mem_cons_of_mem _ hx)⟩
theorem aVu {w:Nat}:∀ {ds:List Nat},Lt w ds->V w ds<2 ^ (ds.length * w)
 | [],_=>by simp [V]
 | d::ds,h=>by
  have b:=h.tail.1;have a:=aVu h.tail.2;simp only [V,List.length_cons];rw [Nat.add_mul,Nat.one_mul,Nat.pow_add,Nat.mul_comm (2 ^ (ds.length * w))];have:2 ^ w * V w ds+2 ^ w<=2 ^ w * 2 ^ (ds.length * w):=by rw [← Nat.mul_succ];exact Nat.mul_le_mul_left _ a
  omega
theorem aSy {w:Nat}:∀ {ds:List Nat},Lt w ds->∀ i,V w ds / 2 ^ (i * w)=V w (ds.drop i)
 | ds,_,0=>by simp
 | [],_,i+1=>by simp [V]
 | d::ds,h,i+1=>by rw [List.drop_succ_cons, ← aSy h.tail.2 i,Nat.add_mul,Nat.one_mul,Nat.add_comm (i * w),Nat.pow_add, ← Nat.div_div_eq_div_mul];congr 1;simp only [V];rw [Nat.add_mul_div_left _ _ (Nat.two_pow_pos w),Nat.div_eq_of_lt h.tail.1,Nat.zero_add]
theorem aX3 {w:Nat} {ds:List Nat} (h:Lt w ds) {i d:Nat} (hd:ds[i]?=some d):V w ds / 2 ^ (i * w) % 2 ^ w=d:=by rw [aSy h,List.drop_eq_getElem_cons (List.getElem?_eq_some_iff.1 hd).1,(List.getElem?_eq_some_iff.1 hd).2,V,Nat.add_mul_mod_self_left];exact Nat.mod_eq_of_lt (h d (List.mem_of_getElem? hd))
def by_ (m v:Nat):List Nat:=(List.range m).map λj=>v / 2 ^ (8 * j) % 256
theorem tY (m v:Nat):(by_ m v).length=m:=by simp [by_]
theorem aHt {m v j:Nat} (h:j<m):(by_ m v)[j]?=some (v / 2 ^ (8 * j) % 256):=by unfold by_;rw [List.getElem?_map,List.getElem?_range h];rfl
theorem bBb (m v:Nat):Lt 8 (by_ m v):=by intro d hd;unfold by_ at hd;obtain⟨j,_,rfl⟩:=List.mem_map.1 hd;exact Nat.mod_lt _ (by decide)
theorem aS9 {xs ys:List Nat} (hl:xs.length=ys.length) (h:∀ j:Nat,j<xs.length->xs[j]?=ys[j]?):xs=ys:=by
 apply List.ext_getElem? λj=>?_;rcases Nat.lt_or_ge j xs.length with a | a
 ·exact h j a
 ·rw [List.getElem?_eq_none a,List.getElem?_eq_none (by omega)]
theorem bA6:∀ (m v:Nat),v<2 ^ (8 * m)->V 8 (by_ m v)=v
 | 0,v,h=>by
  have:v=0:=by simpa using h
  subst this;rfl
 | m+1,v,h=>by
  have e:by_ (m+1) v=v % 256::by_ m (v / 256):=by
   refine aS9 (by simp [tY]) λj a=>?_;rw [tY] at a;rw [aHt a];cases j with
   | zero=>simp
   | succ j =>
    rw [List.getElem?_cons_succ,aHt (by omega),show 8 * (j+1)=8+8 * j by omega,Nat.pow_add,Nat.div_div_eq_div_mul]
  rw [e,V,bA6 m (v / 256) (by rw [show 8 * (m+1)=8+8 * m by omega,Nat.pow_add] at h;exact Nat.div_lt_of_lt_mul h)];exact Nat.mod_add_div v 256
def bt (v i:Nat):Nat:=v / 2 ^ i % 2
theorem aP8 (v i:Nat):bt v i<2:=Nat.mod_lt _ (by decide)
theorem aIp (v i:Nat):v % 2 ^ (i+1)=v % 2 ^ i+bt v i * 2 ^ i:=by rw [Nat.pow_succ,Nat.mod_mul,bt,Nat.mul_comm]
theorem bBa {w:Nat} {ds:List Nat} (h:Lt w ds) {i k d:Nat} (hd:ds[i]?=some d) (hk:k<w):bt (V w ds) (i * w+k)=bt d k:=by
 unfold bt;have hm:=aX3 h hd;rw [Nat.pow_add, ← Nat.div_div_eq_div_mul]
 conv=>rhs;rw [← hm]
 obtain⟨x,hx⟩:∃ x,x=V w ds / 2 ^ (i * w):=⟨_,rfl⟩;rw [← hx];obtain⟨j,rfl⟩:∃ j,w=k+(j+1):=⟨w - k - 1,by omega⟩;rw [Nat.pow_add,Nat.mod_mul_right_div_self,Nat.pow_succ,Nat.mul_comm (2 ^ j) 2,Nat.mod_mul_right_mod]
theorem aKc (v i q w:Nat) (hw:0<w) (f:q≠i / w):v % 2 ^ (i+1) / 2 ^ (q * w) % 2 ^ w=v % 2 ^ i / 2 ^ (q * w) % 2 ^ w:=by
 rw [aIp];rcases Nat.lt_or_ge (i / w) q with a | g
 ·
  have b:(i / w+1) * w<=q * w:=Nat.mul_le_mul_right _ a;have c:i<(i / w+1) * w:=by have h:=Nat.div_add_mod i w;have k:=Nat.mod_lt i hw;rw [Nat.add_mul,Nat.one_mul,Nat.mul_comm (i / w)];omega
  have d:2 ^ (i+1)<=2 ^ (q * w):=Nat.pow_le_pow_right (by decide) (by omega);have l:v % 2 ^ i<2 ^ i:=Nat.mod_lt _ (Nat.two_pow_pos i);have m:=aP8 v i;have n:bt v i * 2 ^ i<=1 * 2 ^ i:=Nat.mul_le_mul_right _ (by omega);rw [Nat.pow_succ] at d;rw [Nat.div_eq_of_lt (by omega),Nat.div_eq_of_lt (by omega)]
 ·
  have a:q<i / w:=by omega
  have b:(q+1) * w<=i / w * w:=Nat.mul_le_mul_right _ a;have c:i / w * w<=i:=Nat.div_mul_le_self i w;obtain⟨j,rfl⟩:∃ j,i=q * w+w+j:=⟨i - (q * w+w),by rw [Nat.add_mul] at b;omega⟩;have e:bt v (q * w+w+j) * 2 ^ (q * w+w+j)=2 ^ (q * w) * (2 ^ w * (2 ^ j * bt v (q * w+w+j))):=by rw [Nat.pow_add,Nat.pow_add];ac_rfl
  rw [e,Nat.add_mul_div_left _ _ (Nat.two_pow_pos _),Nat.add_mul_mod_self_left]
theorem aFi (v i w:Nat) (hw:0<w):v % 2 ^ (i+1) / 2 ^ (i / w * w) % 2 ^ w=v % 2 ^ i / 2 ^ (i / w * w) % 2 ^ w+bt v i * 2 ^ (i % w)/\v % 2 ^ i / 2 ^ (i / w * w) % 2 ^ w<2 ^ (i % w):=by
 obtain⟨q,a⟩:∃ q,q=i / w * w:=⟨_,rfl⟩;obtain⟨k,hk⟩:∃ k,k=i % w:=⟨_,rfl⟩;have hi:i=q+k:=by rw [a,hk,Nat.mul_comm];exact (Nat.div_add_mod i w).symm
 have b:k<w:=by rw [hk];exact Nat.mod_lt _ hw
 rw [← a, ← hk,aIp,hi];have c:v % 2 ^ (q+k) / 2 ^ q<2 ^ k:=Nat.div_lt_of_lt_mul (by rw [← Nat.pow_add];exact Nat.mod_lt _ (Nat.two_pow_pos _));have d:2 ^ (k+1)<=2 ^ w:=Nat.pow_le_pow_right (by decide) b;rw [Nat.pow_succ] at d;have hb:=aP8 v (q+k);have f:bt v (q+k) * 2 ^ k<=1 * 2 ^ k:=Nat.mul_le_mul_right _ (by omega);have e:bt v (q+k) * 2 ^ (q+k)=2 ^ q * (bt v (q+k) * 2 ^ k):=by rw [Nat.pow_add, ← Nat.mul_assoc, ← Nat.mul_assoc,Nat.mul_comm (bt v (q+k))]
 rw [e,Nat.add_mul_div_left _ _ (Nat.two_pow_pos q),Nat.mod_eq_of_lt (show v % 2 ^ (q+k) / 2 ^ q+bt v (q+k) * 2 ^ k<2 ^ w by omega),Nat.mod_eq_of_lt (show v % 2 ^ (q+k) / 2 ^ q<2 ^ w by omega)];exact⟨rfl,c⟩
def b0 (l:List Int):List Int:=(l.map λx=>uv (zz x)).flatten
def aBl:Int->List Int->Int
 | a,[]=>a
 | _,x::l=>aBl x l
def bD:Int->List Int->List Int
 | _,[]=>[]
 | a,x::l=>uv (zz (IntKind.i64.wrap (x - a)))++bD x l
def bR:Nat->List Int->List Int
 | _,[]=>[]
 | k,[x]=>uv (zz x)++uv k
 | k,x::y::l=>if y=x then bR (k+1) (y::l) else uv (zz x)++uv k++bR 0 (y::l)
def mn:Int->List Int->Int
 | m,[]=>m
 | m,x::l=>mn (if x<m then x else m) l
def ds (lo:Int) (l:List Int):List Nat:=l.map λx=>(x - lo).toNat
def wdt (D:List Nat):Nat:=D.foldl (λw d=>if w<bl d then bl d else w) 0
def ofN (l:List Nat):List Int:=l.map λ(n:Nat)=>(n:Int)
def pk:List Int->List Int
 | []=>[]
 | x::l=>uv (zz (mn x l))++[(wdt (ds (mn x l) (x::l)):Int)]++ofN (by_ (((x::l).length * wdt (ds (mn x l) (x::l))+7) / 8) (V (wdt (ds (mn x l) (x::l))) (ds (mn x l) (x::l))))
def body:Nat->List Int->List Int
 | 0,l=>b0 l
 | 1,l=>bD 0 l
 | 2,l=>bR 0 l
 | _,l=>pk l
def asL (w:Nat) (l:List Int):List Int:=(w:Int)::(uv l.length++body w l)
def I64 (l:List Int):Prop:=∀ x∈l,i64 x
theorem I64.get {l:List Int} (h:I64 l) {i:Nat} {x:Int} (hx:l[i]?=some x):i64 x:=h x (List.mem_of_getElem? hx)
theorem aLv:∀ {l:List Int},I64 l->(b0 l).length<=10 * l.length
 | [],_=>by simp [b0]
 | x::l,h=>by have c:=aO (xD (h x List.mem_cons_self));have a:=aLv (l:=l) λy b=>h y (List.mem_cons_of_mem _ b);simp only [b0,List.map_cons,List.flatten_cons,List.length_append,List.length_cons] at a ⊢;omega
theorem aPh:∀ (l:List Int) (a:Int),(bD a l).length<=10 * l.length
 | [],_=>by simp [bD]
 | x::l,a=>by have b:=aO (xD (aCj (x - a)));have c:=aPh l x;simp only [bD,List.length_append,List.length_cons];omega
theorem aPi:∀ (l:List Int) (k:Nat),I64 l->k+l.length<18446744073709551616->(bR k l).length<=20 * l.length
 | [],_,_,_=>by simp [bR]
 | [x],k,h,hk=>by have b:=aO (xD (h x List.mem_cons_self));have c:=aO (n:=k) (by simp at hk;omega);simp only [bR,List.length_append,List.length_cons,List.length_nil];omega
 | x::y::l,k,h,hk=>by
  have b:=aO (xD (h x List.mem_cons_self));simp only [List.length_cons] at hk;have c:=aO (n:=k) (by omega);have a:I64 (y::l):=λz hz=>h z (List.mem_cons_of_mem _ hz);unfold bR;split
  ·have:=aPi (y::l) (k+1) a (by simp only [List.length_cons];omega);simp only [List.length_cons] at this ⊢;omega
  ·have:=aPi (y::l) 0 a (by simp only [List.length_cons];omega);simp only [List.length_append,List.length_cons] at this ⊢;omega
theorem aVw (l:List Int) (x:Int):b0 (l++[x])=b0 l++uv (zz x):=by simp [b0]
theorem aP6:∀ (l:List Int) (a x:Int),bD a (l++[x])=bD a l++uv (zz (IntKind.i64.wrap (x - aBl a l)))
 | [],a,x=>by simp [bD,aBl]
 | y::l,a,x=>by simp [bD,aBl,aP6 l y x]
theorem aGt:∀ (l:List Int) (a x:Int),aBl a (l++[x])=x
 | [],a,x=>rfl
 | y::l,a,x=>aGt l y x
theorem uH {l:List Int} {k:Nat} {x:Int} (h:l[k]?=some x):l.take (k+1)=l.take k++[x]:=by rw [List.take_add_one,h];rfl
theorem I64.take {l:List Int} (h:I64 l) (k:Nat):I64 (l.take k):=λx hx=>h x (List.mem_of_mem_take hx)
section
variable {l pre:List Int} (hl:l.length<=4096) (hi:I64 l) (hp:pre.length<=20)
include hl hi hp
theorem bEs:loop (λs:List Int×Int=>lL l s.1 s.2) (pre,0)=some (pre++b0 l):=by
 have:=iY (b:=λs:List Int×Int=>lL l s.1 s.2) (λk=>(pre++b0 (l.take k),(k:Int))) (t:=pre++b0 l) l.length (λk hk=>by
  have hx:=List.getElem?_eq_getElem hk;have hlen:=aLv (hi.take k);rw [List.length_take] at hlen;show lL l (pre++b0 (l.take k)) (k:Int)=_;unfold lL;rw [if_pos (by simp only [decide_eq_true_eq];omega),bB rfl hx];simp only [bGi];rw [zV (hi.get hx) _ (by simp only [List.length_append];omega)];simp only [bGi,lt_];rw [w64 (by omega) (by omega),uH hx,aVw,List.append_assoc];rfl) (by
  show lL l (pre++b0 (l.take l.length)) (l.length:Int)=_;unfold lL;rw [if_neg (by simp),List.take_length])
 simpa [b0] using this
omit hi in
theorem bEt:loop (λs:List Int×Int×Int=>lM l s.1 s.2.1 s.2.2) (pre,0,0)=some (pre++bD 0 l):=by
 have:=iY (b:=λs:List Int×Int×Int=>lM l s.1 s.2.1 s.2.2) (λk=>(pre++bD 0 (l.take k),aBl 0 (l.take k),(k:Int))) (t:=pre++bD 0 l) l.length (λk hk=>by
  have hx:=List.getElem?_eq_getElem hk;have hlen:=aPh (l.take k) 0;rw [List.length_take] at hlen;show lM l (pre++bD 0 (l.take k)) (aBl 0 (l.take k)) (k:Int)=_;unfold lM;rw [if_pos (by simp only [decide_eq_true_eq];omega),bB rfl hx];simp only [bGi,lt_];rw [zV (aCj _) _ (by simp only [List.length_append];omega)];simp only [bGi];rw [w64 (n:=(k:Int)+1) (by omega) (by omega),uH hx,aP6,aGt,List.append_assoc];rfl) (by
  show lM l (pre++bD 0 (l.take l.length)) (aBl 0 (l.take l.length)) (l.length:Int)=_;unfold lM;rw [if_neg (by simp),List.take_length])
 simpa [bD,aBl] using this
end
theorem aGf (x:Int):∀ rest:List Int,∃ (m:Nat) (tl:List Int),rest=List.replicate m x++tl/\∀ y,tl[0]?=some y->y≠x
 | []=>⟨0,[],rfl,by simp⟩
 | y::rest=>by
  by_cases h:y=x
  ·obtain⟨m,tl,a,b⟩:=aGf x rest;exact⟨m+1,tl,by rw [h,a];rfl,b⟩
  ·exact⟨0,y::rest,rfl,λz hz=>by cases hz;exact h⟩
theorem aOs (x:Int) (tl:List Int) (h:∀ y,tl[0]?=some y->y≠x):∀ (m k:Nat),bR k (x::(List.replicate m x++tl))=uv (zz x)++uv (k+m)++bR 0 tl
 | 0,k=>by
  cases tl with
  | nil=>simp [bR]
  | cons y tl =>
   have:=h y rfl;simp only [List.replicate_zero,List.nil_append,bR,if_neg this,Nat.add_zero]
 | m+1,k=>by rw [List.replicate_succ,List.cons_append,bR,if_pos rfl,aOs x tl h m (k+1),show k+1+m=k+(m+1) by omega]
section
variable {l pre:List Int} (hl:l.length<=4096) (hi:I64 l) (hp:pre.length<=20)
include hl hi hp
theorem bEu:loop (λs:List Int×Int=>nE l s.1 s.2) (pre,0)=some (pre++bR 0 l):=by
 obtain⟨t,ht,rfl⟩:=aDn (b:=λs:List Int×Int=>nE l s.1 s.2) (s:=(pre,0))
  (λs=>∃ i:Nat,s.2=i/\i<=l.length/\s.1.length<=20+20 * i/\s.1++bR 0 (l.drop i)=pre++bR 0 l)
  (λs=>((l.length:Int) - s.2).toNat) (λt=>t=pre++bR 0 l) ⟨0,rfl,by omega,by simpa using hp,by simp⟩ (by
   rintro⟨acc,q⟩ ⟨i,d,u,j,a⟩;simp only at d j a;subst d;show (∃ s',nE l acc (i:Int)=some (.inl s')/\_)\/∃ t,nE l acc (i:Int)=some (.inr t)/\_;unfold nE;by_cases e:i<l.length
   ·rw [if_pos (by simp only [decide_eq_true_eq];omega)];have hx:=List.getElem?_eq_getElem e;obtain⟨x,f⟩:∃ x,x=l[i]:=⟨_,rfl⟩;rw [← f] at hx;have hd:l.drop i=x::l.drop (i+1):=by rw [List.drop_eq_getElem_cons e, ← f]
    obtain⟨m,tl,hm,g⟩:=aGf x (l.drop (i+1));have hlen:l.length=i+1+m+tl.length:=by have:=congrArg List.length hm;simp only [List.length_drop,List.length_append,List.length_replicate] at this;omega
    have o:∀ k,k<m->l[i+1+k]?=some x:=by
     intro k hk;have:(l.drop (i+1))[k]?=some x:=by rw [hm,List.getElem?_append_left (by simpa using hk)];simp [hk]
     rwa [List.getElem?_drop] at this
    have h:l.drop (i+1+m)=tl:=by rw [← List.drop_drop,hm];exact List.drop_left' (by simp)
    
    have p:=iY (b:=λs:Int=>nF l (i:Int) s) (λk=>((k+1:Nat):Int)) (t:=((m+1:Nat):Int)) m (λk hk=>by
     show nF l (i:Int) ((k+1:Nat):Int)=_;unfold nF;rw [lt_,w64 (by omega) (by omega),if_pos (by simp only [decide_eq_true_eq];omega),bB (n:=i+1+k) (by omega) (o k hk),bB rfl hx];simp only [bGi];unfold pJ;rw [if_pos (by simp),lt_,w64 (by omega) (by omega)];rfl) (by
     show nF l (i:Int) ((m+1:Nat):Int)=_;unfold nF;rw [lt_,w64 (by omega) (by omega)];by_cases v:tl.length=0
     ·rw [if_neg (by simp only [decide_eq_true_eq];omega)];unfold pJ;rw [if_neg (by simp)]
     ·obtain⟨y,c⟩:∃ y,tl[0]?=some y:=⟨_,List.getElem?_eq_getElem (by omega)⟩;have r:l[i+1+m]?=some y:=by rw [← h,List.getElem?_drop] at c;exact c
      rw [if_pos (by simp only [decide_eq_true_eq];omega),bB (n:=i+1+m) (by omega) r,bB rfl hx];simp only [bGi];unfold pJ;rw [if_neg (by simpa using g y c)])
    rw [show (1:Int)=((0+1:Nat):Int) from rfl,p];simp only [bGi];unfold uR xW;have hz:=aO (xD (hi.get hx));have w:=aO (n:=m) (by omega);rw [bB rfl hx];simp only [bGi];rw [zV (hi.get hx) _ (by omega)];simp only [bGi,lt_];rw [w64 (n:=((m+1:Nat):Int) - 1) (by omega) (by omega),show ((m+1:Nat):Int) - 1=(m:Int) by omega,mE (by omega) (by omega),sY m _ (by omega) (by simp only [List.length_append];omega)];simp only [bGi];rw [w64 (by omega) (by omega)];refine .inl ⟨_,rfl,⟨i+1+m,?_,by omega,?_,?_⟩,?_⟩
    ·simp only;omega
    ·simp only [List.length_append];omega
    ·rw [h, ← a,hd,hm,aOs x tl g m 0];simp
    ·simp only;omega
   ·rw [if_neg (by simp only [decide_eq_true_eq];omega)];refine .inr ⟨_,rfl,?_⟩;rw [← a,show i=l.length by omega,List.drop_length];simp [bR])
 exact ht
end
theorem aGm {k m:Nat} (a:2 ^ k<=m) (b:m<2 ^ (k+1)):bl m=k+1:=by
 have e:m / 2 ^ k=1:=by rw [Nat.pow_succ] at b;have:=(Nat.le_div_iff_mul_le (Nat.two_pow_pos k)).2 (show 1 * 2 ^ k<=m by omega);have:=(Nat.div_lt_iff_lt_mul (Nat.two_pow_pos k)).2 (show m<2 * 2 ^ k by omega);omega
 rw [aCg k m a,e,aLc (by decide),show 1 / 2=0 from rfl,aE4]
def aKu (m:Nat):Nat:=if m<1 then 0 else if m<2 then 1 else if m<4 then 2 else if m<8 then 3 else if m<16 then 4 else if m<32 then 5 else if m<64 then 6 else if m<128 then 7 else 8
theorem aS7 {m:Nat} (h:m<256):bl m=aKu m:=by
 unfold aKu
 repeat' split
 ·rw [show m=0 by omega,aE4]
 ·exact aGm (k:=0) (by omega) (by omega)
 ·exact aGm (k:=1) (by omega) (by omega)
 ·exact aGm (k:=2) (by omega) (by omega)
 ·exact aGm (k:=3) (by omega) (by omega)
 ·exact aGm (k:=4) (by omega) (by omega)
 ·exact aGm (k:=5) (by omega) (by omega)
 ·exact aGm (k:=6) (by omega) (by omega)
 ·exact aGm (k:=7) (by omega) (by omega)
set_option maxRecDepth 100000 in
theorem aYk {m:Nat} (h:m<256) (a:Int) (f:0<=a) (g:a<=64):qI (m:Int) a=some (a+(bl m:Int)):=by
 unfold qI;rw [lt_,u8w (by omega) (by omega),aOr];have key:∀ tb:List UInt8,(∀ i:Fin 256,(tb[i.val]?).map (λb:UInt8=>b.toNat)=some (aKu i.val))->((tb[m]?).bind λc=>(ltt (IntKind.i64.wrap (c.toNat:Int)) λd=>(ltt (IntKind.i64.wrap (a+d)) λe=>(some e))))=some (a+(bl m:Int)):=by
  intro tb ht;have:=ht ⟨m,h⟩;simp only [Option.map_eq_some_iff] at this;obtain⟨b,hb,hs⟩:=this;rw [hb];have:aKu m<=8:=by unfold aKu;(repeat' split) <;> omega
  simp only [bGi,lt_];rw [hs,w64 (n:=((aKu m:Nat):Int)) (by omega) (by omega),w64 (by omega) (by omega),aS7 h]
 exact key _ (by decide +kernel)
theorem sh {n k:Nat} (hk:k<=64):oC .u64 (n:Int) (k:Int)=((n / 2 ^ k:Nat):Int):=lG (k:=.u64) n k hk
theorem aZc {n:Nat} (h:n<18446744073709551616):yT (n:Int)=some (bl n:Int):=by
 have b:∀ (m a:Nat),m<65536->a<=56->qH (m:Int) (a:Int)=some ((a:Int)+(bl m:Int)):=by
  intro m a hm d;unfold qH;by_cases hc:256<=m
  ·rw [if_pos (by simp only [decide_eq_true_eq];omega),lt_,lt_];have e:=sh (n:=m) (k:=8) (by omega);rw [show ((8:Nat):Int)=8 from rfl] at e;rw [e,w64 (by omega) (by omega),aYk (by omega) _ (by omega) (by omega),aCg 8 m (by omega)];congr 1;omega
  ·rw [if_neg (by simp only [decide_eq_true_eq];omega),aYk (by omega) _ (by omega) (by omega)]
 have c:∀ (m a:Nat),m<4294967296->a<=32->qG (m:Int) (a:Int)=some ((a:Int)+(bl m:Int)):=by
  intro m a hm d;unfold qG;by_cases hc:65536<=m
  ·rw [if_pos (by simp only [decide_eq_true_eq];omega),lt_,lt_];have e:=sh (n:=m) (k:=16) (by omega);rw [show ((16:Nat):Int)=16 from rfl] at e;rw [e,w64 (by omega) (by omega),show (a:Int)+16=((a+16:Nat):Int) by omega,b _ _ (by omega) (by omega),aCg 16 m (by omega)];congr 1;omega
  ·rw [if_neg (by simp only [decide_eq_true_eq];omega),b _ _ (by omega) (by omega)]
 unfold yT;by_cases hc:4294967296<=n
 ·rw [if_pos (by simp only [decide_eq_true_eq];omega),lt_];have e:=sh (n:=n) (k:=32) (by omega);rw [show ((32:Nat):Int)=32 from rfl] at e;rw [e,show (32:Int)=((32:Nat):Int) from rfl,c _ _ (by omega) (by omega),aCg 32 n (by omega)];congr 1
 ·rw [if_neg (by simp only [decide_eq_true_eq];omega),show (0:Int)=((0:Nat):Int) from rfl,c _ _ (by omega) (by omega)];simp
theorem aQu:∀ (l:List Int) (m x:Int),mn m (l++[x])=if x<mn m l then x else mn m l
 | [],m,x=>rfl
 | y::l,m,x=>aQu l _ x
theorem aUb:∀ (l:List Int) (m:Int),mn m l<=m/\∀ x∈l,mn m l<=x
 | [],m=>⟨Int.le_refl _,λx h=>by cases h⟩
 | y::l,m=>by
  obtain⟨a,c⟩:=aUb l (if y<m then y else m);have b:(if y<m then y else m)<=m/\(if y<m then y else m)<=y:=by split <;> omega
  refine⟨Int.le_trans a b.1,λx hx=>?_⟩;rcases List.mem_cons.1 hx with rfl | hx
  ·exact Int.le_trans a b.2
  ·exact c x hx
theorem aUc:∀ (l:List Int) (m:Int),mn m l=m\/mn m l∈l
 | [],m=>.inl rfl
 | y::l,m=>by
  rcases aUc l (if y<m then y else m) with h | h
  ·simp only [mn];rw [h];split
   ·exact .inr List.mem_cons_self
   ·exact .inl rfl
  ·exact .inr (List.mem_cons_of_mem _ h)
theorem aLz {x:Int} {l:List Int} (h:I64 (x::l)):i64 (mn x l):=by
 rcases aUc l x with e | e
 ·rw [e];exact h x List.mem_cons_self
 ·exact h _ (List.mem_cons_of_mem _ e)
theorem aZl {x lo:Int} (hx:i64 x) (hlo:i64 lo) (h:lo<=x):IntKind.u64.wrap (IntKind.i64.wrap (x - lo))=(((x - lo).toNat:Nat):Int)/\(x - lo).toNat<18446744073709551616:=by unfold i64 at hx hlo;refine⟨?_,by omega⟩;rw [IntKind.wrap_u64,IntWalk.i64_left];unfold wrap64;omega
theorem aJf (D:List Nat) (d:Nat):wdt (D++[d])=if wdt D<bl d then bl d else wdt D:=by unfold wdt;rw [List.foldl_append];rfl
theorem aVf:∀ (k:Nat) (D:List Nat),D.length=k->∀ d∈D,bl d<=wdt D
 | 0,D,hk,d,hd=>by rw [List.eq_nil_of_length_eq_zero hk] at hd;cases hd
 | k+1,D,hk,d,hd=>by
  obtain⟨c,x,rfl⟩:∃ c x,D=c++[x]:=⟨D.dropLast,D.getLast (by intro e;rw [e] at hk;cases hk),(List.dropLast_concat_getLast _).symm⟩;rw [aJf];rcases List.mem_append.1 hd with h | h
  ·have:=aVf k c (by simpa using hk) d h;split <;> omega
  ·rw [List.mem_singleton.1 h];split <;> omega
theorem aVg (b:Nat):∀ (k:Nat) (D:List Nat),D.length=k->(∀ d∈D,bl d<=b)->wdt D<=b
 | 0,D,hk,_=>by rw [List.eq_nil_of_length_eq_zero hk];simp [wdt]
 | k+1,D,hk,h=>by obtain⟨c,x,rfl⟩:∃ c x,D=c++[x]:=⟨D.dropLast,D.getLast (by intro e;rw [e] at hk;cases hk),(List.dropLast_concat_getLast _).symm⟩;rw [aJf];have a:=aVg b k c (by simpa using hk) λd hd=>h d (List.mem_append.2 (.inl hd));have f:=h x (List.mem_append.2 (.inr (List.mem_singleton.2 rfl)));split <;> omega
theorem aSt (D:List Nat):Lt (wdt D) D:=λd hd=>Nat.lt_of_lt_of_le (bA9 d) (Nat.pow_le_pow_right (by decide) (aVf _ D rfl d hd))
theorem aOz {lo x:Int} {l:List Int} {i:Nat} (h:l[i]?=some x):(ds lo l)[i]?=some (x - lo).toNat:=by simp [ds,h]
theorem vX (lo:Int) (l:List Int):(ds lo l).length=l.length:=by simp [ds]
theorem aVz {m v a:Nat} (h:a / 8<m):(ofN (by_ m (v % 2 ^ a))).set (a / 8) ((v % 2 ^ a / 2 ^ (8 * (a / 8)) % 256+bt v a * 2 ^ (a % 8):Nat):Int)=ofN (by_ m (v % 2 ^ (a+1))):=by
 unfold ofN;rw [← List.map_set];congr 1;refine aS9 (by simp [tY]) λj b=>?_;rw [List.length_set,tY] at b;rw [aHt b];by_cases e:a / 8=j
 ·subst e;have:=(aFi v a 8 (by decide)).1;rw [Nat.mul_comm (a / 8) 8,show 2 ^ 8=256 from rfl] at this;rw [List.getElem?_set_self (by rw [tY];exact b),this]
 ·have:=aKc v a j 8 (by decide) (Ne.symm e);rw [Nat.mul_comm j 8,show 2 ^ 8=256 from rfl] at this;rw [List.getElem?_set_ne e,aHt b,this]
theorem aWt {D:List Nat} {j d:Nat} (h:D[j]?=some d):(ofN D)[j]?=some (d:Int):=by simp [ofN,h]
theorem aEp (D:List Nat):(ofN D).length=D.length:=by simp [ofN]
section
variable {l:List Int} {lo:Int} {w:Nat} (hl:l.length<=4096) (hi:I64 l) (hlo:i64 lo) (hle:∀ x∈l,lo<=x) (hw:w<=64) (hL:Lt w (ds lo l))
include hl hi hlo hle hw hL
omit hl in
theorem aZi {i:Nat} {x:Int} (hx:l[i]?=some x) {k:Nat} (hk:k<w) :
  oC .u64 (IntKind.u64.wrap (IntKind.i64.wrap (x - lo))) (k:Int)=(((x - lo).toNat / 2 ^ k:Nat):Int)/\bt (V w (ds lo l)) (i * w+k)=(x - lo).toNat / 2 ^ k % 2/\(x - lo).toNat / 2 ^ k<18446744073709551616:=by
 obtain⟨e,e'⟩:=aZl (hi.get hx) hlo (hle x (List.mem_of_getElem? hx));rw [e];exact⟨sh (by omega),bBa hL (aOz hx) hk,Nat.lt_of_le_of_lt (Nat.div_le_self _ _) e'⟩
omit hi hlo hle hL in
theorem bA8 {i k:Nat} (a:i<l.length) (hk:k<w):i * w+k<l.length * w/\l.length * w<=262144/\(i * w+k) / 8<(l.length * w+7) / 8:=by have b:(i+1) * w<=l.length * w:=Nat.mul_le_mul_right _ a;have c:l.length * w<=4096 * 64:=Nat.mul_le_mul hl hw;rw [Nat.add_mul] at b;refine⟨by omega,by omega,by omega⟩
theorem aTf {i:Nat} {x:Int} (hx:l[i]?=some x) :
  loop (λs:Int×List Int×Int=>iU lo (w:Int) x s.1 s.2.1 s.2.2) (((i * w:Nat):Int),ofN (by_ ((l.length * w+7) / 8) (V w (ds lo l) % 2 ^ (i * w))),0)
   = some ((((i+1) * w:Nat):Int),ofN (by_ ((l.length * w+7) / 8) (V w (ds lo l) % 2 ^ ((i+1) * w)))):=by
 have g:=(List.getElem?_eq_some_iff.1 hx).1;have:=iY (b:=λs:Int×List Int×Int=>iU lo (w:Int) x s.1 s.2.1 s.2.2) (λk=>(((i * w+k:Nat):Int),ofN (by_ ((l.length * w+7) / 8) (V w (ds lo l) % 2 ^ (i * w+k))),(k:Int))) (t:=((((i+1) * w:Nat):Int),ofN (by_ ((l.length * w+7) / 8) (V w (ds lo l) % 2 ^ ((i+1) * w))))) w (λk hk=>by
  obtain⟨h,q,c⟩:=bA8 hl hw g hk;obtain⟨j,d,m⟩:=aZi hi hlo hle hw hL hx hk;show iU lo (w:Int) x ((i * w+k:Nat):Int) (ofN (by_ ((l.length * w+7) / 8) (V w (ds lo l) % 2 ^ (i * w+k)))) (k:Int)=_;have e:=aVz (v:=V w (ds lo l)) c;have f:V w (ds lo l) % 2 ^ (i * w+k) / 2 ^ (8 * ((i * w+k) / 8)) % 256<2 ^ ((i * w+k) % 8):=by
   have:=(aFi (V w (ds lo l)) (i * w+k) 8 (by decide)).2
   rwa [Nat.mul_comm ((i * w+k) / 8) 8] at this
  rw [show i * w+(k+1)=i * w+k+1 by omega];generalize i * w+k=a at h c d e f ⊢;have o:=aWt (aHt (v:=V w (ds lo l) % 2 ^ a) c);unfold iU;rw [if_pos (by simp only [decide_eq_true_eq];omega),lt_,show ((a:Nat):Int).tdiv 8=((a / 8:Nat):Int) from rfl,w64 (n:=((a / 8:Nat):Int)) (by omega) (by omega),bB rfl o];simp only [bGi,lt_];rw [bJ (by omega),j,show ((a:Nat):Int).tmod 8=((a % 8:Nat):Int) from rfl,bJ (by omega)];have p:aBk .u64 (((x - lo).toNat / 2 ^ k:Nat):Int) 1=((bt (V w (ds lo l)) a:Nat):Int):=by have:=aIf (a:=(x - lo).toNat / 2 ^ k) (b:=1) m (by omega);rw [show ((1:Nat):Int)=1 from rfl] at this;rw [this,aS1,d]
  have hb:=aP8 (V w (ds lo l)) a;have r:2 ^ (a % 8)<=2 ^ 7:=Nat.pow_le_pow_right (by decide) (by omega);have u:bt (V w (ds lo l)) a * 2 ^ (a % 8)<=1 * 2 ^ (a % 8):=Nat.mul_le_mul_right _ (by omega);have hm:bt (V w (ds lo l)) a * 2 ^ (a % 8) % 256=bt (V w (ds lo l)) a * 2 ^ (a % 8):=Nat.mod_eq_of_lt (by omega);rw [p,u8w (by omega) (by omega),aWp _ _ (by omega),hm,aT4 (by omega) (by omega),aBo f,w64 (by omega) (by omega),w64 (by omega) (by omega),Int.toNat_natCast,e];rfl) (by
  show iU lo (w:Int) x ((i * w+w:Nat):Int) (ofN (by_ ((l.length * w+7) / 8) (V w (ds lo l) % 2 ^ (i * w+w)))) (w:Int)=_;unfold iU;rw [if_neg (by simp),show i * w+w=(i+1) * w by rw [Nat.add_mul,Nat.one_mul]])
 simpa using this
theorem aV2:loop (λs:Int×List Int×Int=>iT l lo (w:Int) s.1 s.2.1 s.2.2) (0,List.replicate ((l.length * w+7) / 8) 0,0)=some (ofN (by_ ((l.length * w+7) / 8) (V w (ds lo l)))):=by
 have:=iY (b:=λs:Int×List Int×Int=>iT l lo (w:Int) s.1 s.2.1 s.2.2) (λi=>(((i * w:Nat):Int),ofN (by_ ((l.length * w+7) / 8) (V w (ds lo l) % 2 ^ (i * w))),(i:Int))) (t:=ofN (by_ ((l.length * w+7) / 8) (V w (ds lo l)))) l.length (λi c=>by
  have hx:=List.getElem?_eq_getElem c;show iT l lo (w:Int) ((i * w:Nat):Int) (ofN (by_ ((l.length * w+7) / 8) (V w (ds lo l) % 2 ^ (i * w)))) (i:Int)=_;unfold iT;rw [if_pos (by simp only [decide_eq_true_eq];omega),bB rfl hx];simp only [bGi];rw [aTf hl hi hlo hle hw hL hx];simp only [bGi];unfold rX uX;rw [lt_,w64 (by omega) (by omega)];rfl) (by
  show iT l lo (w:Int) ((l.length * w:Nat):Int) (ofN (by_ ((l.length * w+7) / 8) (V w (ds lo l) % 2 ^ (l.length * w)))) (l.length:Int)=_;unfold iT;have a:=aVu hL;rw [vX] at a;rw [if_neg (by simp),Nat.mod_eq_of_lt a])
 have e0:ofN (by_ ((l.length * w+7) / 8) (V w (ds lo l) % 2 ^ (0 * w)))=List.replicate ((l.length * w+7) / 8) 0:=by rw [Nat.zero_mul,Nat.pow_zero,Nat.mod_one];unfold ofN by_;rw [List.map_map,List.eq_replicate_iff];refine⟨by simp,λb hb=>?_⟩;obtain⟨j,_,rfl⟩:=List.mem_map.1 hb;simp
 rw [e0] at this;simpa using this
end
section
variable {l:List Int} {lo:Int} {w:Nat} (hl:l.length<=4096) (hi:I64 l) (hlo:i64 lo) (hle:∀ x∈l,lo<=x) (hw:w<=64) (hL:Lt w (ds lo l)) {pre:List Int} (hp:pre.length<=100)
include hl hi hlo hle hw hL hp
end
theorem aV3 {x:Int} {l:List Int} (hl:(x::l).length<=4096):jB (x::l)=some (mn x l):=by
 simp only [List.length_cons] at hl;unfold jB;rw [if_neg (by simp only [decide_eq_true_eq,List.length_cons];omega),show at_ (x::l) 0=some x from rfl];simp only [bGi];have:=iY (b:=λs:Int×Int=>dC (x::l) s.1 s.2) (λk=>(mn x (l.take k),((k+1:Nat):Int))) (t:=mn x l) l.length (λk hk=>by
  have hx:=List.getElem?_eq_getElem hk;show dC (x::l) (mn x (l.take k)) ((k+1:Nat):Int)=_;unfold dC;rw [if_pos (by simp only [decide_eq_true_eq,List.length_cons];omega),bB rfl (by rw [List.getElem?_cons_succ];exact hx)];simp only [bGi,lt_];rw [w64 (by omega) (by omega),uH hx,aQu];rfl) (by
  show dC (x::l) (mn x (l.take l.length)) ((l.length+1:Nat):Int)=_;unfold dC;rw [if_neg (by simp),List.take_length])
 rw [show ((x,1):Int×Int)=(λk=>(mn x (l.take k),((k+1:Nat):Int))) 0 from rfl,this];rfl
section
variable {l:List Int} {lo:Int} (hl:l.length<=4096) (hi:I64 l) (hlo:i64 lo) (hle:∀ x∈l,lo<=x)
include hl hi hlo hle
omit hl in
theorem bBg:∀ d∈ds lo l,bl d<=64:=by intro d hd;obtain⟨x,hx,rfl⟩:=List.mem_map.1 hd;exact aX4 64 _ (aZl (hi x hx) hlo (hle x hx)).2
omit hl in
theorem aMj (k:Nat):wdt ((ds lo l).take k)<=64:=aVg 64 _ _ rfl λd hd=>bBg hi hlo hle d (List.mem_of_mem_take hd)
theorem aV4:loop (λs:Int×Int=>iV l lo s.1 s.2) (0,0)=some (wdt (ds lo l):Int):=by
 have:=iY (b:=λs:Int×Int=>iV l lo s.1 s.2) (λk=>((wdt ((ds lo l).take k):Int),(k:Int))) (t:=(wdt (ds lo l):Int)) l.length (λk hk=>by
  have hx:=List.getElem?_eq_getElem hk;obtain⟨e,e'⟩:=aZl (hi.get hx) hlo (hle _ (List.mem_of_getElem? hx));show iV l lo (wdt ((ds lo l).take k):Int) (k:Int)=_;unfold iV;rw [if_pos (by simp only [decide_eq_true_eq];omega),bB rfl hx];simp only [bGi,lt_];rw [e,aZc e'];simp only [bGi];rw [w64 (by omega) (by omega),List.take_add_one (i:=k),aOz hx];show some (Sum.inl _)=some (Sum.inl (((wdt ((ds lo l).take k++[(l[k] - lo).toNat]):Nat):Int),((k+1:Nat):Int)));rw [aJf];congr 3;split <;> split <;> omega) (by
  show iV l lo (wdt ((ds lo l).take l.length):Int) (l.length:Int)=_;unfold iV;rw [if_neg (by simp),List.take_of_length_le (by rw [vX];exact Nat.le_refl _)])
 simpa [wdt] using this
end
theorem aLy {x:Int} {l:List Int}:∀ y∈x::l,mn x l<=y:=λy a=>by
 rcases List.mem_cons.1 a with rfl | h
 ·exact (aUb l y).1
 ·exact (aUb l x).2 y h
theorem bEv {l pre:List Int} (hl:l.length<=4096) (hi:I64 l) (hp:pre.length<=20):uA pre l=some (pre++pk l):=by
 cases l with
 | nil=>simp [uA,pk]
 | cons x l =>
  have hlo:=aLz hi;have hle:=aLy (x:=x) (l:=l);unfold uA;rw [if_neg (by simp;omega),aV3 hl];simp only [bGi];rw [aV4 hl hi hlo hle];simp only [bGi];have hw:wdt (ds (mn x l) (x::l))<=64:=by
   have:=aMj hi hlo hle (x::l).length
   rwa [List.take_of_length_le (by rw [vX];exact Nat.le_refl _)] at this
  have hL:=aSt (ds (mn x l) (x::l));have hz:=aO (xD hlo);simp only [pk];generalize wdt (ds (mn x l) (x::l))=w at hw hL ⊢;have a:(x::l).length * w<=4096 * 64:=Nat.mul_le_mul hl hw;unfold rY uV;rw [zV hlo _ (by omega)];simp only [bGi,lt_];rw [u8w (n:=(w:Int)) (by omega) (by omega),bJ (by simp only [List.length_append,List.length_singleton];omega), ← Int.natCast_mul,w64 (n:=(((x::l).length * w:Nat):Int)) (by omega) (by omega),w64 (n:=(((x::l).length * w:Nat):Int)+7) (by omega) (by omega),
   show ((((x::l).length * w:Nat):Int)+7).tdiv 8=((((x::l).length * w+7) / 8:Nat):Int) from rfl,w64 (by omega) (by omega),bJ (by omega),Int.toNat_natCast,aV2 hl hi hlo hle hw hL]
  simp only [bGi];unfold rW uW;rw [bJ (by simp only [List.length_append,List.length_singleton,aEp,tY];omega)];simp
theorem aY9 {w:Nat} {l:List Int} (hw:w<4) (hl:l.length<=4096) (hi:I64 l):vR (w:Int) l=some (asL w l):=by
 have hu:=aO (n:=l.length) (by omega);unfold vR;rw [lt_,mE (by omega) (by omega),sY _ _ (by omega) (by simp;omega)];simp only [bGi];have hp:([(w:Int)]++uv l.length).length<=20:=by simp;omega
 unfold asL
 match w,hw with
 | 0,_ =>
  rw [if_pos (by rfl),bEs hl hi hp];simp [uO,xT,iR,body]
 | 1,_ =>
  rw [if_neg (by decide),if_pos (by rfl),bEt hl hp];simp [uP,xU,iR,body]
 | 2,_ =>
  rw [if_neg (by decide),if_neg (by decide),if_pos (by rfl),bEu hl hi hp];simp [uQ,xV,iR,body]
 | 3,_ =>
  rw [if_neg (by decide),if_neg (by decide),if_neg (by decide),if_pos (by rfl),bEv hl hi hp];simp [iR,body]
def jA (a b:List Int):List Int:=if b.length<a.length then b else a
def fY (l:List Int):List Int:=jA (jA (jA (asL 0 l) (asL 1 l)) (asL 2 l)) (asL 3 l)
theorem aCf {l:List Int} (hl:l.length<=4096) (hi:I64 l):nG l=some (fY l):=by
 have hA:∀ w:Nat,w<4->vR (w:Int) l=some (asL w l):=λw hw=>aY9 hw hl hi;unfold fY;unfold nG;obtain⟨p,hp⟩:∃ p:Nat->List Int,∀ w,p w=asL w l:=⟨_,λ_=>rfl⟩;have step:∀ (b:List Int) (w:Nat),1<=w->w<4->fV l b (w:Int)=some (.inl (jA b (p w),((w+1:Nat):Int))):=by
  intro b w c a;unfold fV rD jA;rw [if_pos (by simp only [decide_eq_true_eq];omega),hA w a,hp];simp only [bGi,lt_];rw [u8w (by omega) (by omega)];by_cases h:(asL w l).length<b.length
  ·rw [if_pos (by simp only [decide_eq_true_eq];omega),if_pos h];rfl
  ·rw [if_neg (by simp only [decide_eq_true_eq];omega),if_neg h];rfl
 have h0:=hA 0 (by decide);rw [show ((0:Nat):Int)=0 from rfl] at h0;rw [h0, ← hp 0, ← hp 1, ← hp 2, ← hp 3];clear hA h0 hp;simp only [bGi];have a:∀ b,fV l b ((4:Nat):Int)=some (.inr b):=by intro b;unfold fV;rw [if_neg (by decide)]
 have:=((cD (b:=λs:List Int×Int=>fV l s.1 s.2) (s:=(p 0,((1:Nat):Int))) (step (p 0) 1 (by decide) (by decide))).trans
  ((cD (b:=λs:List Int×Int=>fV l s.1 s.2) (s:=(jA (p 0) (p 1),((2:Nat):Int))) (step _ 2 (by decide) (by decide))).trans
  ((cD (b:=λs:List Int×Int=>fV l s.1 s.2) (s:=(jA (jA (p 0) (p 1)) (p 2),((3:Nat):Int))) (step _ 3 (by decide) (by decide))).trans (bE (b:=λs:List Int×Int=>fV l s.1 s.2) (s:=(jA (jA (jA (p 0) (p 1)) (p 2)) (p 3),((4:Nat):Int))) (a _)))))
 rw [show (1:Int)=((1:Nat):Int) from rfl,this];rfl
def aBz:Nat->List Int->Option (List Int×List Int)
 | 0,xs=>some ([],xs)
 | n+1,xs=>match pI xs with
  | some (x,r)=>match aBz n r with
   | some (l,r')=>some (x::l,r')
   | none=>none
  | none=>none
def pD:Int->Nat->List Int->Option (List Int×List Int)
 | _,0,xs=>some ([],xs)
 | a,n+1,xs=>match pI xs with
  | some (x,r)=>match pD (IntKind.i64.wrap (a+x)) n r with
   | some (l,r')=>some (IntKind.i64.wrap (a+x)::l,r')
   | none=>none
  | none=>none
def pR:Nat->Nat->List Int->Option (List Int×List Int)
 | 0,_,xs=>some ([],xs)
 | f+1,n,xs=>if n=0 then some ([],xs) else match pI xs with
  | some (x,r)=>match pU ((n - 1:Nat):Int) r with
   | some (k,r')=>match pR f (n - (k.toNat+1)) r' with
    | some (l,r'')=>some (List.replicate (k.toNat+1) x++l,r'')
    | none=>none
   | none=>none
  | none=>none
def toN (xs:List Int):List Nat:=xs.map Int.toNat
def part (n w v:Nat):List Int:=(List.range n).map λq=>IntKind.i64.wrap ((v / 2 ^ (q * w) % 2 ^ w:Nat):Int)
abbrev bHw:=(List Int×List Int)
def pP (n:Nat) (xs:List Int):Option bHw:=match pI xs with
 | some (lo,r)=>match pB r with
  | some (w,r')=>if w<=64/\r'.length=(n * w.toNat+7) / 8/\V 8 (toN r')<2 ^ (n * w.toNat) then some ((part n w.toNat (V 8 (toN r'))).map λx=>IntKind.i64.wrap (x+lo),[]) else none
  | none=>none
 | none=>none
def aJ9 (w:Int) (n:Nat) (r:List Int):Option bHw:=if w=0 then aBz n r else if w=1 then pD 0 n r else if w=2 then pR n n r else if 0<n then pP n r else some ([],r)
def aGv (xs:List Int):Option bHw:=match pB xs with
 | some (w,r)=>if w<=3 then (match pU 4096 r with
  | some (n,r')=>aJ9 w n.toNat r'
  | none=>none) else none
 | none=>none
theorem aYo {xs r:List Int} {b:Int} (hB:Bs xs) (h:pB xs=some (b,r)):(0<=b/\b<256)/\Bs r/\xs=b::r:=by
 cases xs with
 | nil=>cases h
 | cons c xs=>cases h;exact⟨hB.cons.1,hB.cons.2,rfl⟩
theorem aJ5 (n:Nat) (hn:n<=4096):∀ (m k:Nat) (acc xs:List Int),Bs xs->k+m=n->acc.length=k ->
  ∃ y,loop (λs:List Int×List Int×Int=>dI (n:Int) s.1 s.2.1 s.2.2) (xs,acc,(k:Int))=some y/\match aBz m xs with
   | some (l,r)=>y=.inl (r,acc++l)
   | none=>∃ s,y=.inr (.inr s)
 | 0,k,acc,xs,hB,hk,ha=>by refine⟨_,bE (t:=Sum.inl (xs,acc)) ?_,by simp [aBz]⟩;show dI (n:Int) xs acc (k:Int)=_;unfold dI;rw [if_neg (by simp only [decide_eq_true_eq];omega)]
 | m+1,k,acc,xs,hB,hk,ha=>by
  unfold aBz;rcases (aHr hB).cases with ⟨x,r,a,b⟩ | ⟨a,s,b⟩
  ·rw [a];obtain⟨y,c,hm⟩:=aJ5 n hn m (k+1) (acc++[x]) r (aQx hB a).1 (by omega) (by simp [ha]);refine⟨y,(cD (s':=(r,acc++[x],((k+1:Nat):Int))) ?_).trans c,?_⟩
   ·show dI (n:Int) xs acc (k:Int)=_;unfold dI;rw [if_pos (by simp only [decide_eq_true_eq];omega),b];simp only [bGi,hT,lt_];rw [bJ (by simp;omega),w64 (by omega) (by omega)];rfl
   ·simp only;revert hm;cases aBz m r with
    | none=>exact id
    | some q=>intro hm;simpa using hm
  ·rw [a];refine⟨_,bE (t:=Sum.inr (.inr s)) ?_,s,rfl⟩;show dI (n:Int) xs acc (k:Int)=_;unfold dI;rw [if_pos (by simp only [decide_eq_true_eq];omega),b];rfl
theorem aWq {n:Nat} (hn:n<=4096) {xs:List Int} (hB:Bs xs):IsR (nI (n:Int) ⟨xs⟩) (aBz n xs):=by
 obtain⟨y,a,hm⟩:=aJ5 n hn n 0 [] xs hB (by omega) rfl;unfold nI;rw [show (0:Int)=((0:Nat):Int) from rfl,a];simp only [bGi];revert hm;cases aBz n xs with
 | none=>rintro⟨s,rfl⟩;exact⟨s,rfl⟩
 | some q=>intro hm;subst hm;rfl
theorem aQd (n:Nat) (hn:n<=4096):∀ (m k:Nat) (a:Int) (acc xs:List Int),Bs xs->k+m=n->acc.length=k ->
  ∃ y,loop (λs:List Int×List Int×Int×Int=>hO (n:Int) s.1 s.2.1 s.2.2.1 s.2.2.2) (xs,acc,a,(k:Int))=some y/\match pD a m xs with
   | some (l,r)=>y=.inl (r,acc++l)
   | none=>∃ s,y=.inr (.inr s)
 | 0,k,a,acc,xs,hB,hk,ha=>by refine⟨_,bE (t:=Sum.inl (xs,acc)) ?_,by simp [pD]⟩;show hO (n:Int) xs acc a (k:Int)=_;unfold hO;rw [if_neg (by simp only [decide_eq_true_eq];omega)]
 | m+1,k,a,acc,xs,hB,hk,ha=>by
  unfold pD;rcases (aHr hB).cases with ⟨x,r,b,c⟩ | ⟨b,s,c⟩
  ·rw [b];obtain⟨y,d,hm⟩:=aQd n hn m (k+1) (IntKind.i64.wrap (a+x)) (acc++[IntKind.i64.wrap (a+x)]) r (aQx hB b).1 (by omega) (by simp [ha]);refine⟨y,(cD (s':=(r,acc++[IntKind.i64.wrap (a+x)],IntKind.i64.wrap (a+x),((k+1:Nat):Int))) ?_).trans d,?_⟩
   ·show hO (n:Int) xs acc a (k:Int)=_;unfold hO;rw [if_pos (by simp only [decide_eq_true_eq];omega),c];simp only [bGi,hT,lt_];rw [bJ (by simp;omega),w64 (n:=(k:Int)+1) (by omega) (by omega)];rfl
   ·simp only;revert hm;cases pD (IntKind.i64.wrap (a+x)) m r with
    | none=>exact id
    | some q=>intro hm;simpa using hm
  ·rw [b];refine⟨_,bE (t:=Sum.inr (.inr s)) ?_,s,rfl⟩;show hO (n:Int) xs acc a (k:Int)=_;unfold hO;rw [if_pos (by simp only [decide_eq_true_eq];omega),c];rfl
theorem aU1 (y:Int×S140) (k:Nat) (acc:List Int) (h:acc.length+k<=8192):loop (λs:List Int×Int=>iS y (k:Int) s.1 s.2) (acc,0)=some (acc++List.replicate k y.1):=by
 have:=iY (b:=λs:List Int×Int=>iS y (k:Int) s.1 s.2) (λj=>(acc++List.replicate j y.1,(j:Int))) (t:=acc++List.replicate k y.1) k (λj a=>by
  show iS y (k:Int) (acc++List.replicate j y.1) (j:Int)=_;unfold iS;rw [if_pos (by simp only [decide_eq_true_eq];omega),bJ (by simp;omega),lt_,mE (by omega) (by omega),List.replicate_succ',List.append_assoc];rfl) (by
  show iS y (k:Int) (acc++List.replicate k y.1) (k:Int)=_;unfold iS;rw [if_neg (by simp)])
 simpa using this
theorem aQ4 (n:Nat) (hn:n<=4096):∀ (f m:Nat) (acc xs:List Int),Bs xs->acc.length+m=n->m<=f ->
  ∃ y,loop (λs:List Int×List Int=>dW (n:Int) s.1 s.2) (xs,acc)=some y/\match pR f m xs with
   | some (l,r)=>y=.inl (r,acc++l)
   | none=>∃ s,y=.inr (.inr s)
 | 0,m,acc,xs,hB,hk,hf=>by refine⟨_,bE (t:=Sum.inl (xs,acc)) ?_,by simp [pR]⟩;show dW (n:Int) xs acc=_;unfold dW;rw [if_neg (by simp only [decide_eq_true_eq];omega)]
 | f+1,m,acc,xs,hB,hk,hf=>by
  unfold pR;by_cases g:m=0
  ·rw [if_pos g];refine⟨_,bE (t:=Sum.inl (xs,acc)) ?_,by simp⟩;show dW (n:Int) xs acc=_;unfold dW;rw [if_neg (by simp only [decide_eq_true_eq];omega)]
  ·rw [if_neg g];rcases (aHr hB).cases with ⟨x,r,b,d⟩ | ⟨b,s,d⟩
   ·rw [b];simp only;have h:=(aQx hB b).1;have i:IntKind.u64.wrap (IntKind.i64.wrap (IntKind.i64.wrap ((n:Int) - (acc.length:Int)) - 1))=((m - 1:Nat):Int):=by rw [w64 (n:=(n:Int) - (acc.length:Int)) (by omega) (by omega),w64 (by omega) (by omega),mE (by omega) (by omega)];omega
    rcases (aDa ((m - 1:Nat):Int) h).cases with ⟨k,r',a,e⟩ | ⟨a,s,e⟩
    ·rw [a];simp only;obtain⟨o,p,u⟩:=(tL a).1;obtain⟨c,rfl⟩:∃ c:Nat,k=(c:Int):=⟨k.toNat,by omega⟩;rw [Int.toNat_natCast];obtain⟨y,j,hm⟩:=aQ4 n hn f (m - (c+1)) (acc++List.replicate (c+1) x) r' (aNy h a) (by simp;omega) (by omega);refine⟨y,(cD (s':=(r',acc++List.replicate (c+1) x)) ?_).trans j,?_⟩
     ·show dW (n:Int) xs acc=_;unfold dW;rw [if_pos (by simp only [decide_eq_true_eq];omega),d];simp only [bGi,hT,lt_];rw [i,e];simp only [bGi,hT];rw [mE (by omega) (by omega),show (1:Int)+(c:Int)=((c+1:Nat):Int) by omega,aU1 _ _ _ (by omega)];rfl
     ·revert hm;cases pR f (m - (c+1)) r' with
      | none=>exact id
      | some q=>intro hm;simpa using hm
    ·rw [a];refine⟨_,bE (t:=Sum.inr (.inr s)) ?_,s,rfl⟩;show dW (n:Int) xs acc=_;unfold dW;rw [if_pos (by simp only [decide_eq_true_eq];omega),d];simp only [bGi,hT,lt_];rw [i,e];rfl
   ·rw [b];refine⟨_,bE (t:=Sum.inr (.inr s)) ?_,s,rfl⟩;show dW (n:Int) xs acc=_;unfold dW;rw [if_pos (by simp only [decide_eq_true_eq];omega),d];rfl
theorem aXb {xs:List Int} (hB:Bs xs) {j:Nat} (h:j<xs.length):∃ b:Nat,xs[j]?=some (b:Int)/\(toN xs)[j]?=some b/\b<256:=by have hx:=List.getElem?_eq_getElem h;have:=hB _ (List.mem_of_getElem? hx);refine⟨xs[j].toNat,by rw [hx];congr 1;omega,by simp [toN,hx],by omega⟩
theorem bAo {xs:List Int} (hB:Bs xs):Lt 8 (toN xs):=by intro d hd;obtain⟨b,hb,rfl⟩:=List.mem_map.1 hd;have:=hB b hb;omega
theorem rM (n w v:Nat):(part n w v).length=n:=by simp [part]
theorem aFh {n w v q:Nat} (h:q<n):(part n w v)[q]?=some (IntKind.i64.wrap ((v / 2 ^ (q * w) % 2 ^ w:Nat):Int)):=by unfold part;rw [List.getElem?_map,List.getElem?_range h];rfl
theorem aQk {xs ys:List Int} (hl:xs.length=ys.length) (h:∀ j:Nat,j<xs.length->xs[j]?=ys[j]?):xs=ys:=by
 apply List.ext_getElem? λj=>?_;rcases Nat.lt_or_ge j xs.length with a | a
 ·exact h j a
 ·rw [List.getElem?_eq_none a,List.getElem?_eq_none (by omega)]
theorem aIt (a:Nat):BitVec.ofInt 64 (IntKind.i64.wrap (a:Int))=BitVec.ofNat 64 a:=by apply BitVec.eq_of_toNat_eq;rw [BitVec.toNat_ofInt,BitVec.toNat_ofNat,IntWalk.i64_left];unfold wrap64;omega
theorem aT5 (a b:Nat) (c:a<18446744073709551616) (hb:b<18446744073709551616):ior .i64 (IntKind.i64.wrap (a:Int)) (IntKind.i64.wrap (b:Int))=IntKind.i64.wrap ((a ||| b:Nat):Int):=by show IntKind.i64.wrap (((BitVec.ofInt 64 (IntKind.i64.wrap (a:Int)) ||| BitVec.ofInt 64 (IntKind.i64.wrap (b:Int))).toNat:Nat):Int)=_;rw [aIt,aIt,BitVec.toNat_or,BitVec.toNat_ofNat,BitVec.toNat_ofNat,Nat.mod_eq_of_lt (show a<2 ^ 64 by omega),Nat.mod_eq_of_lt (show b<2 ^ 64 by omega)]
theorem aR8 {n w v i:Nat} (hw:0<w) (h:i / w<n):(part n w (v % 2 ^ i)).set (i / w) (IntKind.i64.wrap ((v % 2 ^ i / 2 ^ (i / w * w) % 2 ^ w+bt v i * 2 ^ (i % w):Nat):Int))=part n w (v % 2 ^ (i+1)):=by
 refine aQk (by simp [rM]) λj a=>?_;rw [List.length_set,rM] at a;rw [aFh a];by_cases e:i / w=j
 ·subst e;rw [List.getElem?_set_self (by rw [rM];exact a),(aFi v i w hw).1]
 ·rw [List.getElem?_set_ne e,aFh a,aKc v i j w hw (Ne.symm e)]
theorem aOe {n w:Nat} (hn:n<=4096) (hw:w<=64) {xs:List Int} (hB:Bs xs) (hlen:xs.length=(n * w+7) / 8) :
  ∃ y,loop (λs:List Int×List Int×Int=>iD (n:Int) (w:Int) ((8 * xs.length:Nat):Int) s.1 s.2.1 s.2.2) (xs,List.replicate n 0,0)=some y /\
   ((V 8 (toN xs)<2 ^ (n * w)/\y=.inl (xs,part n w (V 8 (toN xs))))\/(¬ V 8 (toN xs)<2 ^ (n * w)/\∃ s,y=.inr (.inr s))):=by
 have H:n * w<=4096 * 64:=Nat.mul_le_mul hn hw;have hL:=bAo hB;have m:V 8 (toN xs)<2 ^ (8 * xs.length):=by have:=aVu hL;rw [show (toN xs).length=xs.length by simp [toN],Nat.mul_comm] at this;exact this
 obtain⟨v,e⟩:∃ v,v=V 8 (toN xs):=⟨_,rfl⟩;have x:∀ j t b,(toN xs)[j]?=some b->t<8->bt v (j * 8+t)=bt b t:=λj t b hb ht=>by rw [e];exact bBa hL hb ht
 rw [← e] at m ⊢;clear e hL;refine aDn (b:=λs:List Int×List Int×Int=>iD (n:Int) (w:Int) ((8 * xs.length:Nat):Int) s.1 s.2.1 s.2.2) (s:=(xs,List.replicate n 0,0))
  (λs=>∃ i:Nat,s=(xs,part n w (v % 2 ^ i),(i:Int))/\i<=8 * xs.length/\(n * w<=i->v % 2 ^ i<2 ^ (n * w))) (λs=>(((8 * xs.length:Nat):Int) - s.2.2).toNat)
  (λy=>(v<2 ^ (n * w)/\y=.inl (xs,part n w v))\/(¬ v<2 ^ (n * w)/\∃ s,y=.inr (.inr s))) ⟨0,?_,by omega,λ_=>by rw [Nat.pow_zero,Nat.mod_one];exact Nat.two_pow_pos _⟩ ?_
 ·rw [Nat.pow_zero,Nat.mod_one,show part n w 0=List.replicate n 0 by
   unfold part;rw [List.eq_replicate_iff];refine⟨by simp,λb hb=>?_⟩;obtain⟨q,_,rfl⟩:=List.mem_map.1 hb;simp;rfl]
  rfl
 ·rintro s ⟨i,rfl,I,hz⟩;show (∃ s',iD (n:Int) (w:Int) ((8 * xs.length:Nat):Int) xs (part n w (v % 2 ^ i)) (i:Int)=some (.inl s')/\_)\/∃ t,iD (n:Int) (w:Int) ((8 * xs.length:Nat):Int) xs (part n w (v % 2 ^ i)) (i:Int)=some (.inr t)/\_;unfold iD;by_cases J:i<8 * xs.length
  ·obtain⟨b,z,A,K⟩:=aXb hB (j:=i / 8) (by omega);have o:=x (i / 8) (i % 8) b A (by omega);rw [show i / 8 * 8+i % 8=i by omega] at o;have hb:=aP8 v i;have B:oC .u8 (b:Int) ((i % 8:Nat):Int)=((b / 2 ^ (i % 8):Nat):Int):=lG (k:=.u8) b (i % 8) (by show _<=8;omega);have e0:b / 2 ^ (i % 8)<=b:=Nat.div_le_self _ _;have C:aBk .u64 ((b / 2 ^ (i % 8):Nat):Int) 1=((bt v i:Nat):Int):=by have:=aIf (a:=b / 2 ^ (i % 8)) (b:=1) (by omega) (by omega);rw [show ((1:Nat):Int)=1 from rfl] at this;rw [this,aS1,o];rfl
   rw [if_pos (by simp only [decide_eq_true_eq];omega),lt_,show (i:Int).tdiv 8=((i / 8:Nat):Int) from rfl,w64 (by omega) (by omega),bB rfl z];simp only [bGi,lt_];rw [show (i:Int).tmod 8=((i % 8:Nat):Int) from rfl,bJ (by omega),B,mE (Int.natCast_nonneg _) (by omega),C, ← Int.natCast_mul,w64 (n:=((n * w:Nat):Int)) (by omega) (by omega)];by_cases f:i<n * w
   ·
    have c:0<w:=by rcases Nat.eq_zero_or_pos w with h | h;rw [h] at f;simp at f;exact h
    have p:i / w<n:=(Nat.div_lt_iff_lt_mul c).2 f;have hk:i % w<w:=Nat.mod_lt _ c;rw [if_neg (by simp only [decide_eq_true_eq];omega),bJ (by omega),show (i:Int).tdiv (w:Int)=((i / w:Nat):Int) from rfl,w64 (n:=((i / w:Nat):Int)) (Int.le_trans (by decide) (Int.natCast_nonneg _)) (by omega),bB rfl (aFh p)];simp only [bGi];obtain⟨L,D⟩:=aFi v i w c;have E:=aR8 (v:=v) c p;have hp:2 ^ (i % w)<=2 ^ 63:=Nat.pow_le_pow_right (by decide) (by omega);have M:bt v i * 2 ^ (i % w)<=1 * 2 ^ (i % w):=Nat.mul_le_mul_right _ (by omega);have hm:bt v i * 2 ^ (i % w) % 18446744073709551616=bt v i * 2 ^ (i % w):=Nat.mod_eq_of_lt (by omega);rw [bJ (by omega),show (i:Int).tmod (w:Int)=((i % w:Nat):Int) from rfl,bJ (by omega),aNr _ _ (by omega),hm,aT5 _ _ (by omega) (by omega),aBo D,Int.toNat_natCast,E];unfold lT;rw [lt_,w64 (n:=(i:Int)+1) (by omega) (by omega)];exact .inl ⟨_,rfl,⟨i+1,rfl,by omega,λh=>by
     have g:v % 2 ^ (i+1)<2 ^ (i+1):=Nat.mod_lt _ (Nat.two_pow_pos _);have F:i+1=n * w:=by omega
     rw [F] at g ⊢;exact g⟩,by simp only;omega⟩
   ·rw [if_pos (by simp only [decide_eq_true_eq];omega)];have l:=aIp v i;by_cases r:bt v i=0
    ·rw [r,show (((0:Nat):Int)==0)=true from rfl,mI];simp only [bGi,hT];unfold lT;rw [lt_,w64 (n:=(i:Int)+1) (by omega) (by omega)];rw [r,Nat.zero_mul,Nat.add_zero] at l;exact .inl ⟨_,rfl,⟨i+1,by rw [l];rfl,by omega,λ_=>by rw [l];exact hz (by omega)⟩,by simp only;omega⟩
    ·have d:bt v i=1:=by omega
     rw [d,show (((1:Nat):Int)==0)=false from rfl,rQ];refine .inr ⟨_,rfl,.inr ⟨λN=>?_,_,rfl⟩⟩;have g:2 ^ (n * w)<=2 ^ i:=Nat.pow_le_pow_right (by decide) (by omega);unfold bt at d;rw [Nat.div_eq_of_lt (by omega)] at d;cases d
  ·have G:i=8 * xs.length:=by omega
   rw [if_neg (by simp only [decide_eq_true_eq];omega)];have u:v % 2 ^ i=v:=Nat.mod_eq_of_lt (by rw [G];exact m);rw [u];refine .inr ⟨_,rfl,.inl ⟨?_,rfl⟩⟩;have:=hz (by omega)
   rwa [u] at this
theorem aPx (lo:Int) (y:Int×S140) (a:y.1=lo) (L:List Int) (h:L.length<=4096):loop (λs:List Int×Int=>gK y L s.1 s.2) (L,0)=some (L.map λx=>IntKind.i64.wrap (x+lo)):=by
 have:=iY (b:=λs:List Int×Int=>gK y L s.1 s.2) (λk=>((L.take k).map (λx=>IntKind.i64.wrap (x+lo))++L.drop k,(k:Int))) (t:=L.map λx=>IntKind.i64.wrap (x+lo)) L.length (λk hk=>by
  have hx:=List.getElem?_eq_getElem hk;have hd:L.drop k=L[k]::L.drop (k+1):=List.drop_eq_getElem_cons hk;have hlen:((L.take k).map (λx=>IntKind.i64.wrap (x+lo))).length=k:=by simp;omega
  show gK y L ((L.take k).map (λx=>IntKind.i64.wrap (x+lo))++L.drop k) (k:Int)=_;unfold gK;rw [if_pos (by simp only [decide_eq_true_eq];omega),bB (n:=k) (x:=L[k]) rfl (by rw [List.getElem?_append_right (by omega),hlen,Nat.sub_self,hd];rfl)];simp only [bGi,lt_];rw [a,w64 (n:=(k:Int)+1) (by omega) (by omega),Int.toNat_natCast,uH hx,List.map_append,List.append_assoc,List.set_append_right _ _ (by omega),hlen,Nat.sub_self,hd];rfl) (by
  show gK y L _ (L.length:Int)=_;unfold gK;rw [if_neg (by simp),List.take_length,List.drop_length,List.append_nil])
 simpa using this
theorem aSl {n:Nat} (hn:n<=4096) {xs:List Int} (hB:Bs xs) (hl:xs.length<1099511627776):IsR (sZ ⟨xs⟩ (n:Int)) (pP n xs):=by
 unfold sZ pP;rcases (aHr hB).cases with ⟨lo,r,a,c⟩ | ⟨a,s,c⟩
 ·rw [a,c];obtain⟨f,hlo,p,hp,_⟩:=aQx hB a;have k:r.length<=xs.length:=by rw [hp];simp
  simp only [bGi,hT];rcases (IsR.cases (aKz r)) with ⟨wb,r',b,d⟩ | ⟨b,s,d⟩
  ·rw [b,d];obtain⟨l,g,h⟩:=aYo f b;have m:r'.length<=r.length:=by rw [h];simp
   obtain⟨w,rfl⟩:∃ w:Nat,wb=(w:Int):=⟨wb.toNat,by omega⟩;simp only [bGi,hT,lt_,Int.toNat_natCast];rw [w64 (n:=(w:Int)) (by omega) (by omega)];by_cases hw:w<=64
   ·have o:n * w<=4096 * 64:=Nat.mul_le_mul hn hw;rw [if_pos (by simp only [decide_eq_true_eq];omega), ← Int.natCast_mul,w64 (n:=((n * w:Nat):Int)) (by omega) (by omega),w64 (n:=((n * w:Nat):Int)+7) (by omega) (by omega),
     show (((n * w:Nat):Int)+7).tdiv 8=(((n * w+7) / 8:Nat):Int) from rfl,w64 (by omega) (by omega)]
    by_cases hlen:r'.length=(n * w+7) / 8
    ·rw [show ((r'.length:Int)==(((n * w+7) / 8:Nat):Int))=true by rw [hlen];simp,mI];simp only [bGi,hT];unfold oP;rw [bJ (by omega),lt_,w64 (by omega) (by omega),Int.toNat_natCast];obtain⟨y,i,j⟩:=aOe hn hw g hlen;rw [show (8:Int) * (r'.length:Int)=((8 * r'.length:Nat):Int) by omega,i];simp only [bGi];rcases j with ⟨e,rfl⟩ | ⟨e,s,rfl⟩
     ·rw [if_pos ⟨by omega,hlen,e⟩];simp only;unfold pL rZ;rw [aPx lo _ rfl _ (by rw [rM];exact hn)];rfl
     ·rw [if_neg (λq=>e q.2.2)];exact⟨s,rfl⟩
    ·rw [show ((r'.length:Int)==(((n * w+7) / 8:Nat):Int))=false by simp;omega,rQ,if_neg (λq=>hlen q.2.1)];exact⟨_,rfl⟩
   ·rw [if_neg (by simp only [decide_eq_true_eq];omega),rQ,if_neg (λq=>hw (by omega))];exact⟨_,rfl⟩
  ·rw [b,d];exact⟨s,rfl⟩
 ·rw [a,c];exact⟨s,rfl⟩
theorem aQs {xs:List Int} (hB:Bs xs) (hl:xs.length<1099511627776):IsR (tZ ⟨xs⟩) (aGv xs):=by
 unfold tZ aGv;rcases (IsR.cases (aKz xs)) with ⟨w,r,d,k⟩ | ⟨d,s,k⟩
 ·rw [d,k];obtain⟨hw,t,hr⟩:=aYo hB d;have x:r.length<=xs.length:=by rw [hr];simp
  simp only [bGi,hT];by_cases e:w<=3
  ·rw [show decide (w<=3)=true by simpa using e,mI,if_pos e];simp only [bGi,hT];rcases (aDa 4096 t).cases with ⟨n,r',c,o⟩ | ⟨c,s,o⟩
   ·rw [c,o];obtain⟨⟨z,A,B⟩,p,hp,_⟩:=tL c;have f:=aNy t c;have C:r'.length<=r.length:=by rw [hp];simp
    obtain⟨n,rfl⟩:∃ m:Nat,n=(m:Int):=⟨n.toNat,by omega⟩;simp only [bGi,hT,lt_,Int.toNat_natCast];rw [w64 (by omega) (by omega)];unfold aJ9;by_cases g:w=0
    ·rw [if_pos (by simpa using g),if_pos g];rcases (aWq (n:=n) (by omega) f).cases with ⟨l,v,a,b⟩ | ⟨a,s,b⟩
     ·rw [a,b];rfl
     ·rw [a,b];exact⟨s,rfl⟩
    rw [if_neg (by simpa using g),if_neg g];by_cases h:w=1
    ·rw [if_pos (by simpa using h),if_pos h];obtain⟨y,i,hm⟩:=aQd n (by omega) n 0 0 [] r' f (by omega) rfl;rw [show ((0:Nat):Int)=0 from rfl] at i;rw [i];revert hm;cases pD 0 n r' with
     | none=>rintro⟨s,rfl⟩;exact⟨s,rfl⟩
     | some q=>intro hm;subst hm;rfl
    rw [if_neg (by simpa using h),if_neg h];by_cases j:w=2
    ·rw [if_pos (by simpa using j),if_pos j];obtain⟨y,i,hm⟩:=aQ4 n (by omega) n n [] r' f (by simp) (Nat.le_refl _);rw [i];revert hm;cases pR n n r' with
     | none=>rintro⟨s,rfl⟩;exact⟨s,rfl⟩
     | some q=>intro hm;subst hm;rfl
    rw [if_neg (by simpa using j),if_neg j,if_pos (by simp;omega)];by_cases u:0<n
    ·rw [if_pos (by simp only [decide_eq_true_eq];omega),if_pos u];rcases (aSl (n:=n) (by omega) f (by omega)).cases with ⟨l,v,a,b⟩ | ⟨a,s,b⟩
     ·rw [a,b];rfl
     ·rw [a,b];exact⟨s,rfl⟩
    ·rw [if_neg (by simp only [decide_eq_true_eq];omega),if_neg u];rfl
   ·rw [c,o];exact⟨s,rfl⟩
  ·rw [show decide (w<=3)=false by simpa using e,rQ,if_neg e];exact⟨_,rfl⟩
 ·rw [d,k];exact⟨s,rfl⟩
def vO (xs:List Int):Option (List Int):=match aGv xs with
 | some (l,[])=>some l
 | _=>none
theorem xS {xs:List Int} (hB:Bs xs) (hl:xs.length<1099511627776):jF xs=some (match vO xs with | some l=>(l,0) | none=>([],3)):=by
 unfold jF qO qV vO;rcases (aQs hB hl).cases with ⟨l,r,a,c⟩ | ⟨a,s,c⟩
 ·rw [a,c];simp only [bGi,hT];cases r with
  | nil=>rfl
  | cons b r=>rfl
 ·rw [a,c];rfl
theorem aNx:∀ (l r:List Int),I64 l->aBz l.length (b0 l++r)=some (l,r)
 | [],r,_=>rfl
 | x::l,r,h=>by
  have e:b0 (x::l)++r=uv (zz x)++(b0 l++r):=by simp [b0]
  rw [e,List.length_cons,aBz,aNw (h x List.mem_cons_self)];simp only;rw [aNx l r λy a=>h y (List.mem_cons_of_mem _ a)]
theorem aSo (a x:Int) (h:i64 x):IntKind.i64.wrap (a+IntKind.i64.wrap (x - a))=x:=by unfold i64 at h;rw [IntWalk.i64_left,IntWalk.i64_left];unfold wrap64;omega
theorem aYp:∀ (l r:List Int) (a:Int),I64 l->pD a l.length (bD a l++r)=some (l,r)
 | [],r,a,_=>rfl
 | x::l,r,a,h=>by rw [bD,List.length_cons,pD,List.append_assoc,aNw (aCj _)];simp only;rw [aSo a x (h x List.mem_cons_self),aYp l r x λy b=>h y (List.mem_cons_of_mem _ b)]
theorem aYq:∀ (f:Nat) (l r:List Int),I64 l->l.length<=f->l.length<=4096->pR f l.length (bR 0 l++r)=some (l,r)
 | 0,l,r,_,hf,_=>by have:l=[]:=List.eq_nil_of_length_eq_zero (by omega);subst this;rfl
 | f+1,[],r,_,_,_=>rfl
 | f+1,x::l,r,h,hf,hl=>by
  obtain⟨m,tl,hm,a⟩:=aGf x l;subst hm;have hlen:(x::(List.replicate m x++tl)).length=m+1+tl.length:=by simp;omega
  rw [hlen] at hf hl ⊢;rw [pR,if_neg (by omega),aOs x tl a m 0,Nat.zero_add,List.append_assoc,List.append_assoc,aNw (h x List.mem_cons_self)];simp only;rw [aIx (by omega) _ (by omega)];simp only [Int.toNat_natCast];rw [show m+1+tl.length - (m+1)=tl.length by omega,aYq f tl r (λy b=>h y (List.mem_cons_of_mem _ (List.mem_append.2 (.inr b)))) (by omega) (by omega)];simp only [List.replicate_succ,List.cons_append]
theorem aXc (D:List Nat):toN (ofN D)=D:=by
 unfold toN ofN;rw [List.map_map];have:(Int.toNat ∘ λ(n:Nat)=>(n:Int))=id:=by funext n;simp
 rw [this,List.map_id]
theorem aWx {x lo:Int} (hm:i64 x) (hlo:i64 lo) (h:lo<=x):IntKind.i64.wrap (IntKind.i64.wrap (((x - lo).toNat:Nat):Int)+lo)=x:=by unfold i64 at hm hlo;rw [IntWalk.i64_left,IntWalk.i64_left];unfold wrap64;omega
theorem aZg {n w:Nat} {D:List Nat} (b:V w D<2 ^ (n * w)):V 8 (by_ ((n * w+7) / 8) (V w D))=V w D:=by refine bA6 _ _ (Nat.lt_of_lt_of_le b (Nat.pow_le_pow_right (by decide) ?_));generalize n * w=a;omega
theorem bC5 {x:Int} {l:List Int} (hl:(x::l).length<=4096) (hi:I64 (x::l)):pP (x::l).length (pk (x::l))=some (x::l,[]):=by
 have hlo:=aLz hi;have hle:=aLy (x:=x) (l:=l);have hw:wdt (ds (mn x l) (x::l))<=64:=by
  have:=aMj hi hlo hle (x::l).length
  rwa [List.take_of_length_le (by rw [vX];exact Nat.le_refl _)] at this
 have hL:=aSt (ds (mn x l) (x::l));have a:=aVu hL;rw [vX] at a;unfold pP;simp only [pk];generalize wdt (ds (mn x l) (x::l))=w at hw hL a ⊢;rw [List.append_assoc,aNw hlo];simp only [List.singleton_append,pB,Int.toNat_natCast];have c:=aZg a;rw [aXc,c,if_pos ⟨by omega,by rw [aEp,tY],a⟩];congr 2;refine aQk (by simp [rM]) λj b=>?_;rw [List.length_map,rM] at b;have hx:=List.getElem?_eq_getElem b;have hm:=hi.get hx;have d:=hle _ (List.mem_of_getElem? hx);rw [List.getElem?_map,aFh b,aX3 hL (aOz hx),hx];simp only [Option.map_some,Option.some.injEq];exact aWx hm hlo d
theorem aW0 {w:Nat} {l:List Int} (hw:w<4) (hl:l.length<=4096) (hi:I64 l):vO (asL w l)=some l:=by
 unfold vO aGv asL;simp only [pB];rw [if_pos (by omega),aIx (by omega) _ (by omega)];simp only [Int.toNat_natCast];have key:aJ9 (w:Int) l.length (body w l)=some (l,[]):=by
  unfold aJ9
  match w,hw with
  | 0,_ =>
   rw [if_pos (by rfl)];have:=aNx l [] hi
   rwa [List.append_nil] at this
  | 1,_ =>
   rw [if_neg (by decide),if_pos (by rfl)];have:=aYp l [] 0 hi
   rwa [List.append_nil] at this
  | 2,_ =>
   rw [if_neg (by decide),if_neg (by decide),if_pos (by rfl)];have:=aYq l.length l [] hi (Nat.le_refl _) hl
   rwa [List.append_nil] at this
  | 3,_ =>
   rw [if_neg (by decide),if_neg (by decide),if_neg (by decide)];cases l with
   | nil=>rfl
   | cons x l=>rw [if_pos (by simp)];exact bC5 hl hi
 rw [key]
theorem aEu (a b:List Int):jA a b=a\/jA a b=b:=by
 unfold jA;split
 ·exact .inr rfl
 ·exact .inl rfl
theorem aEt (a b:List Int):(jA a b).length<=a.length/\(jA a b).length<=b.length:=by unfold jA;split <;> omega
theorem aIj (l:List Int):∃ w<4,fY l=asL w l:=by
 unfold fY;rcases aEu (jA (jA (asL 0 l) (asL 1 l)) (asL 2 l)) (asL 3 l) with h | h
 ·rw [h];rcases aEu (jA (asL 0 l) (asL 1 l)) (asL 2 l) with h | h
  ·rw [h];rcases aEu (asL 0 l) (asL 1 l) with h | h
   ·exact⟨0,by decide,h⟩
   ·exact⟨1,by decide,h⟩
  ·exact⟨2,by decide,h⟩
 ·exact⟨3,by decide,h⟩
theorem aT3 (l:List Int) {w:Nat} (hw:w<4):(fY l).length<=(asL w l).length:=by
 have a:=aEt (jA (jA (asL 0 l) (asL 1 l)) (asL 2 l)) (asL 3 l);have b:=aEt (jA (asL 0 l) (asL 1 l)) (asL 2 l);have c:=aEt (asL 0 l) (asL 1 l);unfold fY
 match w,hw with
 | 0,_=>omega
 | 1,_=>omega
 | 2,_=>omega
 | 3,_=>omega
theorem aA7 {l:List Int} (hl:l.length<=4096) (hi:I64 l):vO (fY l)=some l:=by obtain⟨w,hw,e⟩:=aIj l;rw [e,aW0 hw hl hi]
theorem Bs.ofN {D:List Nat} (h:Lt 8 D):Bs (ofN D):=by intro b hb;obtain⟨d,hd,rfl⟩:=List.mem_map.1 hb;have:=h d hd;omega
theorem aXv:∀ (l:List Int),Bs (b0 l)
 | []=>Bs.nil
 | x::l=>by
  have e:b0 (x::l)=uv (zz x)++b0 l:=by simp [b0]
  rw [e];exact (Bs.uv _).app (aXv l)
theorem aXw:∀ (l:List Int) (a:Int),Bs (bD a l)
 | [],_=>Bs.nil
 | x::l,a=>(Bs.uv _).app (aXw l x)
theorem aSp:∀ (l:List Int) (k:Nat),Bs (bR k l)
 | [],_=>Bs.nil
 | [x],k=>(Bs.uv _).app (Bs.uv _)
 | x::y::l,k=>by
  unfold bR;split
  ·exact aSp (y::l) _
  ·exact ((Bs.uv _).app (Bs.uv _)).app (aSp (y::l) _)
theorem bA4 {l:List Int} (hi:I64 l):Bs (pk l):=by
 cases l with
 | nil=>exact Bs.nil
 | cons x l =>
  have hlo:=aLz hi;have hle:=aLy (x:=x) (l:=l);have hw:wdt (ds (mn x l) (x::l))<=64:=by
   have:=aMj hi hlo hle (x::l).length
   rwa [List.take_of_length_le (by rw [vX];exact Nat.le_refl _)] at this
  exact ((Bs.uv _).app (Bs.mk (by omega) Bs.nil)).app (Bs.ofN (bBb _ _))
theorem bA3 {w:Nat} {l:List Int} (hw:w<4) (hi:I64 l):Bs (asL w l):=by
 refine Bs.mk (by omega) ((Bs.uv _).app ?_)
 match w,hw with
 | 0,_=>exact aXv l
 | 1,_=>exact aXw l 0
 | 2,_=>exact aSp l 0
 | 3,_=>exact bA4 hi
theorem aZ4 {l:List Int} (hl:l.length<=4096) (hi:I64 l):(pk l).length<=11+(l.length * 64+7) / 8:=by
 cases l with
 | nil=>simp [pk]
 | cons x l =>
  have hlo:=aLz hi;have hle:=aLy (x:=x) (l:=l);have hw:wdt (ds (mn x l) (x::l))<=64:=by
   have:=aMj hi hlo hle (x::l).length
   rwa [List.take_of_length_le (by rw [vX];exact Nat.le_refl _)] at this
  have hz:=aO (xD hlo);have:=Nat.mul_le_mul_left (x::l).length hw;simp only [pk,List.length_append,List.length_singleton,aEp,tY];generalize (x::l).length=n at *;omega
theorem aZ3 {w:Nat} {l:List Int} (hw:w<4) (hl:l.length<=4096) (hi:I64 l):(asL w l).length<=1048576:=by
 have hu:=aO (n:=l.length) (by omega);unfold asL;simp only [List.length_cons,List.length_append]
 match w,hw with
 | 0,_=>have:=aLv hi;simp only [body];omega
 | 1,_=>have:=aPh l 0;simp only [body];omega
 | 2,_=>have:=aPi l 0 hi (by omega);simp only [body];omega
 | 3,_=>have:=aZ4 hl hi;simp only [body];omega
def aR5 (a:Nat):Bool:=a / 4503599627370496 % 2048==2047&&a % 4503599627370496 != 0
theorem aPk (d:Ieee.Datum):(d.order d==some .eq) = !d.isNaN:=by
 cases d with
 | number s m p=>simp [Ieee.Datum.order,Ieee.Datum.isNaN]
 | infinity s=>simp [Ieee.Datum.order,Ieee.Datum.isNaN]
 | nan s f=>simp [Ieee.Datum.order,Ieee.Datum.isNaN]
theorem aTw (a:Nat):feq a a = !aR5 a:=by
 unfold feq Ieee.Format.order;rw [aPk];congr 1;unfold Ieee.Format.read aR5;have b:FloatKind.f64.format.signWeight=9223372036854775808:=by decide
 have c:FloatKind.f64.format.binade=4503599627370496:=by decide
 have d:FloatKind.f64.format.infRung=9218868437227405312:=by decide
 simp only [b,c,d];rw [Bool.eq_iff_iff];simp only [Bool.and_eq_true,beq_iff_eq,bne_iff_ne,ne_eq];split
 ·simp [Ieee.Datum.isNaN];omega
 ·split
  ·simp [Ieee.Datum.isNaN];omega
  ·split
   ·simp [Ieee.Datum.isNaN];omega
   ·simp [Ieee.Datum.isNaN];omega
def jZ (a:Nat):Nat:=if aR5 a then 9221120237041090560 else a
theorem wQ (a:Nat):jZ (jZ a)=jZ a:=by
 unfold jZ;cases h:aR5 a with
 | true=>rw [if_pos rfl,if_pos (by decide)]
 | false=>simp [h]
theorem aM1 {a:Nat} (h:a<18446744073709551616):jZ a<18446744073709551616:=by unfold jZ;split <;> omega
theorem aN2 (a:Nat):aA4 a=some (jZ a:Int):=by
 unfold aA4 wY jZ aR5;have d:oC .u64 (a:Int) 52=((a / 4503599627370496:Nat):Int):=lG (k:=.u64) a 52 (by decide);have e:(((a / 4503599627370496:Nat):Int)).tmod 2048=((a / 4503599627370496 % 2048:Nat):Int):=rfl;have f:((a:Int)).tmod 4503599627370496=((a % 4503599627370496:Nat):Int):=rfl;simp only [lt_];rw [d,e,f];by_cases b:a / 4503599627370496 % 2048=2047
 ·by_cases c:a % 4503599627370496=0
  ·simp [b,c]
  ·simp [b,c];omega
 ·have:((a / 4503599627370496 % 2048:Nat):Int)≠2047:=by omega
  simp only [beq_iff_eq,this,if_false];simp [b]
theorem aJt (a:Nat):wF a=some (jZ a):=by unfold wF aBn jZ;simp only [bGi,aTw];cases aR5 a <;> rfl
theorem aHu (a:Nat):yL a=some (jZ a:Int):=by unfold yL;rw [aJt];rfl
theorem aTa (a:Int):aFn a=some (jZ a.toNat):=by unfold aFn;rw [aJt];rfl
theorem aUu (a b:Nat):aCu a b=some ((jZ a:Int)==(jZ b:Int)):=by unfold aCu;rw [aN2,aN2];rfl
def rl (l:List Nat):List Int:=l.map λx=>IntKind.i64.wrap (jZ x:Int)
theorem aMa (l:List Nat):I64 (rl l):=λx hx=>by obtain⟨y,_,rfl⟩:=List.mem_map.1 hx;exact aCj _
theorem aDw (l:List Nat):(rl l).length=l.length:=by simp [rl]
theorem aW1 {l:List Nat} {k x:Nat} (h:l[k]?=some x):rl (l.take (k+1))=rl (l.take k)++[IntKind.i64.wrap (jZ x:Int)]:=by unfold rl;rw [List.take_add_one,h,List.map_append];rfl
theorem aRk {l:List Nat} (h:l.length<=4096):uS l=some (fY (rl l)):=by
 unfold uS;have:=iY (b:=λs:List Int×Int=>jG l s.1 s.2) (λk=>(rl (l.take k),(k:Int))) (t:=rl l) l.length (λk hk=>by
  have hx:=List.getElem?_eq_getElem hk;have hlen:(rl (l.take k)).length=k:=by rw [aDw,List.length_take];omega
  show jG l (rl (l.take k)) (k:Int)=_;unfold jG;rw [if_pos (by simp only [decide_eq_true_eq];omega),bB rfl hx];simp only [bGi];rw [aHu];simp only [bGi,lt_];rw [bJ (by rw [hlen];simp only [List.length_singleton];omega),w64 (n:=(k:Int)+1) (by omega) (by omega), ← aW1 hx];rfl) (by
  show jG l (rl (l.take l.length)) (l.length:Int)=_;unfold jG;rw [if_neg (by simp),List.take_length])
 rw [show (([],0):List Int×Int)=(λk=>(rl (l.take k),(k:Int))) 0 by simp [rl],this];simp only [bGi];unfold qW tH;rw [aCf (by rw [aDw];exact h) (aMa l)];rfl
def ub (b:Int):Nat:=(IntKind.u64.wrap b).toNat
theorem aYz (b:Int):IntKind.u64.wrap b=(ub b:Int):=by unfold ub;rw [IntKind.wrap_u64];omega
def aGe (l:List Int):Option (List Nat):=if l.all (λb=>jZ (ub b)==ub b)=true then some (l.map ub) else none
theorem aI4 (l:List Int) (f:Int) (h:l.length<=4096):∀ (m k:Nat),k+m=l.length->(∀ b∈l.take k,jZ (ub b)=ub b) ->
  loop (λs:List Nat×Int=>dP (l,f) s.1 s.2) ((l.take k).map ub,(k:Int))=some (if (l.drop k).all (λb=>jZ (ub b)==ub b)=true then .inl (l.map ub) else .inr ([],3))
 | 0,k,hk,ha=>by
  rw [bE (t:=Sum.inl (l.map ub)) (by
   show dP (l,f) ((l.take k).map ub) (k:Int)=_;unfold dP;rw [if_neg (by simp only [decide_eq_true_eq];omega),show k=l.length by omega,List.take_length]),show k=l.length by omega,List.drop_length]
  rfl
 | m+1,k,hk,ha=>by
  have a:k<l.length:=by omega
  have hx:=List.getElem?_eq_getElem a;have hd:l.drop k=l[k]::l.drop (k+1):=List.drop_eq_getElem_cons a;rw [hd,List.all_cons];have hlen:((l.take k).map ub).length=k:=by simp;omega
  by_cases hc:jZ (ub l[k])=ub l[k]
  ·rw [show (jZ (ub l[k])==ub l[k])=true by simpa using hc,Bool.true_and,cD (s':=((l.take (k+1)).map ub,((k+1:Nat):Int))) (by
    show dP (l,f) ((l.take k).map ub) (k:Int)=_;unfold dP;rw [if_pos (by simp only [decide_eq_true_eq];omega),bB rfl hx];simp only [bGi,lt_];rw [aYz,aTa];simp only [bGi];rw [aHu];simp only [bGi,Int.toNat_natCast];rw [wQ,hc,if_neg (by simp),bJ (by rw [hlen];simp only [List.length_singleton];omega),w64 (by omega) (by omega),uH hx,List.map_append];rfl)]
   exact aI4 l f h m (k+1) (by omega) (λb hb=>by
    rw [uH hx] at hb;rcases List.mem_append.1 hb with q | q
    ·exact ha b q
    ·rw [List.mem_singleton.1 q];exact hc)
  ·rw [show (jZ (ub l[k])==ub l[k])=false by simpa using hc,Bool.false_and,if_neg (by simp)];refine bE ?_;show dP (l,f) ((l.take k).map ub) (k:Int)=_;unfold dP;rw [if_pos (by simp only [decide_eq_true_eq];omega),bB rfl hx];simp only [bGi,lt_];rw [aYz,aTa];simp only [bGi];rw [aHu];simp only [bGi,Int.toNat_natCast];rw [wQ,if_pos (by simp only [bne_iff_ne,ne_eq,Int.natCast_inj];exact hc)]
theorem aKb:∀ (n:Nat) (xs:List Int) {l r:List Int},aBz n xs=some (l,r)->l.length=n
 | 0,xs,l,r,h=>by cases h;rfl
 | n+1,xs,l,r,h=>by
  unfold aBz at h;split at h
  ·split at h
   ·rename_i he;cases h;simp [aKb n _ he]
   ·cases h
  ·cases h
theorem aUk:∀ (n:Nat) (a:Int) (xs:List Int) {l r:List Int},pD a n xs=some (l,r)->l.length=n
 | 0,a,xs,l,r,h=>by cases h;rfl
 | n+1,a,xs,l,r,h=>by
  unfold pD at h;split at h
  ·split at h
   ·rename_i he;cases h;simp [aUk n _ _ he]
   ·cases h
  ·cases h
theorem aUl:∀ (f n:Nat) (xs:List Int) {l r:List Int},pR f n xs=some (l,r)->l.length<=n
 | 0,n,xs,l,r,h=>by cases h;simp
 | f+1,n,xs,l,r,h=>by
  unfold pR at h;split at h
  ·cases h;simp
  ·split at h
   ·split at h
    ·rename_i hk;split at h
     ·rename_i he;cases h;have:=aUl f _ _ he;have:=(tL hk).1;simp only [List.length_append,List.length_replicate];omega
     ·cases h
    ·cases h
   ·cases h
theorem bAa (n:Nat) (xs:List Int) {l r:List Int} (h:pP n xs=some (l,r)):l.length=n:=by
 unfold pP at h;split at h
 ·split at h
  ·split at h
   ·cases h;rw [List.length_map,rM]
   ·cases h
  ·cases h
 ·cases h
theorem aR6 (w:Int) (n:Nat) (xs:List Int) {l r:List Int} (h:aJ9 w n xs=some (l,r)):l.length<=n:=by
 unfold aJ9 at h;split at h
 ·exact Nat.le_of_eq (aKb _ _ h)
 ·split at h
  ·exact Nat.le_of_eq (aUk _ _ _ h)
  ·split at h
   ·exact aUl _ _ _ h
   ·split at h
    ·exact Nat.le_of_eq (bAa _ _ h)
    ·cases h;simp
theorem aKa {xs l r:List Int} (h:aGv xs=some (l,r)):l.length<=4096:=by
 unfold aGv at h;split at h
 ·split at h
  ·split at h
   ·rename_i hu;have:=aR6 _ _ _ h;have:=(tL hu).1;omega
   ·cases h
  ·cases h
 ·cases h
theorem aKj {xs l:List Int} (h:vO xs=some l):l.length<=4096:=by
 unfold vO at h;split at h
 ·cases h;exact aKa (by assumption)
 ·cases h
theorem aJk {xs:List Int} (hB:Bs xs) (hl:xs.length<1099511627776):oN xs=some (match (vO xs).bind aGe with | some l=>(l,0) | none=>([],3)):=by
 unfold oN;rw [xS hB hl];simp only [bGi];cases h:vO xs with
 | none=>rfl
 | some l =>
  simp only [bGi];rw [if_neg (by simp)];have:=aI4 l 0 (aKj h) l.length 0 (by omega) (λb hb=>by simp at hb);simp only [List.take_zero,List.map_nil,List.drop_zero] at this;rw [show ((0:Nat):Int)=0 from rfl] at this;rw [this];unfold aGe;simp only [bGi];cases (l.all λb=>jZ (ub b)==ub b)
  ·rfl
  ·rfl
theorem aPs {l:List Nat} (h:∀ x∈l,x<18446744073709551616):aGe (rl l)=some (l.map jZ):=by
 have hu:∀ x∈l,ub (IntKind.i64.wrap (jZ x:Int))=jZ x:=by intro x hx;have:=aM1 (h x hx);unfold ub;rw [IntKind.wrap_u64,IntWalk.i64_left];unfold wrap64;omega
 unfold aGe rl;rw [if_pos]
 ·rw [List.map_map];congr 1;exact List.map_congr_left λx hx=>hu x hx
 ·rw [List.all_eq_true];intro b hb;obtain⟨x,hx,rfl⟩:=List.mem_map.1 hb;rw [hu x hx,wQ];simp
def IsT (B acc:List Int) (t:List Int×Int×List Int) (p:Option (List Int×List Int)):Prop:=match p with
 | some (l,r)=>∃ q:Nat,t=(B,(q:Int),acc++l)/\q<=B.length/\B.drop q=r
 | none=>∃ a,t=(B,-1,a)
theorem IsT.cons {B acc:List Int} {t:List Int×Int×List Int} {p:Option (List Int×List Int)} (x:List Int) (h:IsT B (acc++x) t p) :
  IsT B acc t (match (generalizing:=false) p with | some (l,r)=>some (x++l,r) | none=>none):=by
 cases p with
 | none=>exact h
 | some y =>
  obtain⟨q,a,b,c⟩:=h;exact⟨q,by rw [a,List.append_assoc],b,c⟩
section
variable {B:List Int} (hBs:Bs B) (hB:B.length<1099511627776)
include hBs hB
end
section
variable {B:List Int} (hBs:Bs B) (hB:B.length<1099511627776)
include hBs hB
end
section
variable {B xs:List Int} {p:Nat} (hp:p<=B.length) (hx:B.drop p=xs) (hBs:Bs xs) (hB:B.length<1099511627776) (hs:xs.length<=32768)
include hp hx hBs hB hs
end
def aI5 (acc:List (List UInt8)) (t:List UInt8):Bool:=match acc[acc.length - 1]? with
 | some y=>Op.bytesLess y t
 | none=>true
def aD8 (acc:List (List UInt8)):Nat->List Int->Option (List (List UInt8)×List Int)
 | 0,xs=>some (acc,xs)
 | n+1,xs=>match pT 32 xs with
  | some (t,r)=>if aI5 acc t=true then aD8 (acc++[t]) n r else none
  | none=>none
def okI (n:Nat) (ix:List Int):Bool:=ix.all λi=>decide (0<=i/\i<(n:Int))
def usd (n:Nat) (ix:List Int):List Bool:=(List.range n).map λ(j:Nat)=>decide ((j:Int)∈ix)
def tx (ds:List (List UInt8)) (ix:List Int):List (List UInt8):=ix.map λi=>ds.getD i.toNat []
def aIw (xs:List Int):Option (List (List UInt8)×List Int):=match pU 4096 xs with
 | some (n,r)=>match aD8 [] n.toNat r with
  | some (ds,r')=>match aGv r' with
   | some (ix,r'')=>if okI ds.length ix=true/\false∉usd ds.length ix then some (tx ds ix,r'') else none
   | none=>none
  | none=>none
 | none=>none
theorem aQy {most:Int} {xs r:List Int} {t:List UInt8} (hB:Bs xs) (h:pT most xs=some (t,r)):Bs r/\r.length<=xs.length:=by
 unfold pT at h;split at h
 ·rename_i n r' he;obtain⟨_,p,hp,_⟩:=tL he;have hb:=aNy hB he;split at h
  ·cases h;refine⟨hb.drop _,?_⟩;rw [hp];simp;omega
  ·cases h
 ·cases h
theorem aNv:∀ (n:Nat) (acc:List (List UInt8)) (xs:List Int) {ds:List (List UInt8)} {r:List Int},Bs xs->aD8 acc n xs=some (ds,r)->Bs r/\r.length<=xs.length/\ds.length=acc.length+n
 | 0,acc,xs,ds,r,hB,h=>by cases h;exact⟨hB,Nat.le_refl _,rfl⟩
 | n+1,acc,xs,ds,r,hB,h=>by
  unfold aD8 at h;split at h
  ·rename_i t r' he;obtain⟨a,d⟩:=aQy hB he;split at h
   ·obtain⟨b,e,c⟩:=aNv n _ _ a h;refine⟨b,by omega,?_⟩;rw [c,List.length_append,List.length_singleton];omega
   ·cases h
  ·cases h
theorem aM7 (l:List Bool) (b:Bool) (h:l.length<1099511627776):gR l b=some (decide (b∈l)):=by
 unfold gR lO;have key:∀ (m k:Nat),k+m=l.length->∃ y,loop (λs:Int=>dV l b s) (k:Int)=some y/\if b∈l.drop k then ∃ j:Nat,y=.inr (j:Int) else y=.inl ():=by
  intro m
  induction m with
  | zero =>
   intro k hk;refine⟨.inl (),bE ?_,?_⟩
   ·unfold dV;rw [if_neg (by simp only [decide_eq_true_eq];omega)]
   ·rw [List.drop_of_length_le (by omega),if_neg (by simp)]
  | succ m ih =>
   intro k hk;have c:k<l.length:=by omega
   have hx:=List.getElem?_eq_getElem c;have hd:l.drop k=l[k]::l.drop (k+1):=List.drop_eq_getElem_cons c;rw [hd];by_cases hb:b=l[k]
   ·refine⟨.inr (k:Int),bE ?_,?_⟩
    ·unfold dV;rw [if_pos (by simp only [decide_eq_true_eq];omega),bB rfl hx];simp only [bGi];rw [if_pos (by simpa using hb)]
    ·rw [if_pos (by rw [hb];exact List.mem_cons_self)];exact⟨k,rfl⟩
   ·obtain⟨y,a,hm⟩:=ih (k+1) (by omega);refine⟨y,(cD (s':=((k+1:Nat):Int)) ?_).trans a,?_⟩
    ·unfold dV;rw [if_pos (by simp only [decide_eq_true_eq];omega),bB rfl hx];simp only [bGi];rw [if_neg (by simpa using hb),lt_,w64 (by omega) (by omega)];rfl
    ·have he:(b∈l[k]::l.drop (k+1))=(b∈l.drop (k+1)):=propext ⟨λh=>(List.mem_cons.1 h).resolve_left hb,λh=>List.mem_cons_of_mem _ h⟩;simpa only [he] using hm
 obtain⟨y,a,hm⟩:=key l.length 0 (by omega);rw [show ((0:Nat):Int)=0 from rfl] at a;rw [a,List.drop_zero] at *;by_cases hb:b∈l
 ·rw [if_pos hb] at hm;obtain⟨j,rfl⟩:=hm;simp only [bGi];rw [show decide (0<=(j:Int))=true by simp,show decide (b∈l)=true by simpa using hb]
 ·rw [if_neg hb] at hm;subst hm;rw [show decide (b∈l)=false by simpa using hb];rfl
theorem aUf (n:Nat) (ix:List Int) (k:Nat) {x:Int} (h:ix[k]?=some x):okI n (ix.take (k+1))=(okI n (ix.take k)&&decide (0<=x/\x<(n:Int))):=by unfold okI;rw [uH h,List.all_append];simp
theorem aUg {n:Nat} {ix:List Int} (h:okI n ix=true) (k:Nat):okI n (ix.take k)=true:=by unfold okI at *;rw [List.all_eq_true] at *;exact λx hx=>h x (List.mem_of_mem_take hx)
theorem aVc (n:Nat) (ix:List Int) {x:Int} (hx:0<=x/\x<(n:Int)):usd n (ix++[x])=(usd n ix).set x.toNat true:=by
 apply List.ext_getElem? λj=>?_;unfold usd;rw [List.getElem?_set];simp only [List.getElem?_map,List.length_map,List.length_range];rcases Nat.lt_or_ge j n with a | a
 ·rw [List.getElem?_range a];by_cases e:x.toNat=j
  ·rw [if_pos e,if_pos (by omega)];simp;right;omega
  ·rw [if_neg e];have:¬ (j:Int)=x:=by omega
   simp [this]
 ·rw [List.getElem?_eq_none (by simpa using a)];rw [if_neg (by omega)];rfl
theorem aXe (n:Nat):usd n []=List.replicate n false:=by unfold usd;rw [List.eq_replicate_iff];refine⟨by simp,λb hb=>?_⟩;obtain⟨q,_,rfl⟩:=List.mem_map.1 hb;simp
theorem aJc (n:Nat) (ix:List Int):(usd n ix).length=n:=by simp [usd]
theorem bAp (n:Nat) (ix:List Int) {x:Int} (hx:0<=x/\x<(n:Int)):∃ b,at_ (usd n ix) x=some b:=by
 have:x.toNat<(usd n ix).length:=by rw [aJc];omega
 exact⟨_,bB (n:=x.toNat) (by omega) (List.getElem?_eq_getElem this)⟩
theorem bBf (ds:List (List UInt8)) {x:Int} (hx:0<=x/\x<(ds.length:Int)):at_ ds x=some (ds.getD x.toNat []):=by
 have:x.toNat<ds.length:=by omega
 refine bB (n:=x.toNat) (by omega) ?_;rw [List.getD_eq_getElem?_getD,List.getElem?_eq_getElem this];rfl
theorem aXd (ds:List (List UInt8)) (ix:List Int) (x:Int):tx ds (ix++[x])=tx ds ix++[ds.getD x.toNat []]:=by unfold tx;rw [List.map_append];rfl
theorem aSk (ds:List (List UInt8)) (ix:List Int):(tx ds ix).length=ix.length:=by simp [tx]
theorem aJu (ds:List (List UInt8)) (ix:List Int) (Y:S140) (xs:List Int) (hl:ix.length<=4096):∀ (m k:Nat),k+m=ix.length->okI ds.length (ix.take k)=true ->
  ∃ y,loop (λs:List Int×List (List UInt8)×List Bool×Int=>cA ds (ix,Y) s.1 s.2.1 s.2.2.1 s.2.2.2) (xs,tx ds (ix.take k),usd ds.length (ix.take k),(k:Int))=some y /\
   if okI ds.length ix=true then y=.inl (xs,tx ds ix,usd ds.length ix) else ∃ s,y=.inr (.inr s)
 | 0,k,hk,ha=>by
  have g:k=ix.length:=by omega
  subst g;rw [List.take_length] at ha ⊢;refine⟨.inl (xs,tx ds ix,usd ds.length ix),bE ?_,by rw [if_pos ha]⟩;show cA ds (ix,Y) xs (tx ds ix) (usd ds.length ix) (ix.length:Int)=_;unfold cA;rw [if_neg (by simp)]
 | m+1,k,hk,ha=>by
  have i:k<ix.length:=by omega
  have hx:=List.getElem?_eq_getElem i;have d:=aUf ds.length ix k hx;have e:∀ s,cA ds (ix,Y) xs (tx ds (ix.take k)) (usd ds.length (ix.take k)) (k:Int)=some (.inr (.inr (.inr s)))->¬ (0<=ix[k]/\ix[k]<(ds.length:Int)) ->
    ∃ y,loop (λs:List Int×List (List UInt8)×List Bool×Int=>cA ds (ix,Y) s.1 s.2.1 s.2.2.1 s.2.2.2) (xs,tx ds (ix.take k),usd ds.length (ix.take k),(k:Int))=some y /\
   if okI ds.length ix=true then y=.inl (xs,tx ds ix,usd ds.length ix) else ∃ s,y=.inr (.inr s):=by
   intro s hs hn;refine⟨_,bE hs,?_⟩;rw [if_neg]
   ·exact⟨_,rfl⟩
   ·intro h;have:=aUg h (k+1);rw [d] at this;simp only [Bool.and_eq_true,decide_eq_true_eq] at this;exact hn this.2
  by_cases h0:0<=ix[k]
  ·by_cases a:ix[k]<(ds.length:Int)
   ·obtain⟨b,hb⟩:=bAp ds.length (ix.take k) ⟨h0,a⟩;obtain⟨y,f,hm⟩:=aJu ds ix Y xs hl m (k+1) (by omega) (by rw [d,ha];simp [h0,a]);rw [uH hx,aXd,aVc _ _ ⟨h0,a⟩] at f;refine⟨y,(cD (s':=(xs,tx ds (ix.take k)++[ds.getD ix[k].toNat []],(usd ds.length (ix.take k)).set ix[k].toNat true,((k+1:Nat):Int))) ?_).trans f,hm⟩;show cA ds (ix,Y) xs (tx ds (ix.take k)) (usd ds.length (ix.take k)) (k:Int)=_;unfold cA;rw [if_pos (by simp only [decide_eq_true_eq];omega),bB rfl hx];simp only [bGi];rw [if_pos (by simpa using h0),show decide (ix[k]<(ds.length:Int))=true by simpa using a,mI];simp only [bGi,hT];unfold jN;rw [hb,bBf _ ⟨h0,a⟩];simp only [bGi];rw [bJ (by rw [aSk];simp;omega),lt_,w64 (by omega) (by omega)];rfl
   ·refine e (⟨xs⟩,tx ds (ix.take k)) ?_ (λc=>a c.2);unfold cA;rw [if_pos (by simp only [decide_eq_true_eq];omega),bB rfl hx];simp only [bGi];rw [if_pos (by simpa using h0),show decide (ix[k]<(ds.length:Int))=false by simpa using a,rQ];rfl
  ·refine e (⟨xs⟩,tx ds (ix.take k)) ?_ (λc=>h0 c.1);unfold cA;rw [if_pos (by simp only [decide_eq_true_eq];omega),bB rfl hx];simp only [bGi];rw [if_neg (by simpa using h0),rQ];rfl
theorem aHw (Y:Int×S140) (n:Nat) (a:Y.1=(n:Int)) (hn:n<=4096):∀ (m k:Nat) (acc:List (List UInt8)) (xs:List Int),Bs xs->xs.length<1099511627776->k+m=n->acc.length=k ->
  ∃ y,loop (λs:List Int×List (List UInt8)×Int=>dA [] Y s.1 s.2.1 s.2.2) (xs,acc,(k:Int))=some y/\match aD8 acc m xs with
   | some (l,r)=>y=.inl (r,l)
   | none=>∃ s,y=.inr (.inr s)
 | 0,k,acc,xs,hB,hl,hk,ha=>by refine⟨.inl (xs,acc),bE ?_,rfl⟩;show dA [] Y xs acc (k:Int)=_;unfold dA;rw [a,if_neg (by simp only [decide_eq_true_eq];omega)]
 | m+1,k,acc,xs,hB,hl,hk,ha=>by
  unfold aD8;rcases (aLb 32 hB (by omega)).cases with ⟨t,r,b,c⟩ | ⟨b,s,c⟩
  ·rw [b];obtain⟨e,g⟩:=aQy hB b;have d:∀ (z:S140⊕S140),aJ (⟨r⟩:S140) (aI5 acc t)=some z->dA [] Y xs acc (k:Int)=(fN z (λy=>gY acc (k:Int) (t,⟨r⟩) y.f0) (λy=>some (.inr (.inr (.inr (y,[])))))):=by
    intro z hz;unfold dA;rw [a,if_pos (by simp only [decide_eq_true_eq];omega),c];simp only [bGi,hT,lt_];unfold aI5 at hz;by_cases h0:acc.length=0
    ·rw [List.getElem?_eq_none (by omega)] at hz;rw [if_pos (by simpa using h0),hz];rfl
    ·have hx:=List.getElem?_eq_getElem (l:=acc) (i:=acc.length - 1) (by omega);rw [hx] at hz;rw [if_neg (by simpa using h0),w64 (by omega) (by omega),bB (n:=acc.length - 1) (by omega) hx];simp only [bGi];rw [hz];rfl
   by_cases hr:aI5 acc t=true
   ·obtain⟨y,f,hm⟩:=aHw Y n a hn m (k+1) (acc++[t]) r e (by omega) (by omega) (by simp [ha]);simp only [hr,if_true];refine⟨y,(cD (s':=(r,acc++[t],((k+1:Nat):Int))) ?_).trans f,hm⟩;refine (d _ (by rw [hr,mI])).trans ?_;rw [hT];unfold gY;rw [bJ (by simp;omega),lt_,mE (by omega) (by omega)];rfl
   ·rw [Bool.not_eq_true] at hr;simp only [hr,Bool.false_eq_true,if_false];exact⟨_,bE ((d _ (by rw [hr,rQ])).trans rfl),_,rfl⟩
  ·rw [b];refine⟨_,bE (t:=Sum.inr (.inr (s,[]))) ?_,_,rfl⟩;show dA [] Y xs acc (k:Int)=_;unfold dA;rw [a,if_pos (by simp only [decide_eq_true_eq];omega),c];rfl
theorem aVa {xs:List Int} (hB:Bs xs) (hl:xs.length<1099511627776):match aIw xs with
  | some (T,r)=>jT ⟨xs⟩ []=some (.inl (⟨r⟩,T))
  | none=>∃ s,jT ⟨xs⟩ []=some (.inr s):=by
 unfold jT aIw;rcases (aDa 4096 hB).cases with ⟨n,r,b,f⟩ | ⟨b,s,f⟩
 ·rw [b,f];obtain⟨⟨o,q,t⟩,p,hp,_⟩:=tL b;have h:=aNy hB b;have u:r.length<=xs.length:=by rw [hp];simp
  obtain⟨n,rfl⟩:∃ m:Nat,n=(m:Int):=⟨n.toNat,by omega⟩;simp only [bGi,hT,Int.toNat_natCast];obtain⟨y,a,hm⟩:=aHw ((n:Int),⟨r⟩) n rfl (by omega) n 0 [] r h (by omega) (by omega) rfl;rw [show ((0:Nat):Int)=0 from rfl] at a;rw [a];simp only [bGi];cases hd:aD8 [] n r with
  | none =>
   rw [hd] at hm;obtain⟨s,rfl⟩:=hm;exact⟨s,rfl⟩
  | some z =>
   obtain⟨ds,r'⟩:=z;rw [hd] at hm;simp only at hm;subst hm;obtain⟨j,v,k⟩:=aNv n _ _ h hd;have w:ds.length=n:=by simpa using k
   simp only;unfold kV mK;rw [bJ (by omega)];rcases (aQs j (by omega)).cases with ⟨ix,i,d,g⟩ | ⟨d,s,g⟩
   ·rw [d,g];have l:=aKa d;simp only [bGi,hT];obtain⟨y,a,hm⟩:=aJu ds ix ⟨i⟩ i l ix.length 0 (by omega) rfl;rw [List.take_zero,aXe,show ((0:Nat):Int)=0 from rfl] at a;rw [Int.toNat_natCast];have e0:tx ds []=[]:=rfl;rw [e0] at a;rw [a];simp only [bGi];by_cases e:okI ds.length ix=true
    ·rw [if_pos e] at hm;subst hm;simp only;unfold kU mL;rw [aM7 _ _ (by rw [aJc];omega)];simp only [bGi];by_cases hu:false∈usd ds.length ix
     ·rw [show decide (false∈usd ds.length ix)=true by simpa using hu,Bool.not_true,rQ,if_neg (λc=>c.2 hu)];exact⟨_,rfl⟩
     ·rw [show decide (false∈usd ds.length ix)=false by simpa using hu,Bool.not_false,mI,if_pos ⟨e,hu⟩];rfl
    ·rw [if_neg e] at hm;obtain⟨s,rfl⟩:=hm;rw [if_neg (λc=>e c.1)];exact⟨s,rfl⟩
   ·rw [d,g];exact⟨_,rfl⟩
 ·rw [b,f];exact⟨_,rfl⟩
def aKk (xs:List Int):Option (List (List UInt8)):=match aIw xs with
 | some (T,[])=>some T
 | _=>none
theorem aJl {xs:List Int} (hB:Bs xs) (hl:xs.length<1099511627776):oO xs=some (match aKk xs with | some T=>(T,0) | none=>([],3)):=by
 unfold oO pH aKk;have h:=aVa hB hl;cases hp:aIw xs with
 | none =>
  rw [hp] at h;obtain⟨s,hs⟩:=h;rw [hs];rfl
 | some z =>
  obtain⟨T,r⟩:=z;rw [hp] at h;simp only at h;rw [h];cases r with
  | nil=>rfl
  | cons b r =>
   simp only [bGi,hT];rw [show (((b::r).length:Int)==0)=false by simp;omega];rfl
def aN5 (xs:List Int):Option (List Nat):=(vO xs).bind aGe
structure SWO {α:Type} (lt:α->α->Bool):Prop where
 irr:∀ a,lt a a=false
 trans:∀ a b c,lt a b=true->lt b c=true->lt a c=true
 neg:∀ a b c,lt a c=true->lt a b=true\/lt b c=true
section
variable {α:Type} {lt:α->α->Bool}
def ins (lt:α->α->Bool) (x:α):List α->List α
 | []=>[x]
 | y::l=>if lt x y then x::y::l else y::ins lt x l
def sortL (lt:α->α->Bool) (l:List α):List α:=l.foldl (λacc x=>ins lt x acc) []
def Srt (lt:α->α->Bool) (l:List α):Prop:=l.Pairwise λa b=>lt b a=false
theorem aIi (x:α):∀ l:List α,(ins lt x l).length=l.length+1
 | []=>rfl
 | y::l=>by unfold ins;split <;> simp [aIi x l]
theorem aFb:∀ (l acc:List α),(l.foldl (λacc x=>ins lt x acc) acc).length=acc.length+l.length
 | [],acc=>by simp
 | x::l,acc=>by rw [List.foldl_cons,aFb l,aIi];simp;omega
theorem aFs (l:List α):(sortL lt l).length=l.length:=by unfold sortL;rw [aFb];simp
theorem aQ7 {l:List α} (h:Srt lt l) {i j:Nat} {x y:α} (a:i<j) (hx:l[i]?=some x) (b:l[j]?=some y):lt y x=false:=by obtain⟨c,rfl⟩:=List.getElem?_eq_some_iff.1 hx;obtain⟨d,rfl⟩:=List.getElem?_eq_some_iff.1 b;exact List.pairwise_iff_getElem.1 h i j c d a
end
def bef (x y:S61):Bool:=if x.f3==y.f3 then (if x.f2==y.f2 then decide (x.f0<y.f0) else decide (x.f2<y.f2)) else Op.bytesLess x.f3 y.f3
def Anc (i j:Nat):Prop:=∃ m,j / 2 ^ m=i
theorem Anc.refl (i:Nat):Anc i i:=⟨0,by simp⟩
theorem Anc.up {i j:Nat} (h:Anc i j):Anc (i / 2) j:=by obtain⟨m,rfl⟩:=h;exact⟨m+1,by rw [Nat.pow_succ,Nat.div_div_eq_div_mul]⟩
theorem Anc.trans {i j k:Nat} (h:Anc i j) (a:Anc j k):Anc i k:=by obtain⟨m,rfl⟩:=h;obtain⟨b,rfl⟩:=a;exact⟨b+m,by rw [Nat.pow_add,Nat.div_div_eq_div_mul]⟩
theorem Anc.le {i j:Nat} (h:Anc i j):i<=j:=by obtain⟨m,rfl⟩:=h;exact Nat.div_le_self _ _
theorem Anc.half {i j:Nat} (h:Anc i j) (hn:i≠j):Anc i (j / 2):=by
 obtain⟨m,rfl⟩:=h;cases m with
 | zero=>simp at hn
 | succ m=>exact⟨m,by rw [Nat.pow_succ,Nat.mul_comm,Nat.div_div_eq_div_mul]⟩
theorem Anc.one:∀ (j:Nat),1<=j->Anc 1 j:=by
 intro j
 induction j using Nat.strongRecOn with
 | _ j ih =>
  intro a;rcases Nat.lt_or_ge j 2 with h | h
  ·rw [show j=1 by omega];exact Anc.refl 1
  ·exact (ih (j / 2) (by omega) (by omega)).trans ⟨1,rfl⟩
theorem Anc.apart {i j:Nat} (hi:1<=i) (h:Anc (2 * i) j) (c:Anc (2 * i+1) j):False:=by
 obtain⟨m,hm⟩:=h;obtain⟨a,b⟩:=c;rcases Nat.lt_trichotomy m a with e | rfl | e
 ·obtain⟨d,rfl⟩:∃ d,a=m+(d+1):=⟨a - m - 1,by omega⟩;rw [Nat.pow_add, ← Nat.div_div_eq_div_mul,hm,Nat.pow_succ,Nat.mul_comm (2 ^ d), ← Nat.div_div_eq_div_mul] at b;have:=Nat.div_le_self (2 * i / 2) (2 ^ d);omega
 ·omega
 ·obtain⟨d,rfl⟩:∃ d,m=a+(d+1):=⟨m - a - 1,by omega⟩;rw [Nat.pow_add, ← Nat.div_div_eq_div_mul,b,Nat.pow_succ,Nat.mul_comm (2 ^ d), ← Nat.div_div_eq_div_mul] at hm;have:=Nat.div_le_self ((2 * i+1) / 2) (2 ^ d);omega
structure STO (k:Nat) (lt:Nat->Nat->Bool):Prop where
 irr:∀ a,lt a a=false
 trans:∀ a b c,lt a b=true->lt b c=true->lt a c=true
 tot:∀ a b,a<k->b<k->a≠b->lt a b=true\/lt b a=true
def Inn (lt:Nat->Nat->Bool) (W node:Nat->Nat) (i:Nat):Prop:=lt (W i) (node i)=true/\((W i=W (2 * i)/\node i=W (2 * i+1))\/(W i=W (2 * i+1)/\node i=W (2 * i)))
structure Tour (k:Nat) (lt:Nat->Nat->Bool) (W node:Nat->Nat):Prop where
 leaf:∀ i,i<k->W (k+i)=i
 inner:∀ i,1<=i->i<k->Inn lt W node i
section
variable {k:Nat} {lt:Nat->Nat->Bool} {W node:Nat->Nat}
theorem below (leaf:∀ i,i<k->W (k+i)=i) (i0:Nat) (h0:1<=i0) (inner:∀ i,i0<=i->i<k->(W i=W (2 * i)\/W i=W (2 * i+1))) :
  ∀ (n i:Nat),i0<=i->i<2 * k->2 * k - i=n->W i<k/\Anc i (W i+k):=by
 intro n
 induction n using Nat.strongRecOn with
 | _ n ih =>
  intro i hi hk hn;rcases Nat.lt_or_ge i k with h | h
  ·rcases inner i hi h with a | a
   ·obtain⟨b,c⟩:=ih (2 * k - 2 * i) (by omega) (2 * i) (by omega) (by omega) rfl;rw [a];exact⟨b,by have:=c.up;rwa [show 2 * i / 2=i by omega] at this⟩
   ·obtain⟨b,c⟩:=ih (2 * k - (2 * i+1)) (by omega) (2 * i+1) (by omega) (by omega) rfl;rw [a];exact⟨b,by have:=c.up;rwa [show (2 * i+1) / 2=i by omega] at this⟩
  ·have:=leaf (i - k) (by omega);rw [show k+(i - k)=i by omega] at this;rw [this];exact⟨by omega,by rw [show i - k+k=i by omega];exact Anc.refl i⟩
theorem Inn.or {i:Nat} (h:Inn lt W node i):W i=W (2 * i)\/W i=W (2 * i+1):=h.2.elim (λh=>.inl h.1) λh=>.inr h.1
theorem Tour.below (h:Tour k lt W node) {i:Nat} (hi:1<=i) (hk:i<2 * k):W i<k/\Anc i (W i+k) :=
 P.below h.leaf 1 (Nat.le_refl _) (λi a b=>(h.inner i a b).or) _ i hi hk rfl
theorem Tour.min (h:Tour k lt W node) (o:STO k lt):∀ (n i:Nat),1<=i->i<2 * k->2 * k - i=n->∀ j,j<k->Anc i (j+k)->j=W i\/lt (W i) j=true:=by
 intro n
 induction n using Nat.strongRecOn with
 | _ n ih =>
  intro i hi hk hn j p e;rcases Nat.lt_or_ge i k with f | f
  ·have q:=e.half (by omega);obtain⟨m,hm⟩:=q;have key:∀ c,(c=2 * i\/c=2 * i+1)->Anc c (j+k)->j=W i\/lt (W i) j=true:=by
    intro c hc r;obtain⟨g,l⟩:=h.inner i hi f;have:=ih (2 * k - c) (by omega) c (by omega) (by omega) rfl j p r;have a:W i=W c\/lt (W i) (W c)=true:=by
     rcases hc with rfl | rfl
     ·rcases l with ⟨b,d⟩ | ⟨b,d⟩
      ·exact .inl b
      ·exact .inr (d▸g)
     ·rcases l with ⟨b,d⟩ | ⟨b,d⟩
      ·exact .inr (d▸g)
      ·exact .inl b
    rcases a with a | a
    ·rw [a];exact this
    ·rcases this with rfl | this
     ·exact .inr a
     ·exact .inr (o.trans _ _ _ a this)
   obtain⟨m,hm⟩:=e;cases m with
   | zero=>simp at hm;omega
   | succ m =>
    rw [Nat.pow_succ, ← Nat.div_div_eq_div_mul] at hm;exact key _ (by omega) ⟨m,rfl⟩
  ·have:=h.leaf (i - k) (by omega);rw [show k+(i - k)=i by omega] at this;obtain⟨m,hm⟩:=e;cases m with
   | zero=>simp at hm;exact .inl (by omega)
   | succ m =>
    rw [Nat.pow_succ,Nat.mul_comm, ← Nat.div_div_eq_div_mul] at hm;have:=Nat.div_le_self ((j+k) / 2) (2 ^ m);omega
theorem Tour.first (h:Tour k lt W node) (a:STO k lt) (hk:1<=k) {j:Nat} (b:j<k) (hn:j≠W 1):lt (W 1) j=true :=
 (h.min a _ 1 (Nat.le_refl _) (by omega) rfl j b (Anc.one _ (by omega))).resolve_left hn
theorem Tour.path (h:Tour k lt W node) (hk:1<=k):∀ (i:Nat),1<=i->Anc i (W 1+k)->W i=W 1:=by
 intro i
 induction i using Nat.strongRecOn with
 | _ i ih =>
  intro hi b;have hw:=(h.below (i:=1) (by omega) (by omega)).1;have e:i<2 * k:=by have:=b.le;omega
  rcases Nat.lt_or_ge i 2 with d | d
  ·rw [show i=1 by omega]
  ·have hp:=ih (i / 2) (by omega) (by omega) b.up;rcases (h.inner (i / 2) (by omega) (by omega)).or with a | a
   ·have hb:=h.below (i:=2 * (i / 2)) (by omega) (by omega);rw [← a,hp] at hb;rcases Nat.mod_two_eq_zero_or_one i with c | c
    ·rw [show i=2 * (i / 2) by omega, ← a,hp]
    ·exact (Anc.apart (i:=i / 2) (by omega) hb.2 (by rw [show 2 * (i / 2)+1=i by omega];exact b)).elim
   ·have hb:=h.below (i:=2 * (i / 2)+1) (by omega) (by omega);rw [← a,hp] at hb;rcases Nat.mod_two_eq_zero_or_one i with c | c
    ·exact (Anc.apart (i:=i / 2) (by omega) (by rw [show 2 * (i / 2)=i by omega];exact b) hb.2).elim
    ·rw [show i=2 * (i / 2)+1 by omega, ← a,hp]
structure Way (k:Nat) (lt lt':Nat->Nat->Bool) (W node:Nat->Nat) (c:Nat) (W' node':Nat->Nat):Prop where
 c1:1<=c
 anc:Anc c (W 1+k)
 leaf:∀ i,i<k->W' (k+i)=i
 inner:∀ i,1<=i->i<k->¬ (Anc i c/\i≠c)->Inn lt' W' node' i
 todo:∀ i,Anc i c->i≠c->node' i=node i
 rest:∀ j,1<=j->¬ Anc j (W 1+k)->W' j=W j
 rng:W' c<k/\Anc c (W' c+k)
theorem Way.start {c:Nat->Nat->Bool} (h:Tour k lt W node) (hk:1<=k) (hl:∀ a b,a≠W 1->b≠W 1->c a b=lt a b):Way k lt c W node (W 1+k) W node:=by
 have hw:=(h.below (i:=1) (by omega) (by omega)).1;refine⟨by omega,Anc.refl _,h.leaf,λi d g hn=>?_,λ_ _ _=>rfl,λ_ _ _=>rfl,?_⟩
 ·have l:¬ Anc i (W 1+k):=λm=>hn ⟨m,by omega⟩;obtain⟨n,f⟩:=h.inner i d g;have hd:∀ j,1<=j->j<2 * k->Anc i j->W j≠W 1:=by intro j o p q he;have:=(h.below (i:=j) o p).2;rw [he] at this;exact l (q.trans this)
  have r:=hd i d (by omega) (Anc.refl i);have s:=hd (2 * i) (by omega) (by omega) ⟨1,by omega⟩;have t:=hd (2 * i+1) (by omega) (by omega) ⟨1,by omega⟩;refine⟨?_,f⟩;rw [hl _ _ r (by rcases f with ⟨_,e⟩ | ⟨_,e⟩ <;> rw [e] <;> assumption)];exact n
 ·have:=h.leaf (W 1) hw;rw [Nat.add_comm] at this;rw [this];exact⟨hw,Anc.refl _⟩
def upd (f:Nat->Nat) (i v:Nat):Nat->Nat:=λj=>if j=i then v else f j
theorem Way.step {d:Nat->Nat->Bool} {c:Nat} {a node':Nat->Nat} (h:Tour k lt W node) (hk:1<=k) (H:STO k d) (hw:Way k lt d W node c a node') (hc:2<=c) :
  node (c / 2)<k/\(d (node (c / 2)) (a c)=true->Way k lt d W node (c / 2) (upd a (c / 2) (node (c / 2))) (upd node' (c / 2) (a c))) /\
   (d (node (c / 2)) (a c)=false->Way k lt d W node (c / 2) (upd a (c / 2) (a c)) node'):=by
 have N:=(h.below (i:=1) (by omega) (by omega)).1;have O:c<2 * k:=by have:=hw.anc.le;omega
 obtain⟨i,hi⟩:∃ i,i=c / 2:=⟨_,rfl⟩;rw [← hi];have n:1<=i:=by omega
 have I:i<k:=by omega
 have w:=h.path hk i n (by rw [hi];exact hw.anc.up);have P:=h.path hk c hw.c1 hw.anc;obtain⟨s,u⟩:∃ s,(s=2 * i/\c=2 * i+1)\/(s=2 * i+1/\c=2 * i):=by
  rcases Nat.mod_two_eq_zero_or_one c with J | J
  ·exact⟨2 * i+1,.inr ⟨rfl,by omega⟩⟩
  ·exact⟨2 * i,.inl ⟨rfl,by omega⟩⟩
 have z:∀ j,Anc c j->Anc s j->False:=by
  intro j b f;rcases u with ⟨rfl,e⟩ | ⟨rfl,e⟩ <;> rw [e] at b
  ·exact Anc.apart n f b
  ·exact Anc.apart n b f
 have r:1<=s/\s<2 * k/\s / 2=i:=by omega
 have A:¬ Anc s (W 1+k):=λg=>z _ hw.anc g;have B:=hw.rest s r.1 A;have l:=h.below (i:=s) r.1 r.2.1;have C:W s≠W 1:=λe=>A (e▸l.2);have D:node i=W s:=by
  obtain⟨_,o⟩:=h.inner i n I;rcases u with ⟨rfl,e⟩ | ⟨rfl,e⟩ <;> rcases o with ⟨b,f⟩ | ⟨b,f⟩
  ·exact absurd (b.symm.trans w) C
  ·exact f
  ·exact f
  ·exact absurd (b.symm.trans w) C
 have K:a c≠W s:=λe=>z _ hw.rng.2 (e▸l.2);have mk:∀ (x y:Nat) (node'':Nat->Nat),d x y=true->((x=a c/\y=W s)\/(x=W s/\y=a c))->node'' i=y->(∀ j,j≠i->node'' j=node' j)->Way k lt d W node i (upd a i x) node'':=by
  intro x y node'' L o E F;have G:Anc i (W 1+k):=by have:=hw.anc.up;rwa [← hi] at this
  refine⟨n,G,λj m=>?_,λj b f hn=>?_,λj g m=>?_,λj b hn=>?_,?_⟩
  ·simp only [upd,if_neg (show k+j≠i by omega)];exact hw.leaf j m
  ·by_cases t:j=i
   ·subst t;refine⟨by simp only [upd,if_true];rw [E];exact L,?_⟩;simp only [upd,if_true,if_neg (show 2 * j≠j by omega),if_neg (show 2 * j+1≠j by omega)];rw [E];rcases u with ⟨p,q⟩ | ⟨p,q⟩
    ·rw [show a (2 * j)=W s by rw [← p,B],show a (2 * j+1)=a c by rw [← q]];exact o.elim .inr .inl
    ·rw [show a (2 * j+1)=W s by rw [← p,B],show a (2 * j)=a c by rw [← q]];exact o
   ·have v:¬ Anc j i:=λg=>hn ⟨g,t⟩;have M:=hw.inner j b f λ⟨g,hjc⟩=>v (by have:=g.half hjc;rwa [← hi] at this);have p:2 * j≠i:=λe=>v ⟨1,by omega⟩;have q:2 * j+1≠i:=λe=>v ⟨1,by omega⟩;unfold Inn;simp only [upd,if_neg t,if_neg p,if_neg q];rw [F j t];exact M
  ·rw [F j m];exact hw.todo j (g.trans ⟨1,by omega⟩) (by have:=g.le;omega)
  ·simp only [upd,if_neg (show j≠i from λe=>hn (e▸G))];exact hw.rest j b hn
  ·simp only [upd,if_true];rcases o with ⟨rfl,_⟩ | ⟨rfl,_⟩
   ·exact⟨hw.rng.1,by have:=hw.rng.2.up;rwa [← hi] at this⟩
   ·exact⟨l.1,by have:=l.2.up;rwa [r.2.2] at this⟩
 rw [D];refine⟨l.1,λht=>?_,λhf=>?_⟩
 ·exact mk _ (a c) _ ht (.inr ⟨rfl,rfl⟩) (by simp [upd]) λj m=>by simp [upd,m]
 ·refine mk _ (W s) _ ?_ (.inl ⟨rfl,rfl⟩) ?_ λj m=>rfl
  ·rcases H.tot _ _ hw.rng.1 l.1 K with b | b
   ·exact b
   ·rw [b] at hf;cases hf
  ·rw [hw.todo i ⟨1,by omega⟩ (by omega),D]
theorem Way.done {a:Nat->Nat->Bool} {b node':Nat->Nat} (hw:Way k lt a W node 1 b node'):Tour k a b node' :=
 ⟨hw.leaf,λi c d=>hw.inner i c d λ⟨ha,hn⟩=>hn (by have:=ha.le;omega)⟩
structure Rise (k:Nat) (lt:Nat->Nat->Bool) (i:Nat) (W node:Nat->Nat):Prop where
 leaf:∀ j,j<k->W (k+j)=j
 inner:∀ j,i<j->j<k->1<=j->Inn lt W node j
theorem Rise.step (d:STO k lt) {i:Nat} (f:1<=i) (p:i<k) (h:Rise k lt i W node) :
  W (2 * i)<k/\W (2 * i+1)<k/\(lt (W (2 * i+1)) (W (2 * i))=true->Rise k lt (i - 1) (upd W i (W (2 * i+1))) (upd node i (W (2 * i)))) /\
   (lt (W (2 * i+1)) (W (2 * i))=false->Rise k lt (i - 1) (upd W i (W (2 * i))) (upd node i (W (2 * i+1)))):=by
 have hb:=P.below h.leaf (i+1) (by omega) λj a b=>(h.inner j (by omega) b (by omega)).or;have b1:=hb _ (2 * i) (by omega) (by omega) rfl;have b2:=hb _ (2 * i+1) (by omega) (by omega) rfl;have g:W (2 * i)≠W (2 * i+1):=λe=>Anc.apart f b1.2 (by rw [e];exact b2.2);have mk:∀ x y,lt x y=true->((x=W (2 * i)/\y=W (2 * i+1))\/(x=W (2 * i+1)/\y=W (2 * i)))->Rise k lt (i - 1) (upd W i x) (upd node i y):=by
  intro x y l m;refine⟨λj n=>?_,λj a b o=>?_⟩
  ·simp only [upd,if_neg (show k+j≠i by omega)];exact h.leaf j n
  ·unfold Inn;by_cases c:j=i
   ·subst c;simp only [upd,if_true,if_neg (show 2 * j≠j by omega),if_neg (show 2 * j+1≠j by omega)];exact⟨l,m⟩
   ·simp only [upd,if_neg c,if_neg (show 2 * j≠i by omega),if_neg (show 2 * j+1≠i by omega)];exact h.inner j (by omega) b o
 refine⟨b1.1,b2.1,λht=>mk _ _ ht (.inr ⟨rfl,rfl⟩),λhf=>mk _ _ ?_ (.inl ⟨rfl,rfl⟩)⟩;rcases d.tot _ _ b1.1 b2.1 g with a | a
 ·exact a
 ·rw [a] at hf;cases hf
theorem Rise.done (h:Rise k lt 0 W node):Tour k lt W node:=⟨h.leaf,λi a b=>h.inner i a b a⟩
end
def hd (R:List (List S61)) (i:Nat):Option S61:=R[i]?.bind List.head?
def bEr (p q:Option S61) (a b:Nat):Bool:=match p,q with
 | none,none=>decide (a<b)
 | none,some _=>false
 | some _,none=>true
 | some x,some y=>bef x y||(!bef y x&&decide (a<b))
def ahd (R:List (List S61)) (a b:Nat):Bool:=bEr (hd R a) (hd R b) a b
structure bGh (R:List (List S61)) (nd:List Int) (W node:Nat->Nat):Prop where
 pos:1<=R.length
 small:R.length<2 ^ 40
 len:nd.length=R.length
 tour:Tour R.length (ahd R) W node
 top:nd[0]?=some (W 1:Int)
 inner:∀ i,1<=i->i<R.length->nd[i]?=some (node i:Int)
section
variable {α:Type} {lt:α->α->Bool}
end
section
variable {α:Type} {lt:α->α->Bool}
theorem SWO.lt_of_lt_of_le (h:SWO lt) {a b c:α} (d:lt a b=true) (e:lt c b=false):lt a c=true:=by
 rcases h.neg a c b d with q | q
 ·exact q
 ·simp_all
theorem SWO.lt_of_le_of_lt (h:SWO lt) {a b c:α} (e:lt b a=false) (d:lt b c=true):lt a c=true:=by
 rcases h.neg b a c d with q | q
 ·simp_all
 ·exact q
end
section
variable {α:Type} {lt:α->α->Bool}
inductive Blk (lt:α->α->Bool) (n:Nat):List α->List α->Prop
 | last {O:List α}:O.length<=n->Blk lt n O (sortL lt O)
 | cons {O1 O2 L2:List α}:O1.length=n->Blk lt n O2 L2->Blk lt n (O1++O2) (sortL lt O1++L2)
theorem Blk.length {n:Nat} {O L:List α} (h:Blk lt n O L):L.length=O.length:=by
 induction h with
 | last _=>exact aFs _
 | cons _ _ ih=>simp [aFs,ih]
theorem Blk.done {n:Nat} {O L:List α} (h:Blk lt n O L) (hn:O.length<=n):L=sortL lt O:=by
 cases h with
 | last _=>rfl
 | @cons O1 O2 L2 h1 h2 =>
  have hl:=h2.length;simp only [List.length_append] at hn;have a:=List.eq_nil_of_length_eq_zero (show O2.length=0 by omega);subst a;have b:=List.eq_nil_of_length_eq_zero hl;rw [b];simp
end
section
variable {α:Type} {lt:α->α->Bool}
theorem bGf (h:SWO lt) {l m:List α} (hl:Srt lt l) (hm:Srt lt m) (hp:l.Perm m) {i:Nat} {x y:α} (hx:l[i]?=some x) (b:m[i]?=some y):lt x y=false:=by
 cases hxy:lt x y with
 | false=>rfl
 | true =>
  exfalso;have hc:=hp.countP_eq (λz=>lt z y);obtain⟨d,f⟩:=List.getElem?_eq_some_iff.1 hx;obtain⟨g,_⟩:=List.getElem?_eq_some_iff.1 b;have k:(l.take (i+1)).countP (λz=>lt z y)=i+1:=by
   have e:(l.take (i+1)).length=i+1:=by rw [List.length_take];omega
   refine (List.countP_eq_length.2 ?_).trans e;intro z hz;obtain⟨j,a⟩:=List.getElem?_of_mem hz;rw [List.getElem?_take] at a;split at a
   ·rcases Nat.lt_or_ge j i with c | c
    ·have hs:=aQ7 hl c a hx;rcases h.neg x z y hxy with q | q
     ·rw [hs] at q;cases q
     ·exact q
    ·have:j=i:=by omega
     subst this;rw [hx] at a;cases a;exact hxy
   ·cases a
  have n:(m.drop i).countP (λz=>lt z y)=0:=by
   rw [List.countP_eq_zero];intro z hz;obtain⟨j,a⟩:=List.getElem?_of_mem hz;rw [List.getElem?_drop] at a;rcases Nat.eq_zero_or_pos j with q | q
   ·subst q;rw [Nat.add_zero,b] at a;cases a;rw [h.irr];simp
   ·rw [aQ7 hm (show i<i+j by omega) b a];simp
  have o:(m.take i).countP (λz=>lt z y)<=i:=Nat.le_trans List.countP_le_length (by rw [List.length_take];omega);have p:l.countP (λz=>lt z y)=(l.take (i+1)).countP (λz=>lt z y)+(l.drop (i+1)).countP (λz=>lt z y):=by rw [← List.countP_append,List.take_append_drop]
  have r:m.countP (λz=>lt z y)=(m.take i).countP (λz=>lt z y)+(m.drop i).countP (λz=>lt z y):=by rw [← List.countP_append,List.take_append_drop]
  omega
end
section
variable {α:Type}
end
theorem yU (a:List UInt8):Op.bytesLess a a=false:=by rw [bytesLess_eq];simp [List.lt_irrefl]
theorem aE3 {a b c:List UInt8} (d:Op.bytesLess a b=true) (e:Op.bytesLess b c=true):Op.bytesLess a c=true:=by rw [bytesLess_eq] at *;simp only [decide_eq_true_eq] at *;exact List.lt_trans d e
theorem aLd {a b:List UInt8} (h:Op.bytesLess a b=false) (c:Op.bytesLess b a=false):a=b:=by rw [bytesLess_eq] at *;simp only [decide_eq_false_iff_not] at *;exact List.le_antisymm (List.not_lt.1 c) (List.not_lt.1 h)
def lX (l:List S98):Prop:=l.Pairwise λx y=>Op.bytesLess x.f0 y.f0=true
def pos (l:List S98) (n:List UInt8):Nat:=(l.takeWhile λx=>Op.bytesLess x.f0 n).length
theorem aUs (l:List S98) (n:List UInt8):pos l n<=l.length:=(List.takeWhile_sublist _).length_le
theorem aFj:∀ {l:List S98} (hl:lX l) (n:List UInt8) {h:Nat} {x:S98},l[h]?=some x->(Op.bytesLess x.f0 n=true↔h<pos l n)
 | [],_,n,h,x,hx=>by simp at hx
 | y::l,hl,n,h,x,hx=>by
  obtain⟨a,b⟩:=List.pairwise_cons.1 hl;unfold pos;rw [List.takeWhile_cons];cases hyn:Op.bytesLess y.f0 n with
  | true =>
   rw [if_pos rfl,List.length_cons];cases h with
   | zero=>cases hx;simp [hyn]
   | succ h =>
    have:=aFj b n (h:=h) (x:=x) (by simpa using hx);unfold pos at this;rw [this];omega
  | false =>
   rw [if_neg (by simp),List.length_nil];cases h with
   | zero=>cases hx;simp [hyn]
   | succ h =>
    have c:x∈l:=List.mem_of_getElem? (by simpa using hx);constructor
    ·intro d;have:=aE3 (a x c) d;rw [hyn] at this;cases this
    ·intro h;omega
theorem aNi (x:S98) (n:List UInt8):jU x n=some (if Op.bytesLess x.f0 n=true then -1 else if x.f0=n then 0 else 1):=by
 unfold jU;cases h:Op.bytesLess x.f0 n with
 | true=>rfl
 | false =>
  simp only [Bool.false_eq_true,if_false,Bool.false_or];by_cases e:x.f0=n
  ·simp [e]
  ·simp [e]
def has (l:List S98) (n:List UInt8):Bool:=match l[pos l n]? with
 | some x=>x.f0==n
 | none=>false
theorem aOt (l:List S98) (hl:lX l) (hlen:l.length<1099511627776) (n:List UInt8):bM l n=some ((pos l n:Int),has l n):=by
 unfold bM;have hp:=aUs l n;obtain⟨y,d,hm⟩:=aDn (b:=λs:Int×Int=>aW l n s.1 s.2) (s:=(0,(l.length:Int)))
  (λs=>∃ i j:Nat,s=((i:Int),(j:Int))/\i<=pos l n/\pos l n<=j/\j<=l.length) (λs=>(s.2 - s.1).toNat) (λt=>t=((pos l n:Nat):Int)) ⟨0,l.length,rfl,Nat.zero_le _,hp,Nat.le_refl _⟩ (by
  rintro s ⟨i,j,rfl,f,g,h⟩;show (∃ s',aW l n (i:Int) (j:Int)=some (.inl s')/\_)\/∃ t,aW l n (i:Int) (j:Int)=some (.inr t)/\_;unfold aW;by_cases p:i<j
  ·have hx:=List.getElem?_eq_getElem (l:=l) (i:=(i+j) / 2) (by omega);have c:=aFj hl n hx;have m:oC .u64 (((i+j:Nat)):Int) 1=(((i+j) / 2:Nat):Int):=lG (k:=.u64) (i+j) 1 (by decide);rw [if_pos (by simp only [decide_eq_true_eq];omega)];simp only [lt_];rw [w64 (n:=(i:Int)+(j:Int)) (by omega) (by omega),mE (by omega) (by omega),show (i:Int)+(j:Int)=((i+j:Nat):Int) by omega,m,w64 (by omega) (by omega),bB rfl hx];simp only [bGi];rw [aNi];simp only [bGi];unfold bG;by_cases a:Op.bytesLess (l[(i+j) / 2]).f0 n=true
   ·have:=c.1 a;rw [if_pos a,if_pos (by decide),w64 (by omega) (by omega)];exact .inl ⟨_,rfl,⟨(i+j) / 2+1,j,rfl,by omega,g,h⟩,by simp only;omega⟩
   ·have:¬ (i+j) / 2<pos l n:=λq=>a (c.2 q);rw [if_neg a,if_neg (by split <;> decide)];exact .inl ⟨_,rfl,⟨i,(i+j) / 2,rfl,f,by omega,by omega⟩,by simp only;omega⟩
  ·rw [if_neg (by simp only [decide_eq_true_eq];omega)];exact .inr ⟨_,rfl,by rw [show i=pos l n by omega]⟩)
 rw [d,hm];simp only [bGi];unfold bS bX has;by_cases a:pos l n<l.length
 ·have hx:=List.getElem?_eq_getElem a;have c:=aFj hl n hx;have o:¬ Op.bytesLess (l[pos l n]).f0 n=true:=λq=>by have:=c.1 q;omega
  rw [if_pos (by simp only [decide_eq_true_eq];omega),bB rfl hx,hx];simp only [bGi];rw [aNi];simp only [bGi];rw [if_neg o];congr 2;by_cases e:(l[pos l n]).f0=n
  ·rw [if_pos e];simp [e]
  ·rw [if_neg e];simp [e]
 ·rw [if_neg (by simp only [decide_eq_true_eq];omega),List.getElem?_eq_none (by omega)]
theorem aQl (s:S77) (hl:lX s.f0) (hlen:s.f0.length<1099511627776) (n:List UInt8):eP s n=some ((pos s.f0 n:Int),has s.f0 n):=by unfold eP;rw [aOt s.f0 hl hlen n];rfl
def okc (c:UInt8):Bool:=decide (c.toNat=46)||(decide (48<=c.toNat)&&decide (c.toNat<=57))||(decide (97<=c.toNat)&&decide (c.toNat<=122))
def tB (n:List UInt8):Bool:=n.all okc&&decide (1<=n.length)&&decide (n.length<=32)
theorem aPc (a:List UInt8) (i:Nat) {c:UInt8} (hc:a[i]?=some c):gG a (i:Int)=iM (i:Int) (!okc c):=by
 have hi:=(List.getElem?_eq_some_iff.1 hc).1;unfold gG okc;rw [if_pos (by simp only [decide_eq_true_eq];omega),bB rfl hc];simp only [bGi,bne_iff_ne,ne_eq,decide_eq_true_eq];by_cases b:c.toNat=46
 ·rw [if_neg (by omega),decide_eq_true b];rfl
 rw [if_pos (by omega),decide_eq_false b];by_cases e:c.toNat<48
 ·rw [if_pos (by omega),if_pos (by omega),decide_eq_false (show ¬ 48<=c.toNat by omega),decide_eq_false (show ¬ 97<=c.toNat by omega)];rfl
 rw [if_neg (by omega),decide_eq_true (show 48<=c.toNat by omega)];by_cases f:57<c.toNat
 ·rw [if_pos (by omega),decide_eq_false (show ¬ c.toNat<=57 by omega)];by_cases g:c.toNat<97
  ·rw [if_pos (by omega),decide_eq_false (show ¬ 97<=c.toNat by omega)];rfl
  ·rw [if_neg (by omega),decide_eq_true (show 97<=c.toNat by omega)];by_cases d:c.toNat<=122
   ·rw [decide_eq_true d,decide_eq_false (by omega)];rfl
   ·rw [decide_eq_false d,decide_eq_true (by omega)];rfl
 ·rw [if_neg (by omega),decide_eq_true (show c.toNat<=57 by omega)];rfl
theorem aJz (a:List UInt8) (c:a.length<4611686018427387904):∀ (m i:Nat),i+m=a.length->loop (λs=>gG a s) (i:Int)=some (if (a.drop i).all okc=true then .inl () else .inr false)
 | 0,i,hi=>by refine bE ?_;show gG a (i:Int)=_;unfold gG;rw [if_neg (by simp only [decide_eq_true_eq];omega),List.drop_of_length_le (by omega)];rfl
 | m+1,i,hi=>by
  have hx:=List.getElem?_eq_getElem (l:=a) (i:=i) (by omega);have hr:=aPc a i hx;have hd:a.drop i=a[i]::a.drop (i+1):=List.drop_eq_getElem_cons (by omega);cases hc:okc a[i] with
  | true =>
   rw [hc] at hr;have:gG a (i:Int)=some (.inl ((i+1:Nat):Int)):=by rw [hr];unfold iM;rw [if_neg (by simp),lt_,w64 (by omega) (by omega)];rfl
   rw [cD (b:=λs=>gG a s) this,aJz a c m (i+1) (by omega),hd,List.all_cons,hc,Bool.true_and]
  | false =>
   rw [hc] at hr;have:gG a (i:Int)=some (.inr (.inr false)):=by rw [hr];rfl
   rw [bE (b:=λs=>gG a s) this,hd,List.all_cons,hc,Bool.false_and];rfl
theorem aP3 (a:List UInt8) (b:a.length<4611686018427387904):rI a=some (tB a):=by
 unfold rI;have h:=aJz a b a.length 0 (by omega);rw [show ((0:Nat):Int)=0 from rfl,List.drop_zero] at h;rw [h];unfold tB;cases a.all okc with
 | true =>
  show tA a=_;unfold tA;cases a with
  | nil=>rfl
  | cons c a =>
   rw [if_pos (show (!(c::a==[]))=true from rfl)];simp only [List.length_cons,Bool.true_and,decide_eq_true (show 1<=a.length+1 by omega)];congr 1;exact decide_eq_decide.2 (by omega)
 | false=>rfl
theorem aA8 {P D:List S98} {x:S98} (h:lX (P++x::D)):(∀ y∈P,Op.bytesLess y.f0 x.f0=true)/\(∀ y∈D,Op.bytesLess x.f0 y.f0=true):=by obtain⟨d,a,b⟩:=List.pairwise_append.1 h;exact⟨λy c=>b y c x (List.mem_cons_self ..),(List.pairwise_cons.1 a).1⟩
theorem aE2 {a b:List UInt8} (h:Op.bytesLess a b=true):a≠b:=λe=>by subst e;rw [yU] at h;cases h
theorem aG9 {a b:List UInt8} (h:Op.bytesLess a b=true):Op.bytesLess b a=false:=by
 cases hb:Op.bytesLess b a with
 | false=>rfl
 | true=>have:=aE3 h hb;rw [yU] at this;cases this
theorem aUr {P D:List S98} {n:List UInt8} (a:∀ y∈P,Op.bytesLess y.f0 n=true) (b:∀ y,D.head?=some y->Op.bytesLess y.f0 n=false):pos (P++D) n=P.length:=by
 unfold pos;rw [List.takeWhile_append_of_pos a,List.length_append];cases D with
 | nil=>rfl
 | cons y D=>rw [List.takeWhile_cons,b y rfl];rfl
theorem aBr {P D:List S98} {x:S98} {n:List UInt8} (hn:x.f0=n) (h:lX (P++x::D)):pos (P++x::D) n=P.length:=by subst hn;exact aUr (aA8 h).1 λy a=>by cases a;exact yU _
theorem aDi {P D:List S98} {x:S98} {n:List UInt8} (hn:x.f0=n) (h:lX (P++x::D)):has (P++x::D) n=true:=by unfold has;rw [aBr hn h,List.getElem?_append_right (Nat.le_refl _),Nat.sub_self];simp [hn]
theorem aL5 {P D:List S98} {n:List UInt8} (a:∀ y∈P,Op.bytesLess y.f0 n=true) (b:∀ y∈D,Op.bytesLess n y.f0=true):pos (P++D) n=P.length :=
 aUr a λy c=>aG9 (b y (List.mem_of_mem_head? c))
theorem aDh {P D:List S98} {n:List UInt8} (b:∀ y∈P,Op.bytesLess y.f0 n=true) (a:∀ y∈D,Op.bytesLess n y.f0=true):has (P++D) n=false:=by
 unfold has;rw [aL5 b a,List.getElem?_append_right (Nat.le_refl _),Nat.sub_self];cases D with
 | nil=>rfl
 | cons y D =>
  show (y.f0==n)=false;rw [beq_eq_false_iff_ne];exact λe=>aE2 (a y (List.mem_cons_self ..)) e.symm
theorem aB0 {l:List S98} (h:lX l) (n:List UInt8) :
  (∃ P x D,l=P++x::D/\x.f0=n)\/∃ P D,l=P++D/\(∀ y∈P,Op.bytesLess y.f0 n=true)/\∀ y∈D,Op.bytesLess n y.f0=true:=by
 have hp:=aUs l n;have b:l=l.take (pos l n)++l.drop (pos l n):=(List.take_append_drop _ _).symm;have d:∀ y∈l.take (pos l n),Op.bytesLess y.f0 n=true:=by
  intro y a;obtain⟨j,c⟩:=List.getElem?_of_mem a;rw [List.getElem?_take] at c;split at c
  ·exact (aFj h n c).2 (by assumption)
  ·cases c
 cases hd:l.drop (pos l n) with
 | nil=>rw [hd] at b;exact .inr ⟨_,[],b,d,λy a=>by cases a⟩
 | cons x D =>
  rw [hd] at b;have hx:l[pos l n]?=some x:=by
   have:(l.drop (pos l n))[0]?=some x:=by rw [hd];rfl
   rwa [List.getElem?_drop,Nat.add_zero] at this
  have g:Op.bytesLess x.f0 n=false:=by
   cases hb:Op.bytesLess x.f0 n with
   | false=>rfl
   | true=>have:=(aFj h n hx).1 hb;omega
  by_cases e:x.f0=n
  ·exact .inl ⟨_,x,D,b,e⟩
  ·refine .inr ⟨_,x::D,b,d,?_⟩;have f:Op.bytesLess n x.f0=true:=by
    cases hb:Op.bytesLess n x.f0 with
    | true=>rfl
    | false=>exact absurd (aLd g hb) e
   intro y a;rcases List.mem_cons.1 a with rfl | a
   ·exact f
   ·have hr:=h;rw [b] at hr;exact aE3 f ((aA8 hr).2 y a)
theorem aKl {P D:List S98} {x y:S98} (hn:x.f0=y.f0) (h:lX (P++x::D)):lX (P++y::D):=by
 obtain⟨e,f,c⟩:=List.pairwise_append.1 h;obtain⟨g,i⟩:=List.pairwise_cons.1 f;refine List.pairwise_append.2 ⟨e,List.pairwise_cons.2 ⟨λz hz=>hn▸g z hz,i⟩,λa d b hb=>?_⟩;rcases List.mem_cons.1 hb with rfl | hb
 ·rw [← hn];exact c a d x (List.mem_cons_self ..)
 ·exact c a d b (List.mem_cons_of_mem _ hb)
theorem aN6 {P D:List S98} {y:S98} (h:lX (P++D)) (d:∀ z∈P,Op.bytesLess z.f0 y.f0=true) (e:∀ z∈D,Op.bytesLess y.f0 z.f0=true):lX (P++y::D):=by
 obtain⟨f,g,i⟩:=List.pairwise_append.1 h;refine List.pairwise_append.2 ⟨f,List.pairwise_cons.2 ⟨e,g⟩,λa c b hb=>?_⟩;rcases List.mem_cons.1 hb with rfl | hb
 ·exact d a c
 ·exact i a c b hb
theorem aSc {P D:List S98} {x:S98} (h:lX (P++x::D)):lX (P++D) :=
 h.sublist (List.Sublist.append_left (List.sublist_cons_self x D) P)
def used (l:List S98):Nat:=(l.map λx=>x.f1.length).sum
theorem uI (P D:List S98):used (P++D)=used P+used D:=by simp [used]
theorem yM (x:S98) (D:List S98):used (x::D)=x.f1.length+used D:=by simp [used]
theorem aVd {l:List S98} {x:S98} (h:x∈l):x.f1.length<=used l:=by
 induction l with
 | nil=>cases h
 | cons y l ih =>
  rw [yM];rcases List.mem_cons.1 h with rfl | h
  ·omega
  ·have:=ih h;omega
theorem aKv (s:S77) (hl:s.f0.length<4611686018427387904) (hu:used s.f0<4611686018427387904):∀ (m i:Nat),i+m=s.f0.length->loop (λq:Int×Int=>dR s q.1 q.2) ((used (s.f0.take i):Int),(i:Int))=some (used s.f0:Int)
 | 0,i,hi=>by refine bE ?_;show dR s _ (i:Int)=_;unfold dR;rw [if_neg (by simp only [decide_eq_true_eq];omega),List.take_of_length_le (by omega)]
 | m+1,i,hi=>by
  have hx:=List.getElem?_eq_getElem (l:=s.f0) (i:=i) (by omega);have ht:s.f0.take (i+1)=s.f0.take i++[s.f0[i]]:=by rw [List.take_add_one,hx];rfl
  have hle:used (s.f0.take (i+1))<=used s.f0:=by have:=uI (s.f0.take (i+1)) (s.f0.drop (i+1));rw [List.take_append_drop] at this;omega
  have hs:used (s.f0.take (i+1))=used (s.f0.take i)+(s.f0[i]).f1.length:=by rw [ht,uI,yM];rfl
  have:dR s (used (s.f0.take i):Int) (i:Int)=some (.inl ((used (s.f0.take (i+1)):Int),((i+1:Nat):Int))):=by unfold dR;rw [if_pos (by simp only [decide_eq_true_eq];omega),bB rfl hx];simp only [bGi,lt_];rw [w64 (by omega) (by omega),w64 (by omega) (by omega),hs];rfl
  rw [cD (b:=λq:Int×Int=>dR s q.1 q.2) this];exact aKv s hl hu m (i+1) (by omega)
theorem aVt (s:S77) (hl:s.f0.length<4611686018427387904) (hu:used s.f0<4611686018427387904):oS (some s)=some (used s.f0:Int):=by show (loop (λq:Int×Int=>dR s q.1 q.2) (0,0)).bind _=_;have h:=aKv s hl hu s.f0.length 0 (by omega);rw [List.take_zero] at h;rw [show ((0:Int),(0:Int))=((used []:Int),((0:Nat):Int)) from rfl,h];rfl
theorem aIq (s:S77) (hl:s.f0.length<1099511627776):∀ (m i:Nat),i+m=s.f0.length->loop (λq:List (List UInt8)×Int=>dQ s q.1 q.2) ((s.f0.take i).map S98.f0,(i:Int))=some (s.f0.map S98.f0)
 | 0,i,hi=>by refine bE ?_;show dQ s _ (i:Int)=_;unfold dQ;rw [if_neg (by simp only [decide_eq_true_eq];omega),List.take_of_length_le (by omega)]
 | m+1,i,hi=>by
  have hx:=List.getElem?_eq_getElem (l:=s.f0) (i:=i) (by omega);have ht:s.f0.take (i+1)=s.f0.take i++[s.f0[i]]:=by rw [List.take_add_one,hx];rfl
  have:dQ s ((s.f0.take i).map S98.f0) (i:Int)=some (.inl ((s.f0.take (i+1)).map S98.f0,((i+1:Nat):Int))):=by unfold dQ;rw [if_pos (by simp only [decide_eq_true_eq];omega),bB rfl hx];simp only [bGi,lt_];rw [bJ (by simp only [List.length_map,List.length_take,List.length_singleton];omega),w64 (by omega) (by omega),ht,List.map_append];rfl
  rw [cD (b:=λq:List (List UInt8)×Int=>dQ s q.1 q.2) this];exact aIq s hl m (i+1) (by omega)
theorem aVr (s:S77) (hl:s.f0.length<1099511627776):lU (some s)=some (s.f0.map S98.f0):=by show (loop (λq:List (List UInt8)×Int=>dQ s q.1 q.2) ([],0)).bind _=_;have h:=aIq s hl s.f0.length 0 (by omega);rw [List.take_zero] at h;rw [show (([]:List (List UInt8)),(0:Int))=(([]:List S98).map S98.f0,((0:Nat):Int)) from rfl,h];rfl
def get (l:List S98) (n:List UInt8):Option S98:=l.find? λx=>x.f0==n
def put:List S98->S98->List S98
 | [],x=>[x]
 | y::l,x=>if Op.bytesLess y.f0 x.f0=true then y::put l x else if y.f0=x.f0 then x::l else x::y::l
def del (l:List S98) (n:List UInt8):List S98:=l.filter λx => !(x.f0==n)
theorem vE {P D:List S98} {x:S98} {n:List UInt8} (hn:x.f0=n) (h:lX (P++x::D)):get (P++x::D) n=some x:=by subst hn;unfold get;rw [List.find?_append,List.find?_eq_none.2 (λy a=>by simpa using aE2 ((aA8 h).1 y a))];simp
theorem yD {P D:List S98} {n:List UInt8} (a:∀ y∈P,Op.bytesLess y.f0 n=true) (b:∀ y∈D,Op.bytesLess n y.f0=true):get (P++D) n=none:=by
 unfold get;rw [List.find?_eq_none];intro y c;rcases List.mem_append.1 c with h | h
 ·simpa using aE2 (a y h)
 ·simpa using λe=>aE2 (b y h) e.symm
theorem aPn:∀ {P D:List S98} {x:S98},(∀ y∈P,Op.bytesLess y.f0 x.f0=true)->put (P++D) x=P++put D x
 | [],D,x,h=>rfl
 | y::P,D,x,h=>by show put (y::(P++D)) x=_;rw [put,if_pos (h y (List.mem_cons_self ..)),aPn λz hz=>h z (List.mem_cons_of_mem _ hz)];rfl
theorem aBs {P D:List S98} {x y:S98} (hn:x.f0=y.f0) (h:lX (P++x::D)):put (P++x::D) y=P++y::D:=by rw [aPn λz hz=>hn▸(aA8 h).1 z hz,put,if_neg (by rw [hn,yU];simp),if_pos hn]
theorem aDt {P D:List S98} {y:S98} (a:∀ z∈P,Op.bytesLess z.f0 y.f0=true) (b:∀ z∈D,Op.bytesLess y.f0 z.f0=true):put (P++D) y=P++y::D:=by
 rw [aPn a];congr 1;cases D with
 | nil=>rfl
 | cons z D =>
  have:=b z (List.mem_cons_self ..);rw [put,if_neg (by rw [aG9 this];simp),if_neg λe=>aE2 this e.symm]
theorem aHd {P D:List S98} {x:S98} {n:List UInt8} (hn:x.f0=n) (h:lX (P++x::D)):del (P++x::D) n=P++D:=by
 subst hn;unfold del;rw [List.filter_append,List.filter_cons_of_neg (by simp),List.filter_eq_self.2,List.filter_eq_self.2]
 ·intro y a;simpa using λe:y.f0=x.f0=>aE2 ((aA8 h).2 y a) e.symm
 ·intro y a;simpa using aE2 ((aA8 h).1 y a)
theorem aQc {P D:List S98} {n:List UInt8} (a:∀ y∈P,Op.bytesLess y.f0 n=true) (b:∀ y∈D,Op.bytesLess n y.f0=true):del (P++D) n=P++D:=by
 unfold del;rw [List.filter_eq_self];intro y c;rcases List.mem_append.1 c with h | h
 ·simpa using aE2 (a y h)
 ·simpa using λe:y.f0=n=>aE2 (b y h) e.symm
theorem aHi {l:List S98} {x y:S98} (h:y∈put l x):y=x\/y∈l:=by
 induction l with
 | nil=>exact .inl (by simpa [put] using h)
 | cons z l ih =>
  unfold put at h;split at h
  ·rcases List.mem_cons.1 h with rfl | h
   ·exact .inr (List.mem_cons_self ..)
   ·rcases ih h with h | h
    ·exact .inl h
    ·exact .inr (List.mem_cons_of_mem _ h)
  ·split at h
   ·rcases List.mem_cons.1 h with rfl | h
    ·exact .inl rfl
    ·exact .inr (List.mem_cons_of_mem _ h)
   ·rcases List.mem_cons.1 h with rfl | h
    ·exact .inl rfl
    ·exact .inr h
theorem aN1 {l:List S98} (h:lX l) (x:S98):lX (put l x):=by
 rcases aB0 h x.f0 with ⟨P,y,D,rfl,a⟩ | ⟨P,D,rfl,b,c⟩
 ·rw [aBs a h];exact aKl a h
 ·rw [aDt b c];exact aN6 h b c
theorem zA {l:List S98} (h:lX l) (n:List UInt8):lX (del l n):=List.Pairwise.filter _ h
theorem yE {l:List S98} {n:List UInt8} {x:S98} (h:get l n=some x):x∈l/\x.f0=n:=⟨List.mem_of_find?_eq_some h,by simpa using List.find?_some h⟩
theorem aHc {l:List S98} {n:List UInt8} {x:S98} (h:x∈del l n):x∈l:=(List.mem_filter.1 h).1
theorem yF {l:List S98} (h:lX l) (x:S98) (n:List UInt8):get (put l x) n=if x.f0=n then some x else get l n:=by
 have e:∀ P D:List S98,x.f0≠n->get (P++x::D) n=get (P++D) n:=by intro P D a;unfold get;rw [List.find?_append,List.find?_append,List.find?_cons_of_neg (by simpa using a)]
 rcases aB0 h x.f0 with ⟨P,y,D,rfl,b⟩ | ⟨P,D,rfl,c,d⟩
 ·rw [aBs b h];split
  ·rename_i e;exact vE e (aKl b h)
  ·rename_i a;rw [e P D a];unfold get;rw [List.find?_append,List.find?_append,List.find?_cons_of_neg (by simpa [b] using a)]
 ·rw [aDt c d];split
  ·rename_i e;exact vE e (aN6 h c d)
  ·rename_i a;exact e P D a
theorem aDg {l:List S98} (h:lX l) (m n:List UInt8):get (del l m) n=if m=n then none else get l n:=by
 unfold get del;split
 ·rename_i e;subst e;rw [List.find?_eq_none];intro x hx;simpa using (List.mem_filter.1 hx).2
 ·rename_i a;rw [List.find?_filter];congr 1
  funext x
  by_cases hx:x.f0=n
  ·simp [hx];exact λe=>a e.symm
  ·simp [hx]
theorem aC3 {l:List S98} (h:lX l) (x:S98):used (put l x)+((get l x.f0).getD ⟨x.f0,[],0⟩).f1.length=used l+x.f1.length:=by
 rcases aB0 h x.f0 with ⟨P,y,D,rfl,a⟩ | ⟨P,D,rfl,b,c⟩
 ·rw [aBs a h,vE a h];simp only [uI,yM,Option.getD_some];omega
 ·rw [aDt b c,yD b c];simp only [uI,yM,Option.getD_none,List.length_nil];omega
theorem aJd {l:List S98} (h:lX l) (n:List UInt8):used (del l n)+((get l n).getD ⟨n,[],0⟩).f1.length=used l:=by
 rcases aB0 h n with ⟨P,y,D,rfl,a⟩ | ⟨P,D,rfl,b,c⟩
 ·rw [aHd a h,vE a h];simp only [uI,yM,Option.getD_some];omega
 ·rw [aQc b c,yD b c];rfl
theorem aFd {l:List S98} (h:lX l) (x:S98):(put l x).length=if (get l x.f0).isSome then l.length else l.length+1:=by
 rcases aB0 h x.f0 with ⟨P,y,D,rfl,a⟩ | ⟨P,D,rfl,b,c⟩
 ·rw [aBs a h,vE a h];simp
 ·rw [aDt b c,yD b c];simp;omega
theorem aLw {l:List S98} (h:lX l) (n:List UInt8):(del l n).length+(if (get l n).isSome then 1 else 0)=l.length:=by
 rcases aB0 h n with ⟨P,y,D,rfl,a⟩ | ⟨P,D,rfl,b,c⟩
 ·rw [aHd a h,vE a h];simp;omega
 ·rw [aQc b c,yD b c];simp
def step (s:S77):S77:=⟨s.f0,s.f1,if 0<s.f2 then s.f2 - 1 else s.f2,if 0<s.f2 then s.f2 - 1==0 else s.f3,s.f4+1⟩
structure SI (k:Nat) (s:S77):Prop where
 rise:lX s.f0
 form:∀ x∈s.f0,tB x.f0=true
 len:s.f0.length<=500
 room:1<=s.f1/\s.f1<=16777216
 use:(used s.f0:Int)<=s.f1
 sure:∀ x∈s.f0,0<=x.f2/\x.f2<=x.f1.length
 byt:∀ x∈s.f0,∀ b∈x.f1,0<=b/\b<256
 armed:0<=s.f2/\s.f2<=9223372036854775807
 ops:0<=s.f4/\s.f4<=k
def uB (s:S77) (n:List UInt8):Int:=if tB n=true then (if s.f3=true then 9 else 0) else 1
section
variable {k:Nat} {s:S77} {n:List UInt8}
theorem SI.find (h:SI k s) (n:List UInt8):eP s n=some ((pos s.f0 n:Int),has s.f0 n):=aQl s h.rise (by have:=h.len;omega) n
theorem SI.one (h:SI k s) {x:S98} (hx:x∈s.f0):(x.f1.length:Int)<=16777216:=by have:=aVd hx;have:=h.use;have:=h.room;omega
theorem SI.Used (h:SI k s):oS (some s)=some (used s.f0:Int):=aVt s (by have:=h.len;omega) (by have:=h.use;have:=h.room;omega)
theorem SI.Names (h:SI k s):lU (some s)=some (s.f0.map S98.f0):=aVr s (by have:=h.len;omega)
theorem SI.begin (h:SI k s) (hk:k<4611686018427387904):gW s=some (!(step s).f3,step s):=by
 have a:=h.armed;have b:=h.ops;unfold gW step;rw [lt_,w64 (n:=s.f4+1) (by omega) (by omega)];by_cases c:0<s.f2
 ·rw [if_pos (by simpa using c),lt_,w64 (n:=s.f2 - 1) (by omega) (by omega)];simp only [if_pos c];rfl
 ·rw [if_neg (by simpa using c)];simp only [if_neg c];rfl
theorem SI.stepped (h:SI k s):SI (k+1) (step s):=by
 refine⟨h.rise,h.form,h.len,h.room,h.use,h.sure,h.byt,?_,?_⟩
 ·have:=h.armed;simp only [P.step];split <;> omega
 ·have:=h.ops;simp only [P.step];omega
theorem SI.mono (h:SI k s) {a:Nat} (hk:k<=a):SI a s:=⟨h.rise,h.form,h.len,h.room,h.use,h.sure,h.byt,h.armed,by have:=h.ops;omega⟩
theorem aDl (s:S77) (hn:n.length<4611686018427387904):cU (some s) n=some (uB s n):=by
 show (rI n).bind _=_;rw [aP3 n hn];simp only [bGi];unfold uB;cases tB n with
 | true=>cases s.f3 <;> rfl
 | false=>rfl
theorem aTe (a:List Int) (h:a.length<=140737488355328):dH a=some a:=by
 unfold dH;rw [bJ (by simp only [List.length_nil];omega)];cases a with
 | nil=>simp [tE]
 | cons b a=>simp [tE]
def aGz (s:S77) (n:List UInt8):List Int×Int:=if uB s n=0 then (match get s.f0 n with | some x=>(x.f1,0) | none=>([],5)) else ([],uB s n)
theorem SI.Read (h:SI k s) (hn:n.length<4611686018427387904):oQ (some s) n=some (aGz s n):=by
 show (cU (some s) n).bind _=_;rw [aDl s hn];simp only [bGi];unfold aGz;by_cases c:uB s n=0
 ·rw [if_neg (by simpa using c),if_pos c,h.find];simp only [bGi];have hr:=h.rise;have a:=λx=>h.one (x:=x);rcases aB0 hr n with ⟨P,x,D,e,hx⟩ | ⟨P,D,e,b,d⟩
  ·rw [e] at hr a ⊢;have f:=a x (by simp);rw [aDi hx hr,aBr hx hr,vE hx hr,if_neg (by simp),bB rfl (show (P++x::D)[P.length]?=some x by simp)];simp only [bGi];rw [aTe _ (by omega)];rfl
  ·rw [e] at hr ⊢;rw [aDh b d,yD b d,if_pos (by simp)]
 ·rw [if_pos (by simpa using c),if_neg c]
def rB (s:S77) (n:List UInt8) (p:List Int):Int×S77:=if uB s n=0 then
  if s.f1 - used s.f0<p.length\/((get s.f0 n).isNone=true/\500<=s.f0.length) then (10,s)
  else (if (P.step s).f3=true then 9 else 0,{ P.step s with f0:=put s.f0 ⟨n,((get s.f0 n).getD ⟨n,[],0⟩).f1++p,((get s.f0 n).getD ⟨n,[],0⟩).f2⟩ })
 else (uB s n,s)
theorem aS3 {y:Int×Bool} {b:Bool} {p:List Int} (h:b=true):eH n p s y b=some (10,some s):=by subst h;rfl
theorem aMx {l:List S98} {P D:List S98} {x:S98} {p:List Int} {b:Bool} {y:Bool} {r:S77} (hl:l=P++x::D) (hb:x.f1.length+p.length<=140737488355328) :
  gZ p ((P.length:Int),b) (y,r) l=some (if y=true then 0 else 9,some ⟨P++⟨x.f0,x.f1++p,x.f2⟩::D,r.f1,r.f2,r.f3,r.f4⟩):=by
 subst hl;unfold gZ;rw [bB rfl (show (P++x::D)[P.length]?=some x by simp)];simp only [bGi];rw [bJ (by omega),Int.toNat_natCast,show (P++x::D).set P.length (⟨x.f0,x.f1++p,x.f2⟩:S98)=P++⟨x.f0,x.f1++p,x.f2⟩::D by simp];cases y <;> rfl
theorem SI.Append (h:SI k s) (hk:k<4611686018427387904) (hn:n.length<4611686018427387904) (p:List Int):pM (some s) n p=some ((rB s n p).1,some (rB s n p).2):=by
 have hu:=h.use;have l:=h.room;have hlen:=h.len;show (cU (some s) n).bind _=_;rw [aDl s hn];simp only [bGi];unfold rB;by_cases c:uB s n=0
 ·rw [if_neg (by simpa using c),if_pos c,h.find];simp only [bGi];rw [h.Used];simp only [bGi];rw [lt_,w64 (by omega) (by omega)];by_cases c1:s.f1 - used s.f0<p.length
  ·rw [if_pos (by simpa using c1),if_pos (.inl c1),aS3 rfl]
  ·rw [if_neg (by simpa using c1)];have hb:=h.begin hk;have hr:=h.rise;have i:=λx=>h.one (x:=x);rcases aB0 hr n with ⟨P,x,D,e,hx⟩ | ⟨P,D,e,a,b⟩
   ·rw [e] at hr;have m:=i x (by rw [e];simp);have f:has s.f0 n=true:=by rw [e];exact aDi hx hr
    have g:pos s.f0 n=P.length:=by rw [e];exact aBr hx hr
    have d:get s.f0 n=some x:=by rw [e];exact vE hx hr
    rw [f,g,if_neg (by simp)];unfold eH;rw [if_neg (by simp),hb];simp only [bGi];rw [if_neg (by simp),d,if_neg (by simp [c1]),show (step s).f0=P++x::D from e,aMx rfl (by omega),e,Option.getD_some,aBs hx hr];subst hx;cases (step s).f3 <;> rfl
   ·rw [e] at hr;have f:has s.f0 n=false:=by rw [e];exact aDh a b
    have g:pos s.f0 n=P.length:=by rw [e];exact aL5 a b
    have d:get s.f0 n=none:=by rw [e];exact yD a b
    rw [f,g,if_pos (by simp)];by_cases c2:500<=s.f0.length
    ·rw [aS3 (by simp;omega),d,if_pos (by simp [c2])]
    ·unfold eH;rw [if_neg (by simp;omega),hb];simp only [bGi];have hl:s.f0.length=P.length+D.length:=by rw [e];simp
     have j:aPf (step s).f0 (P.length:Int) [(⟨n,[],0⟩:S98)]=some (P++⟨n,[],0⟩::D):=by unfold aPf;rw [if_pos ⟨by omega,by show (P.length:Int)<=(s.f0.length:Int);omega,by simp,by show (s.f0.length+1) * 48<=_;omega⟩,show (step s).f0=P++D from e,Int.toNat_natCast,List.take_left,List.drop_left];simp
     rw [if_pos (by simp),j];simp only [bGi];rw [d,if_neg (by simp [c1];omega),aMx rfl (by simp only [List.length_nil];omega),e,Option.getD_none,aDt a b];cases (step s).f3 <;> rfl
 ·rw [if_pos (by simpa using c),if_neg c]
end
end Go.Proofs.YtdkpjpoajlmmfaaGreatDoor.P
