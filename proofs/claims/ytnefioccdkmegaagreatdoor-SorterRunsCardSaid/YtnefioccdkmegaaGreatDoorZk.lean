/- Texts of the claim, joined: what it uses of Qc, Qd, Qe, Qf, Qg, Qh, Qi, Qj, Qk, Qm, Qn, Qo, Qp, Qq, Pa, Pb, Pc, Pd, Pf, Pg. -/
import Derived.Test.YtnefioccdkmegaaGreatDoorZj
import Derived.Sort.Walk0
import Derived.IntWalk
namespace Go.Proofs.YtnefioccdkmegaaGreatDoor.P
open Go Go.RowKit Go.Proofs.YtnefioccdkmegaaGreatDoor.E Go.Proofs.YtnefioccdkmegaaGreatDoor.M
set_option linter.unusedVariables false
set_option linter.unusedSectionVars false
def pB:List Int→Option (Int×List Int)
 | []=>none
 | b::r=>some (b,r)
def pV (i n:Nat):List Int→Option (Nat×List Int)
 | []=>none
 | b::r=>if i<9∨(i=9∧b<2) then
   (if b<128 then (if i=0∨0<b then some (n+b.toNat % 128 * 2 ^ (7 * i),r) else none) else pV (i+1) (n+b.toNat % 128 * 2 ^ (7 * i)) r)
  else none
def pU (most:Int) (xs:List Int):Option (Int×List Int):=match pV 0 0 xs with
 | some (n,r)=>if (n:Int)≤most then some ((n:Int),r) else none
 | none=>none
def pI (xs:List Int):Option (Int×List Int):=match pU 18446744073709551615 xs with
 | some (n,r)=>some (uz n.toNat,r)
 | none=>none
def pT (most:Int) (xs:List Int):Option (List UInt8×List Int):=match pU (IntKind.u64.wrap most) xs with
 | some (n,r)=>if n≤(r.length:Int) then some (bts (r.take n.toNat),r.drop n.toNat) else none
 | none=>none
def IsR {ρ:Type} (o:Option ((ρ×S157)⊕S157)) (p:Option (ρ×List Int)):Prop :=
 match p with
 | some (a,r)=>o=some (.inl (a,⟨r⟩))
 | none=>∃ s,o=some (.inr s)
theorem IsR.cases {ρ:Type} {o:Option ((ρ×S157)⊕S157)} {p:Option (ρ×List Int)} (h:IsR o p):(∃ a r,p=some (a,r)∧o=some (.inl (a,⟨r⟩)))∨(p=none∧∃ s,o=some (.inr s)):=by
 unfold IsR at h
 split at h
 ·exact .inl ⟨_,_,rfl,h⟩
 ·exact .inr ⟨rfl,h⟩
theorem nL {α β γ:Type} (a:α) (f:α→Option γ) (g:β→Option γ):mI (.inl a) f g=f a:=rfl
theorem rF (s:S157):aJ s true=some (.inl s):=rfl
theorem pW (s:S157):aJ s false=some (.inr s):=rfl
theorem aH7 (xs:List Int):IsR (fJ ⟨xs⟩) (pB xs):=by
 unfold fJ
 cases xs with
 | nil=>exact⟨_,rfl⟩
 | cons b r =>
  rw [show decide (0<(((⟨b::r⟩:S157).f0.length:Nat):Int))=true by simp,rF]
  simp only [Option.bind_some,nL]
  have h1:at_ (b::r) 0=some b:=rfl
  have h2:oO (b::r) 1 ((b::r).length:Int)=some r:=by
   have:=uF (xs:=b::r) (l:=1) (u:=(b::r).length) (by simp) (Nat.le_refl _)
   rw [show ((1:Nat):Int)=1 from rfl,List.take_length] at this
   exact this
  rw [h1]
  simp only [Option.bind_some]
  rw [h2]
  rfl
theorem aUp (a:Nat):a &&& 127=a % 128:=Nat.and_two_pow_sub_one_eq_mod a 7
theorem aVa:∀ (xs:List Int) (i n m:Nat) (r:List Int),n<2 ^ (7 * i)→n<18446744073709551616→pV i n xs=some (m,r)→m<18446744073709551616∧∃ p,xs=p++r∧0<p.length
 | [],i,n,m,r,_,_,h=>by cases h
 | b::xs,i,n,m,r,h1,h2,h=>by
  unfold pV at h
  split at h
  ·rename_i hc
   have hlt:n+b.toNat % 128 * 2 ^ (7 * i)<18446744073709551616∧n+b.toNat % 128 * 2 ^ (7 * i)<2 ^ (7 * (i+1)):=by
    have hp:2 ^ (7 * (i+1))=128 * 2 ^ (7 * i):=by rw [show 7 * (i+1)=7+7 * i by omega,Nat.pow_add]
    have hm:b.toNat % 128 * 2 ^ (7 * i)≤127 * 2 ^ (7 * i):=Nat.mul_le_mul_right _ (by omega)
    refine⟨?_,by rw [hp]; omega⟩
    rcases hc with hc | ⟨hc,hb⟩
    ·have:2 ^ (7 * i)≤2 ^ 56:=Nat.pow_le_pow_right (by decide) (by omega)
     omega
    ·subst hc
     have:b.toNat % 128 * 2 ^ (7 * 9)≤1 * 2 ^ (7 * 9):=Nat.mul_le_mul_right _ (by omega)
     omega
   split at h
   ·split at h
    ·cases h
     exact⟨hlt.1,[b],rfl,by simp⟩
    ·cases h
   ·obtain⟨q1,p,rfl,q3⟩:=aVa xs (i+1) _ m r hlt.2 hlt.1 h
    exact⟨q1,b::p,rfl,by simp⟩
  ·cases h
theorem aUv (most:Int):∀ (xs:List Int) (i n:Nat),Bs xs→i≤10→n<2 ^ (7 * i)→n<18446744073709551616 →
  IsR (loop (fun s:List Int×Int×Int=>eB most s.1 s.2.1 s.2.2) (xs,(n:Int),(i:Int))) (match pV i n xs with | some (m,r)=>if (m:Int)≤most then some ((m:Int),r) else none | none=>none)
 | [],i,n,hB,hi,h1,h2=>⟨⟨[]⟩,bJ rfl⟩
 | b::xs,i,n,hB,hi,h1,h2=>by
  obtain⟨hb,hB'⟩:=hB.cons
  generalize hpv:pV i n (b::xs)=pv
  have hby:fJ ⟨b::xs⟩=some (.inl (b,⟨xs⟩)):=aH7 (b::xs)
  obtain⟨c,rfl⟩:∃ c:Nat,b=(c:Int):=⟨b.toNat,by omega⟩
  have hcase:(c:Int)<128∨128≤(c:Int):=by omega
  by_cases hc:i<9∨(i=9∧(c:Int)<2)
  ·
   have hp:2 ^ (7 * (i+1))=128 * 2 ^ (7 * i):=by rw [show 7 * (i+1)=7+7 * i by omega,Nat.pow_add]
   have hm:c % 128 * 2 ^ (7 * i)≤127 * 2 ^ (7 * i):=Nat.mul_le_mul_right _ (by omega)
   have hlt:c % 128 * 2 ^ (7 * i)<18446744073709551616∧n+c % 128 * 2 ^ (7 * i)<18446744073709551616:=by
    rcases hc with hc | ⟨hc,hb⟩
    ·have:2 ^ (7 * i)≤2 ^ 56:=Nat.pow_le_pow_right (by decide) (by omega)
     omega
    ·subst hc
     have:c % 128 * 2 ^ (7 * 9)≤1 * 2 ^ (7 * 9):=Nat.mul_le_mul_right _ (by omega)
     omega
   have hlt2:n+c % 128 * 2 ^ (7 * i)<2 ^ (7 * (i+1)):=by rw [hp]; omega
   obtain⟨m,hm'⟩:∃ m,m=n+c % 128 * 2 ^ (7 * i):=⟨_,rfl⟩
   have e1:yQ .u8 (c:Int) 127=((c % 128:Nat):Int):=by
    have:=aTs (a:=c) (b:=127) (by omega) (by omega)
    rw [show ((127:Nat):Int)=127 from rfl] at this
    rw [this,aUp]
   have e2:IntKind.i64.wrap (7 * (i:Int))=((7 * i:Nat):Int):=by rw [w64 (by omega) (by omega)]; omega
   have e3:yZ .u64 ((c % 128:Nat):Int) ((7 * i:Nat):Int)=((c % 128 * 2 ^ (7 * i):Nat):Int):=by
    rw [aK3 _ _ (by omega),Nat.mod_eq_of_lt hlt.1]
   have e4:ior .u64 (n:Int) ((c % 128 * 2 ^ (7 * i):Nat):Int)=(m:Int):=by rw [aT9 h2 hlt.1,aC9 h1,hm']
   have hl1:eB most ((c:Int)::xs) (n:Int) (i:Int)=eA most (n:Int) (i:Int) ((c:Int),⟨xs⟩) xs:=by
    unfold eB
    rw [hby]
    simp only [Option.bind_some,nL]
    rcases hc with hc | ⟨hc,hc2⟩
    ·rw [if_pos (by simp only [decide_eq_true_eq]; omega),rF]; rfl
    ·rw [if_neg (by simp only [decide_eq_true_eq]; omega),if_pos (by subst hc; rfl),show decide ((c:Int)<2)=true by simpa using hc2,rF]; rfl
   have hj:eA most (n:Int) (i:Int) ((c:Int),⟨xs⟩) xs=if (c:Int)<128 then (if (m:Int)≤most∧(i=0∨0<(c:Int)) then some (.inr (.inl ((m:Int),⟨xs⟩))) else some (.inr (.inr ⟨xs⟩))) else some (.inl (xs,(m:Int),((i+1:Nat):Int))):=by
    unfold eA
    simp only [lt_]
    rw [e1,aA2 (by omega) (by omega),e2,aW (by omega),e3,e4]
    by_cases hc1:(c:Int)<128
    ·rw [if_pos (by simpa using hc1),if_pos hc1]
     by_cases hmo:(m:Int)≤most
     ·rw [if_pos (by simpa using hmo)]
      by_cases hi0:i=0
      ·subst hi0
       rw [if_pos (by rfl),rF,if_pos ⟨hmo,.inl rfl⟩]
       rfl
      ·rw [if_neg (by simpa using hi0)]
       by_cases hc0:0<(c:Int)
       ·rw [show decide (0<(c:Int))=true by simpa using hc0,rF,if_pos ⟨hmo,.inr hc0⟩]; rfl
       ·rw [show decide (0<(c:Int))=false by simpa using hc0,pW,if_neg (by rintro⟨_,q | q⟩; exact hi0 q; exact hc0 q)]; rfl
     ·rw [if_neg (by simpa using hmo),pW,if_neg (fun q=>hmo q.1)]; rfl
    ·rw [if_neg (by simpa using hc1),if_neg hc1,w64 (by omega) (by omega)]; rfl
   rw [pV,if_pos hc,Int.toNat_natCast, ← hm'] at hpv
   rcases hcase with hc1 | hc1
   ·rw [if_pos hc1] at hj hpv
    by_cases h0:i=0∨0<(c:Int)
    ·rw [if_pos h0] at hpv
     subst hpv
     simp only
     by_cases hmo:(m:Int)≤most
     ·rw [if_pos ⟨hmo,h0⟩] at hj
      rw [if_pos hmo]
      exact bJ (hl1.trans hj)
     ·rw [if_neg (fun q=>hmo q.1)] at hj
      rw [if_neg hmo]
      exact⟨_,bJ (hl1.trans hj)⟩
    ·rw [if_neg h0] at hpv
     subst hpv
     rw [if_neg (fun q=>h0 q.2)] at hj
     exact⟨_,bJ (hl1.trans hj)⟩
   ·rw [if_neg (Int.not_lt.2 hc1)] at hj hpv
    rw [dD (hl1.trans hj)]
    subst hpv
    exact aUv most xs (i+1) m hB' (by omega) (by rw [hm']; exact hlt2) (by rw [hm']; exact hlt.2)
  ·rw [pV,if_neg hc] at hpv
   subst hpv
   refine⟨_,bJ (t:=Sum.inr ⟨xs⟩) ?_⟩
   show eB most ((c:Int)::xs) (n:Int) (i:Int)=_
   unfold eB
   rw [hby]
   simp only [Option.bind_some,nL]
   rw [if_neg (by simp only [decide_eq_true_eq]; omega)]
   by_cases hi9:i=9
   ·rw [if_pos (by subst hi9; rfl),show decide ((c:Int)<2)=false by simp; omega,pW]; rfl
   ·rw [if_neg (by simp; omega),pW]; rfl
theorem aCq (most:Int) {xs:List Int} (hB:Bs xs):IsR (eU ⟨xs⟩ most) (pU most xs):=by
 unfold eU pU
 have:=aUv most xs 0 0 hB (by omega) (by simp) (by omega)
 simp only [Int.natCast_zero] at this
 rcases this.cases with ⟨a,r,h1,h2⟩ | ⟨h1,s,h2⟩
 ·rw [h1]; show _=_; rw [h2]; rfl
 ·rw [h1]; exact⟨s,by rw [h2]; rfl⟩
theorem rG {most:Int} {xs r:List Int} {n:Int} (h:pU most xs=some (n,r)):(0≤n∧n<18446744073709551616∧n≤most)∧∃ p,xs=p++r∧0<p.length:=by
 unfold pU at h
 split at h
 ·rename_i m r' he
  split at h
  ·cases h
   obtain⟨h1,h2⟩:=aVa _ _ _ _ _ (by simp) (by omega) he
   exact⟨⟨by omega,by omega,by assumption⟩,h2⟩
  ·cases h
 ·cases h
theorem aK0 {most:Int} {xs r:List Int} {n:Int} (hB:Bs xs) (h:pU most xs=some (n,r)):Bs r:=by
 obtain⟨_,p,rfl,_⟩:=rG h
 exact hB.r
theorem aQ6 (a:Nat):a &&& 1=a % 2:=Nat.and_two_pow_sub_one_eq_mod a 1
theorem aW2 {a:Nat} (h:a<9223372036854775808):xT .i64 (a:Int) (-1) = -(a:Int) - 1:=by
 show IntKind.i64.wrap (((BitVec.ofInt 64 (a:Int) ^^^ BitVec.allOnes 64).toNat:Nat):Int)=_
 rw [fP,BitVec.xor_allOnes,BitVec.toNat_not,BitVec.toNat_ofNat,Nat.mod_eq_of_lt (show a<2 ^ 64 by omega),IntWalk.i64_left]
 unfold wrap64
 omega
theorem bAt {a:Nat} (h:a<9223372036854775808):xT .i64 (a:Int) 0=(a:Int):=by
 show IntKind.i64.wrap (((BitVec.ofInt 64 (a:Int) ^^^ 0#64).toNat:Nat):Int)=_
 rw [fP,BitVec.xor_zero,BitVec.toNat_ofNat,Nat.mod_eq_of_lt (show a<2 ^ 64 by omega),w64 (by omega) (by omega)]
theorem aZn {n:Nat} (h:n<18446744073709551616):xT .i64 (IntKind.i64.wrap (bS .u64 (n:Int) 1)) (IntKind.i64.wrap (0 - IntKind.i64.wrap (yQ .u64 (n:Int) 1)))=uz n:=by
 have e1:bS .u64 (n:Int) 1=((n / 2:Nat):Int):=nA (k:=.u64) n 1 (by decide)
 have e2:yQ .u64 (n:Int) 1=((n % 2:Nat):Int):=by
  have:=aFe (a:=n) (b:=1) h (by omega)
  rw [show ((1:Nat):Int)=1 from rfl] at this
  rw [this,aQ6]
 rw [e1,e2,w64 (n:=((n / 2:Nat):Int)) (by omega) (by omega),w64 (n:=((n % 2:Nat):Int)) (by omega) (by omega),w64 (by omega) (by omega)]
 unfold uz
 by_cases ho:n % 2=1
 ·rw [if_pos ho,ho,show (0:Int) - ((1:Nat):Int) = -1 from rfl,aW2 (by omega)]
 ·rw [if_neg ho,show n % 2=0 by omega,show (0:Int) - ((0:Nat):Int)=0 from rfl,bAt (by omega)]
theorem aIh {xs:List Int} (hB:Bs xs):IsR (fX ⟨xs⟩) (pI xs):=by
 unfold fX pI
 rcases (aCq 18446744073709551615 hB).cases with ⟨a,r,h1,h2⟩ | ⟨h1,s,h2⟩
 ·rw [h1,h2]
  obtain⟨⟨q1,q2,_⟩,_⟩:=rG h1
  simp only [Option.bind_some,nL,lt_]
  have:=aZn (n:=a.toNat) (by omega)
  rw [show ((a.toNat:Nat):Int)=a by omega] at this
  show _=_
  rw [this]
 ·rw [h1,h2]
  exact⟨s,rfl⟩
theorem aMu {xs r:List Int} {n:Int} (hB:Bs xs) (h:pI xs=some (n,r)):Bs r∧i64 n∧∃ p,xs=p++r∧0<p.length:=by
 unfold pI at h
 split at h
 ·rename_i m r' he
  cases h
  refine⟨aK0 hB he,?_,(rG he).2⟩
  have:=(rG he).1
  unfold i64 uz
  split <;> omega
 ·cases h
theorem aNa (most:Int) {xs:List Int} (hB:Bs xs) (hl:xs.length<9223372036854775808):IsR (iU ⟨xs⟩ most) (pT most xs):=by
 unfold iU pT
 rw [lt_]
 rcases (aCq (IntKind.u64.wrap most) hB).cases with ⟨a,r,h1,h2⟩ | ⟨h1,s,h2⟩
 ·rw [h1,h2]
  obtain⟨⟨q1,q2,_⟩,p,hp,_⟩:=rG h1
  have hr:r.length≤xs.length:=by rw [hp]; simp
  simp only [Option.bind_some,nL,lt_]
  rw [aA2 (by omega) (by omega)]
  obtain⟨n,rfl⟩:∃ n:Nat,a=(n:Int):=⟨a.toNat,by omega⟩
  by_cases hn:(n:Int)≤(r.length:Int)
  ·rw [show decide ((n:Int)≤(r.length:Int))=true by simpa using hn,rF,if_pos hn]
   simp only [Option.bind_some,nL]
   have c1:=uF (xs:=r) (l:=0) (u:=n) (by omega) (by omega)
   have c2:=uF (xs:=r) (l:=n) (u:=r.length) (by omega) (by omega)
   rw [show ((0:Nat):Int)=0 from rfl,List.drop_zero] at c1
   rw [List.take_length] at c2
   rw [c1]
   simp only [Option.bind_some]
   rw [c2]
   rfl
  ·rw [show decide ((n:Int)≤(r.length:Int))=false by simpa using hn,pW,if_neg hn]
   exact⟨_,rfl⟩
 ·rw [h1,h2]
  exact⟨s,rfl⟩
theorem aUr:∀ (k:Nat) (m i n:Nat) (r:List Int),m<128 ^ (k+1)→k+i≤9→m * 2 ^ (7 * i)+n<18446744073709551616→(0<i→0<m)→pV i n (uv m++r)=some (n+m * 2 ^ (7 * i),r)
 | k,m,i,n,r,h,hi,hlt,h0=>by
  by_cases hm:m<128
  ·rw [aAc hm,List.singleton_append,pV]
   have h9:i<9∨(i=9∧(m:Int)<2):=by
    rcases Nat.lt_or_ge i 9 with q | q
    ·exact .inl q
    ·have:i=9:=by omega
     subst this
     refine .inr ⟨rfl,?_⟩
     rcases Nat.lt_or_ge m 2 with q2 | q2
     ·omega
     ·have:2 * 2 ^ (7 * 9)≤m * 2 ^ (7 * 9):=Nat.mul_le_mul_right _ q2
      omega
   rw [if_pos h9,if_pos (by omega),if_pos (by rcases Nat.eq_zero_or_pos i with q | q; exact .inl q; have:=h0 q; exact .inr (by omega)),Int.toNat_natCast,Nat.mod_eq_of_lt hm]
  ·rw [zT hm,List.cons_append,pV]
   match k,h,hi with
   | 0,h,_=>exact absurd (by simpa using h) hm
   | k+1,h,hi =>
    rw [if_pos (.inl (by omega)),if_neg (by omega),Int.toNat_natCast,show (m % 128+128) % 128=m % 128 by omega]
    have hp:2 ^ (7 * (i+1))=128 * 2 ^ (7 * i):=by rw [show 7 * (i+1)=7+7 * i by omega,Nat.pow_add]
    have hdiv:m / 128 * (128 * 2 ^ (7 * i))+m % 128 * 2 ^ (7 * i)=m * 2 ^ (7 * i):=by
     rw [← Nat.mul_assoc, ← Nat.add_mul]
     congr 1
     omega
    rw [aUr k (m / 128) (i+1) _ r (by rw [Nat.pow_succ] at h; exact Nat.div_lt_of_lt_mul (by rw [Nat.mul_comm]; exact h)) (by omega) (by rw [hp]; omega) (fun _=>by omega),hp]
    congr 2
    omega
theorem aHg {m:Nat} (h:m<18446744073709551616) (r:List Int) {most:Int} (hm:(m:Int)≤most):pU most (uv m++r)=some ((m:Int),r):=by
 unfold pU
 rw [aUr 9 m 0 0 r (by omega) (by omega) (by simp; omega) (fun q=>absurd q (by omega))]
 simp only [Nat.mul_zero,Nat.pow_zero,Nat.mul_one,Nat.zero_add]
 rw [if_pos hm]
theorem aNh {x:Int} (h:i64 x) (r:List Int):pI (uv (zz x)++r)=some (x,r):=by
 unfold pI
 have:=aA6 h
 rw [aHg this r (by omega)]
 simp only [Int.toNat_natCast,bAq]
def bl (n:Nat):Nat:=if h:n=0 then 0 else bl (n / 2)+1
termination_by n
decreasing_by omega
theorem aCl:bl 0=0:=by rw [bl,dif_pos rfl]
theorem aIb {n:Nat} (h:0<n):bl n=bl (n / 2)+1:=by rw [bl,dif_neg (by omega)]
theorem aZc (n:Nat):n<2 ^ bl n:=by
 induction n using Nat.strongRecOn with
 | _ n ih =>
  rcases Nat.eq_zero_or_pos n with rfl | h
  ·rw [aCl]; decide
  ·rw [aIb h,Nat.pow_succ]
   have:=ih (n / 2) (by omega)
   omega
theorem aU5:∀ (k n:Nat),n<2 ^ k→bl n≤k
 | 0,n,h=>by
  have:n=0:=by simpa using h
  rw [this,aCl]; exact Nat.le_refl _
 | k+1,n,h=>by
  rcases Nat.eq_zero_or_pos n with rfl | hp
  ·rw [aCl]; omega
  ·rw [aIb hp]
   have:=aU5 k (n / 2) (by rw [Nat.pow_succ] at h; omega)
   omega
theorem zR:∀ (k n:Nat),2 ^ k≤n→bl n=k+bl (n / 2 ^ k)
 | 0,n,_=>by simp
 | k+1,n,h=>by
  have hp:0<2 ^ k:=Nat.two_pow_pos k
  rw [Nat.pow_succ] at h
  rw [aIb (by omega),zR k (n / 2) (by omega),Nat.div_div_eq_div_mul,Nat.pow_succ,Nat.mul_comm (2 ^ k) 2]
  omega
def V (w:Nat):List Nat→Nat
 | []=>0
 | d::ds=>d+2 ^ w * V w ds
def Lt (w:Nat) (ds:List Nat):Prop:=∀ d∈ds,d<2 ^ w
theorem Lt.tail {w d:Nat} {ds:List Nat} (h:Lt w (d::ds)):d<2 ^ w∧Lt w ds:=⟨h d List.mem_cons_self,fun x hx=>h x (List.mem_cons_of_mem _ hx)⟩
theorem aUl {w:Nat}:∀ {ds:List Nat},Lt w ds→V w ds<2 ^ (ds.length * w)
 | [],_=>by simp [V]
 | d::ds,h=>by
  have h1:=h.tail.1
  have h2:=aUl h.tail.2
  simp only [V,List.length_cons]
  rw [Nat.add_mul,Nat.one_mul,Nat.pow_add,Nat.mul_comm (2 ^ (ds.length * w))]
  have:2 ^ w * V w ds+2 ^ w≤2 ^ w * 2 ^ (ds.length * w):=by
   rw [← Nat.mul_succ]; exact Nat.mul_le_mul_left _ h2
  omega
theorem aRg {w:Nat}:∀ {ds:List Nat},Lt w ds→∀ i,V w ds / 2 ^ (i * w)=V w (ds.drop i)
 | ds,_,0=>by simp
 | [],_,i+1=>by simp [V]
 | d::ds,h,i+1=>by
  rw [List.drop_succ_cons, ← aRg h.tail.2 i,Nat.add_mul,Nat.one_mul,Nat.add_comm (i * w),Nat.pow_add, ← Nat.div_div_eq_div_mul]
  congr 1
  simp only [V]
  rw [Nat.add_mul_div_left _ _ (Nat.two_pow_pos w),Nat.div_eq_of_lt h.tail.1,Nat.zero_add]
theorem aVc {w:Nat} {ds:List Nat} (h:Lt w ds) {i d:Nat} (hd:ds[i]?=some d):V w ds / 2 ^ (i * w) % 2 ^ w=d:=by
 rw [aRg h,List.drop_eq_getElem_cons (List.getElem?_eq_some_iff.1 hd).1,(List.getElem?_eq_some_iff.1 hd).2,V,Nat.add_mul_mod_self_left]
 exact Nat.mod_eq_of_lt (h d (List.mem_of_getElem? hd))
def by_ (m v:Nat):List Nat:=(List.range m).map fun j=>v / 2 ^ (8 * j) % 256
theorem rR (m v:Nat):(by_ m v).length=m:=by simp [by_]
theorem aFg {m v j:Nat} (h:j<m):(by_ m v)[j]?=some (v / 2 ^ (8 * j) % 256):=by
 unfold by_
 rw [List.getElem?_map,List.getElem?_range h]; rfl
theorem aZ3 (m v:Nat):Lt 8 (by_ m v):=by
 intro d hd
 unfold by_ at hd
 obtain⟨j,_,rfl⟩:=List.mem_map.1 hd
 exact Nat.mod_lt _ (by decide)
theorem aSa {xs ys:List Nat} (hl:xs.length=ys.length) (h:∀ j:Nat,j<xs.length→xs[j]?=ys[j]?):xs=ys:=by
 apply List.ext_getElem? fun j=>?_
 rcases Nat.lt_or_ge j xs.length with hj | hj
 ·exact h j hj
 ·rw [List.getElem?_eq_none hj,List.getElem?_eq_none (by omega)]
theorem aX2:∀ (m v:Nat),v<2 ^ (8 * m)→V 8 (by_ m v)=v
 | 0,v,h=>by
  have:v=0:=by simpa using h
  subst this; rfl
 | m+1,v,h=>by
  have e:by_ (m+1) v=v % 256::by_ m (v / 256):=by
   refine aSa (by simp [rR]) fun j hj=>?_
   rw [rR] at hj
   rw [aFg hj]
   cases j with
   | zero=>simp
   | succ j =>
    rw [List.getElem?_cons_succ,aFg (by omega),show 8 * (j+1)=8+8 * j by omega,Nat.pow_add,Nat.div_div_eq_div_mul]
  rw [e,V,aX2 m (v / 256) (by rw [show 8 * (m+1)=8+8 * m by omega,Nat.pow_add] at h; exact Nat.div_lt_of_lt_mul h)]
  exact Nat.mod_add_div v 256
def bt (v i:Nat):Nat:=v / 2 ^ i % 2
theorem aM5 (v i:Nat):bt v i<2:=Nat.mod_lt _ (by decide)
theorem aFw (v i:Nat):v % 2 ^ (i+1)=v % 2 ^ i+bt v i * 2 ^ i:=by
 rw [Nat.pow_succ,Nat.mod_mul,bt,Nat.mul_comm]
theorem aZp {w:Nat} {ds:List Nat} (h:Lt w ds) {i k d:Nat} (hd:ds[i]?=some d) (hk:k<w):bt (V w ds) (i * w+k)=bt d k:=by
 unfold bt
 have hm:=aVc h hd
 rw [Nat.pow_add, ← Nat.div_div_eq_div_mul]
 conv=>rhs; rw [← hm]
 obtain⟨x,hx⟩:∃ x,x=V w ds / 2 ^ (i * w):=⟨_,rfl⟩
 rw [← hx]
 obtain⟨j,rfl⟩:∃ j,w=k+(j+1):=⟨w - k - 1,by omega⟩
 rw [Nat.pow_add,Nat.mod_mul_right_div_self,Nat.pow_succ,Nat.mul_comm (2 ^ j) 2,Nat.mod_mul_right_mod]
theorem aG5 (v i q w:Nat) (hw:0<w) (hq:q≠i / w):v % 2 ^ (i+1) / 2 ^ (q * w) % 2 ^ w=v % 2 ^ i / 2 ^ (q * w) % 2 ^ w:=by
 rw [aFw]
 rcases Nat.lt_or_ge (i / w) q with hlt | hge
 ·
  have h1:(i / w+1) * w≤q * w:=Nat.mul_le_mul_right _ hlt
  have h2:i<(i / w+1) * w:=by have h:=Nat.div_add_mod i w; have h':=Nat.mod_lt i hw; rw [Nat.add_mul,Nat.one_mul,Nat.mul_comm (i / w)]; omega
  have h3:2 ^ (i+1)≤2 ^ (q * w):=Nat.pow_le_pow_right (by decide) (by omega)
  have h4:v % 2 ^ i<2 ^ i:=Nat.mod_lt _ (Nat.two_pow_pos i)
  have h5:=aM5 v i
  have h6:bt v i * 2 ^ i≤1 * 2 ^ i:=Nat.mul_le_mul_right _ (by omega)
  rw [Nat.pow_succ] at h3
  rw [Nat.div_eq_of_lt (by omega),Nat.div_eq_of_lt (by omega)]
 ·
  have hlt:q<i / w:=by omega
  have h1:(q+1) * w≤i / w * w:=Nat.mul_le_mul_right _ hlt
  have h2:i / w * w≤i:=Nat.div_mul_le_self i w
  obtain⟨j,rfl⟩:∃ j,i=q * w+w+j:=⟨i - (q * w+w),by rw [Nat.add_mul] at h1; omega⟩
  have e:bt v (q * w+w+j) * 2 ^ (q * w+w+j)=2 ^ (q * w) * (2 ^ w * (2 ^ j * bt v (q * w+w+j))):=by
   rw [Nat.pow_add,Nat.pow_add]; ac_rfl
  rw [e,Nat.add_mul_div_left _ _ (Nat.two_pow_pos _),Nat.add_mul_mod_self_left]
theorem aB7 (v i w:Nat) (hw:0<w):v % 2 ^ (i+1) / 2 ^ (i / w * w) % 2 ^ w=v % 2 ^ i / 2 ^ (i / w * w) % 2 ^ w+bt v i * 2 ^ (i % w)∧v % 2 ^ i / 2 ^ (i / w * w) % 2 ^ w<2 ^ (i % w):=by
 obtain⟨q,hq⟩:∃ q,q=i / w * w:=⟨_,rfl⟩
 obtain⟨k,hk⟩:∃ k,k=i % w:=⟨_,rfl⟩
 have hi:i=q+k:=by rw [hq,hk,Nat.mul_comm]; exact (Nat.div_add_mod i w).symm
 have hkw:k<w:=by rw [hk]; exact Nat.mod_lt _ hw
 rw [← hq, ← hk,aFw,hi]
 have hlt:v % 2 ^ (q+k) / 2 ^ q<2 ^ k:=Nat.div_lt_of_lt_mul (by rw [← Nat.pow_add]; exact Nat.mod_lt _ (Nat.two_pow_pos _))
 have hkk:2 ^ (k+1)≤2 ^ w:=Nat.pow_le_pow_right (by decide) hkw
 rw [Nat.pow_succ] at hkk
 have hb:=aM5 v (q+k)
 have hb2:bt v (q+k) * 2 ^ k≤1 * 2 ^ k:=Nat.mul_le_mul_right _ (by omega)
 have e:bt v (q+k) * 2 ^ (q+k)=2 ^ q * (bt v (q+k) * 2 ^ k):=by rw [Nat.pow_add, ← Nat.mul_assoc, ← Nat.mul_assoc,Nat.mul_comm (bt v (q+k))]
 rw [e,Nat.add_mul_div_left _ _ (Nat.two_pow_pos q),Nat.mod_eq_of_lt (show v % 2 ^ (q+k) / 2 ^ q+bt v (q+k) * 2 ^ k<2 ^ w by omega),Nat.mod_eq_of_lt (show v % 2 ^ (q+k) / 2 ^ q<2 ^ w by omega)]
 exact⟨rfl,hlt⟩
def b0 (l:List Int):List Int:=(l.map fun x=>uv (zz x)).flatten
def yO:Int→List Int→Int
 | a,[]=>a
 | _,x::l=>yO x l
def bD:Int→List Int→List Int
 | _,[]=>[]
 | a,x::l=>uv (zz (IntKind.i64.wrap (x - a)))++bD x l
def bR:Nat→List Int→List Int
 | _,[]=>[]
 | k,[x]=>uv (zz x)++uv k
 | k,x::y::l=>if y=x then bR (k+1) (y::l) else uv (zz x)++uv k++bR 0 (y::l)
def mn:Int→List Int→Int
 | m,[]=>m
 | m,x::l=>mn (if x<m then x else m) l
def ds (lo:Int) (l:List Int):List Nat:=l.map fun x=>(x - lo).toNat
def wdt (D:List Nat):Nat:=D.foldl (fun w d=>if w<bl d then bl d else w) 0
def ofN (l:List Nat):List Int:=l.map fun (n:Nat)=>(n:Int)
def pk:List Int→List Int
 | []=>[]
 | x::l=>uv (zz (mn x l))++[(wdt (ds (mn x l) (x::l)):Int)]++ofN (by_ (((x::l).length * wdt (ds (mn x l) (x::l))+7) / 8) (V (wdt (ds (mn x l) (x::l))) (ds (mn x l) (x::l))))
def body:Nat→List Int→List Int
 | 0,l=>b0 l
 | 1,l=>bD 0 l
 | 2,l=>bR 0 l
 | _,l=>pk l
def asL (w:Nat) (l:List Int):List Int:=(w:Int)::(uv l.length++body w l)
def I64 (l:List Int):Prop:=∀ x∈l,i64 x
theorem I64.get {l:List Int} (h:I64 l) {i:Nat} {x:Int} (hx:l[i]?=some x):i64 x:=h x (List.mem_of_getElem? hx)
theorem aIx:∀ {l:List Int},I64 l→(b0 l).length≤10 * l.length
 | [],_=>by simp [b0]
 | x::l,h=>by
  have h1:=dG (aA6 (h x List.mem_cons_self))
  have h2:=aIx (l:=l) fun y hy=>h y (List.mem_cons_of_mem _ hy)
  simp only [b0,List.map_cons,List.flatten_cons,List.length_append,List.length_cons] at h2 ⊢
  omega
theorem aLj:∀ (l:List Int) (a:Int),(bD a l).length≤10 * l.length
 | [],_=>by simp [bD]
 | x::l,a=>by
  have h1:=dG (aA6 (zN (x - a)))
  have h2:=aLj l x
  simp only [bD,List.length_append,List.length_cons]
  omega
theorem aLw:∀ (l:List Int) (k:Nat),I64 l→k+l.length<18446744073709551616→(bR k l).length≤20 * l.length
 | [],_,_,_=>by simp [bR]
 | [x],k,h,hk=>by
  have h1:=dG (aA6 (h x List.mem_cons_self))
  have h2:=dG (n:=k) (by simp at hk; omega)
  simp only [bR,List.length_append,List.length_cons,List.length_nil]
  omega
 | x::y::l,k,h,hk=>by
  have h1:=dG (aA6 (h x List.mem_cons_self))
  simp only [List.length_cons] at hk
  have h2:=dG (n:=k) (by omega)
  have h':I64 (y::l):=fun z hz=>h z (List.mem_cons_of_mem _ hz)
  unfold bR
  split
  ·have:=aLw (y::l) (k+1) h' (by simp only [List.length_cons]; omega)
   simp only [List.length_cons] at this ⊢
   omega
  ·have:=aLw (y::l) 0 h' (by simp only [List.length_cons]; omega)
   simp only [List.length_append,List.length_cons] at this ⊢
   omega
theorem aT6 (l:List Int) (x:Int):b0 (l++[x])=b0 l++uv (zz x):=by simp [b0]
theorem aNx:∀ (l:List Int) (a x:Int),bD a (l++[x])=bD a l++uv (zz (IntKind.i64.wrap (x - yO a l)))
 | [],a,x=>by simp [bD,yO]
 | y::l,a,x=>by simp [bD,yO,aNx l y x]
theorem aD4:∀ (l:List Int) (a x:Int),yO a (l++[x])=x
 | [],a,x=>rfl
 | y::l,a,x=>aD4 l y x
theorem rQ {l:List Int} {k:Nat} {x:Int} (h:l[k]?=some x):l.take (k+1)=l.take k++[x]:=by rw [List.take_add_one,h]; rfl
theorem I64.take {l:List Int} (h:I64 l) (k:Nat):I64 (l.take k):=fun x hx=>h x (List.mem_of_mem_take hx)
section
variable {l pre:List Int} (hl:l.length≤4096) (hi:I64 l) (hp:pre.length≤20)
include hl hi hp
theorem bCc:loop (fun s:List Int×Int=>jW l s.1 s.2) (pre,0)=some (pre++b0 l):=by
 have:=iO (b:=fun s:List Int×Int=>jW l s.1 s.2) (fun k=>(pre++b0 (l.take k),(k:Int))) (t:=pre++b0 l) l.length (fun k hk=>by
  have hx:=List.getElem?_eq_getElem hk
  have hlen:=aIx (hi.take k)
  rw [List.length_take] at hlen
  show jW l (pre++b0 (l.take k)) (k:Int)=_
  unfold jW
  rw [if_pos (by simp only [decide_eq_true_eq]; omega),aH rfl hx]
  simp only [Option.bind_some]
  rw [aEe (hi.get hx) _ (by simp only [List.length_append]; omega)]
  simp only [Option.bind_some,lt_]
  rw [w64 (by omega) (by omega),rQ hx,aT6,List.append_assoc]
  rfl) (by
  show jW l (pre++b0 (l.take l.length)) (l.length:Int)=_
  unfold jW
  rw [if_neg (by simp),List.take_length])
 simpa [b0] using this
omit hi in
theorem bBz:loop (fun s:List Int×Int×Int=>jZ l s.1 s.2.1 s.2.2) (pre,0,0)=some (pre++bD 0 l):=by
 have:=iO (b:=fun s:List Int×Int×Int=>jZ l s.1 s.2.1 s.2.2) (fun k=>(pre++bD 0 (l.take k),yO 0 (l.take k),(k:Int))) (t:=pre++bD 0 l) l.length (fun k hk=>by
  have hx:=List.getElem?_eq_getElem hk
  have hlen:=aLj (l.take k) 0
  rw [List.length_take] at hlen
  show jZ l (pre++bD 0 (l.take k)) (yO 0 (l.take k)) (k:Int)=_
  unfold jZ
  rw [if_pos (by simp only [decide_eq_true_eq]; omega),aH rfl hx]
  simp only [Option.bind_some,lt_]
  rw [aEe (zN _) _ (by simp only [List.length_append]; omega)]
  simp only [Option.bind_some]
  rw [w64 (n:=(k:Int)+1) (by omega) (by omega),rQ hx,aNx,aD4,List.append_assoc]
  rfl) (by
  show jZ l (pre++bD 0 (l.take l.length)) (yO 0 (l.take l.length)) (l.length:Int)=_
  unfold jZ
  rw [if_neg (by simp),List.take_length])
 simpa [bD,yO] using this
end
theorem aDb (x:Int):∀ rest:List Int,∃ (m:Nat) (tl:List Int),rest=List.replicate m x++tl∧∀ y,tl[0]?=some y→y≠x
 | []=>⟨0,[],rfl,by simp⟩
 | y::rest=>by
  by_cases h:y=x
  ·obtain⟨m,tl,h1,h2⟩:=aDb x rest
   exact⟨m+1,tl,by rw [h,h1]; rfl,h2⟩
  ·exact⟨0,y::rest,rfl,fun z hz=>by cases hz; exact h⟩
theorem aLk (x:Int) (tl:List Int) (h:∀ y,tl[0]?=some y→y≠x):∀ (m k:Nat),bR k (x::(List.replicate m x++tl))=uv (zz x)++uv (k+m)++bR 0 tl
 | 0,k=>by
  cases tl with
  | nil=>simp [bR]
  | cons y tl =>
   have:=h y rfl
   simp only [List.replicate_zero,List.nil_append,bR,if_neg this,Nat.add_zero]
 | m+1,k=>by
  rw [List.replicate_succ,List.cons_append,bR,if_pos rfl,aLk x tl h m (k+1),show k+1+m=k+(m+1) by omega]
section
variable {l pre:List Int} (hl:l.length≤4096) (hi:I64 l) (hp:pre.length≤20)
include hl hi hp
theorem bBu:loop (fun s:List Int×Int=>lK l s.1 s.2) (pre,0)=some (pre++bR 0 l):=by
 obtain⟨t,ht,rfl⟩:=gN (b:=fun s:List Int×Int=>lK l s.1 s.2) (s:=(pre,0))
  (fun s=>∃ i:Nat,s.2=i∧i≤l.length∧s.1.length≤20+20 * i∧s.1++bR 0 (l.drop i)=pre++bR 0 l)
  (fun s=>((l.length:Int) - s.2).toNat) (fun t=>t=pre++bR 0 l) ⟨0,rfl,by omega,by simpa using hp,by simp⟩ (by
   rintro⟨acc,q⟩ ⟨i,hq,hil,hacc,hinv⟩
   simp only at hq hacc hinv
   subst hq
   show (∃ s',lK l acc (i:Int)=some (.inl s')∧_)∨∃ t,lK l acc (i:Int)=some (.inr t)∧_
   unfold lK
   by_cases hlt:i<l.length
   ·rw [if_pos (by simp only [decide_eq_true_eq]; omega)]
    have hx:=List.getElem?_eq_getElem hlt
    obtain⟨x,hxe⟩:∃ x,x=l[i]:=⟨_,rfl⟩
    rw [← hxe] at hx
    have hd:l.drop i=x::l.drop (i+1):=by rw [List.drop_eq_getElem_cons hlt, ← hxe]
    obtain⟨m,tl,hm,htl⟩:=aDb x (l.drop (i+1))
    have hlen:l.length=i+1+m+tl.length:=by
     have:=congrArg List.length hm
     simp only [List.length_drop,List.length_append,List.length_replicate] at this
     omega
    have hget:∀ k,k<m→l[i+1+k]?=some x:=by
     intro k hk
     have:(l.drop (i+1))[k]?=some x:=by rw [hm,List.getElem?_append_left (by simpa using hk)]; simp [hk]
     rwa [List.getElem?_drop] at this
    have hdr:l.drop (i+1+m)=tl:=by
     rw [← List.drop_drop,hm]
     exact List.drop_left' (by simp)
    
    have hin:=iO (b:=fun s:Int=>lV l (i:Int) s) (fun k=>((k+1:Nat):Int)) (t:=((m+1:Nat):Int)) m (fun k hk=>by
     show lV l (i:Int) ((k+1:Nat):Int)=_
     unfold lV
     rw [lt_,w64 (by omega) (by omega),if_pos (by simp only [decide_eq_true_eq]; omega),aH (n:=i+1+k) (by omega) (hget k hk),aH rfl hx]
     simp only [Option.bind_some]
     unfold nW
     rw [if_pos (by simp),lt_,w64 (by omega) (by omega)]
     rfl) (by
     show lV l (i:Int) ((m+1:Nat):Int)=_
     unfold lV
     rw [lt_,w64 (by omega) (by omega)]
     by_cases htz:tl.length=0
     ·rw [if_neg (by simp only [decide_eq_true_eq]; omega)]
      unfold nW
      rw [if_neg (by simp)]
     ·obtain⟨y,hy⟩:∃ y,tl[0]?=some y:=⟨_,List.getElem?_eq_getElem (by omega)⟩
      have hy':l[i+1+m]?=some y:=by rw [← hdr,List.getElem?_drop] at hy; exact hy
      rw [if_pos (by simp only [decide_eq_true_eq]; omega),aH (n:=i+1+m) (by omega) hy',aH rfl hx]
      simp only [Option.bind_some]
      unfold nW
      rw [if_neg (by simpa using htl y hy)])
    rw [show (1:Int)=((0+1:Nat):Int) from rfl,hin]
    simp only [Option.bind_some]
    unfold rY vX
    have hz:=dG (aA6 (hi.get hx))
    have hum:=dG (n:=m) (by omega)
    rw [aH rfl hx]
    simp only [Option.bind_some]
    rw [aEe (hi.get hx) _ (by omega)]
    simp only [Option.bind_some,lt_]
    rw [w64 (n:=((m+1:Nat):Int) - 1) (by omega) (by omega),show ((m+1:Nat):Int) - 1=(m:Int) by omega,aA2 (by omega) (by omega),zH m _ (by omega) (by simp only [List.length_append]; omega)]
    simp only [Option.bind_some]
    rw [w64 (by omega) (by omega)]
    refine .inl ⟨_,rfl,⟨i+1+m,?_,by omega,?_,?_⟩,?_⟩
    ·simp only; omega
    ·simp only [List.length_append]; omega
    ·rw [hdr, ← hinv,hd,hm,aLk x tl htl m 0]
     simp
    ·simp only; omega
   ·rw [if_neg (by simp only [decide_eq_true_eq]; omega)]
    refine .inr ⟨_,rfl,?_⟩
    rw [← hinv,show i=l.length by omega,List.drop_length]
    simp [bR])
 exact ht
end
theorem aD2 {k m:Nat} (h1:2 ^ k≤m) (h2:m<2 ^ (k+1)):bl m=k+1:=by
 have e:m / 2 ^ k=1:=by
  rw [Nat.pow_succ] at h2
  have:=(Nat.le_div_iff_mul_le (Nat.two_pow_pos k)).2 (show 1 * 2 ^ k≤m by omega)
  have:=(Nat.div_lt_iff_lt_mul (Nat.two_pow_pos k)).2 (show m<2 * 2 ^ k by omega)
  omega
 rw [zR k m h1,e,aIb (by decide),show 1 / 2=0 from rfl,aCl]
def aHe (m:Nat):Nat:=if m<1 then 0 else if m<2 then 1 else if m<4 then 2 else if m<8 then 3 else if m<16 then 4 else if m<32 then 5 else if m<64 then 6 else if m<128 then 7 else 8
theorem aQe {m:Nat} (h:m<256):bl m=aHe m:=by
 unfold aHe
 repeat' split
 ·rw [show m=0 by omega,aCl]
 ·exact aD2 (k:=0) (by omega) (by omega)
 ·exact aD2 (k:=1) (by omega) (by omega)
 ·exact aD2 (k:=2) (by omega) (by omega)
 ·exact aD2 (k:=3) (by omega) (by omega)
 ·exact aD2 (k:=4) (by omega) (by omega)
 ·exact aD2 (k:=5) (by omega) (by omega)
 ·exact aD2 (k:=6) (by omega) (by omega)
 ·exact aD2 (k:=7) (by omega) (by omega)
set_option maxRecDepth 100000 in
theorem aVz {m:Nat} (h:m<256) (a:Int) (ha:0≤a) (ha':a≤64):oJ (m:Int) a=some (a+(bl m:Int)):=by
 unfold oJ
 rw [lt_,u8w (by omega) (by omega),aMb]
 have key:∀ tb:List UInt8,(∀ i:Fin 256,(tb[i.val]?).map (fun b:UInt8=>b.toNat)=some (aHe i.val))→((tb[m]?).bind fun z=>(ltt (IntKind.i64.wrap (z.toNat:Int)) fun C=>(ltt (IntKind.i64.wrap (a+C)) fun G=>(some G))))=some (a+(bl m:Int)):=by
  intro tb ht
  have:=ht ⟨m,h⟩
  simp only [Option.map_eq_some_iff] at this
  obtain⟨b,hb,hs⟩:=this
  rw [hb]
  have:aHe m≤8:=by unfold aHe; (repeat' split) <;> omega
  simp only [Option.bind_some,lt_]
  rw [hs,w64 (n:=((aHe m:Nat):Int)) (by omega) (by omega),w64 (by omega) (by omega),aQe h]
 exact key _ (by decide +kernel)
theorem sh {n k:Nat} (hk:k≤64):bS .u64 (n:Int) (k:Int)=((n / 2 ^ k:Nat):Int):=nA (k:=.u64) n k hk
theorem aWo {n:Nat} (h:n<18446744073709551616):wX (n:Int)=some (bl n:Int):=by
 have j2:∀ (m a:Nat),m<65536→a≤56→oG (m:Int) (a:Int)=some ((a:Int)+(bl m:Int)):=by
  intro m a hm ha
  unfold oG
  by_cases hc:256≤m
  ·rw [if_pos (by simp only [decide_eq_true_eq]; omega),lt_,lt_]
   have e:=sh (n:=m) (k:=8) (by omega)
   rw [show ((8:Nat):Int)=8 from rfl] at e
   rw [e,w64 (by omega) (by omega),aVz (by omega) _ (by omega) (by omega),zR 8 m (by omega)]
   congr 1
   omega
  ·rw [if_neg (by simp only [decide_eq_true_eq]; omega),aVz (by omega) _ (by omega) (by omega)]
 have j1:∀ (m a:Nat),m<4294967296→a≤32→oI (m:Int) (a:Int)=some ((a:Int)+(bl m:Int)):=by
  intro m a hm ha
  unfold oI
  by_cases hc:65536≤m
  ·rw [if_pos (by simp only [decide_eq_true_eq]; omega),lt_,lt_]
   have e:=sh (n:=m) (k:=16) (by omega)
   rw [show ((16:Nat):Int)=16 from rfl] at e
   rw [e,w64 (by omega) (by omega),show (a:Int)+16=((a+16:Nat):Int) by omega,j2 _ _ (by omega) (by omega),zR 16 m (by omega)]
   congr 1
   omega
  ·rw [if_neg (by simp only [decide_eq_true_eq]; omega),j2 _ _ (by omega) (by omega)]
 unfold wX
 by_cases hc:4294967296≤n
 ·rw [if_pos (by simp only [decide_eq_true_eq]; omega),lt_]
  have e:=sh (n:=n) (k:=32) (by omega)
  rw [show ((32:Nat):Int)=32 from rfl] at e
  rw [e,show (32:Int)=((32:Nat):Int) from rfl,j1 _ _ (by omega) (by omega),zR 32 n (by omega)]
  congr 1
 ·rw [if_neg (by simp only [decide_eq_true_eq]; omega),show (0:Int)=((0:Nat):Int) from rfl,j1 _ _ (by omega) (by omega)]
  simp
theorem aNk:∀ (l:List Int) (m x:Int),mn m (l++[x])=if x<mn m l then x else mn m l
 | [],m,x=>rfl
 | y::l,m,x=>aNk l _ x
theorem aQ5:∀ (l:List Int) (m:Int),mn m l≤m∧∀ x∈l,mn m l≤x
 | [],m=>⟨Int.le_refl _,fun x h=>by cases h⟩
 | y::l,m=>by
  obtain⟨h1,h2⟩:=aQ5 l (if y<m then y else m)
  have h3:(if y<m then y else m)≤m∧(if y<m then y else m)≤y:=by split <;> omega
  refine⟨Int.le_trans h1 h3.1,fun x hx=>?_⟩
  rcases List.mem_cons.1 hx with rfl | hx
  ·exact Int.le_trans h1 h3.2
  ·exact h2 x hx
theorem aPu:∀ (l:List Int) (m:Int),mn m l=m∨mn m l∈l
 | [],m=>.inl rfl
 | y::l,m=>by
  rcases aPu l (if y<m then y else m) with h | h
  ·simp only [mn]
   rw [h]
   split
   ·exact .inr List.mem_cons_self
   ·exact .inl rfl
  ·exact .inr (List.mem_cons_of_mem _ h)
theorem aI9 {x:Int} {l:List Int} (h:I64 (x::l)):i64 (mn x l):=by
 rcases aPu l x with e | e
 ·rw [e]; exact h x List.mem_cons_self
 ·exact h _ (List.mem_cons_of_mem _ e)
theorem aV6 {x lo:Int} (hx:i64 x) (hlo:i64 lo) (h:lo≤x):IntKind.u64.wrap (IntKind.i64.wrap (x - lo))=(((x - lo).toNat:Nat):Int)∧(x - lo).toNat<18446744073709551616:=by
 unfold i64 at hx hlo
 refine⟨?_,by omega⟩
 rw [IntKind.wrap_u64,IntWalk.i64_left]
 unfold wrap64
 omega
theorem aFo (D:List Nat) (d:Nat):wdt (D++[d])=if wdt D<bl d then bl d else wdt D:=by
 unfold wdt; rw [List.foldl_append]; rfl
theorem aP5:∀ (k:Nat) (D:List Nat),D.length=k→∀ d∈D,bl d≤wdt D
 | 0,D,hk,d,hd=>by rw [List.eq_nil_of_length_eq_zero hk] at hd; cases hd
 | k+1,D,hk,d,hd=>by
  obtain⟨c,x,rfl⟩:∃ c x,D=c++[x]:=⟨D.dropLast,D.getLast (by intro e; rw [e] at hk; cases hk),(List.dropLast_concat_getLast _).symm⟩
  rw [aFo]
  rcases List.mem_append.1 hd with h | h
  ·have:=aP5 k c (by simpa using hk) d h
   split <;> omega
  ·rw [List.mem_singleton.1 h]
   split <;> omega
theorem aR8 (b:Nat):∀ (k:Nat) (D:List Nat),D.length=k→(∀ d∈D,bl d≤b)→wdt D≤b
 | 0,D,hk,_=>by rw [List.eq_nil_of_length_eq_zero hk]; simp [wdt]
 | k+1,D,hk,h=>by
  obtain⟨c,x,rfl⟩:∃ c x,D=c++[x]:=⟨D.dropLast,D.getLast (by intro e; rw [e] at hk; cases hk),(List.dropLast_concat_getLast _).symm⟩
  rw [aFo]
  have h1:=aR8 b k c (by simpa using hk) fun d hd=>h d (List.mem_append.2 (.inl hd))
  have h2:=h x (List.mem_append.2 (.inr (List.mem_singleton.2 rfl)))
  split <;> omega
theorem aPo (D:List Nat):Lt (wdt D) D:=fun d hd=>Nat.lt_of_lt_of_le (aZc d) (Nat.pow_le_pow_right (by decide) (aP5 _ D rfl d hd))
theorem aL7 {lo x:Int} {l:List Int} {i:Nat} (h:l[i]?=some x):(ds lo l)[i]?=some (x - lo).toNat:=by simp [ds,h]
theorem tZ (lo:Int) (l:List Int):(ds lo l).length=l.length:=by simp [ds]
theorem aTp {m v at':Nat} (h:at' / 8<m):(ofN (by_ m (v % 2 ^ at'))).set (at' / 8) ((v % 2 ^ at' / 2 ^ (8 * (at' / 8)) % 256+bt v at' * 2 ^ (at' % 8):Nat):Int)=ofN (by_ m (v % 2 ^ (at'+1))):=by
 unfold ofN
 rw [← List.map_set]
 congr 1
 refine aSa (by simp [rR]) fun j hj=>?_
 rw [List.length_set,rR] at hj
 rw [aFg hj]
 by_cases e:at' / 8=j
 ·subst e
  have:=(aB7 v at' 8 (by decide)).1
  rw [Nat.mul_comm (at' / 8) 8,show 2 ^ 8=256 from rfl] at this
  rw [List.getElem?_set_self (by rw [rR]; exact hj),this]
 ·have:=aG5 v at' j 8 (by decide) (Ne.symm e)
  rw [Nat.mul_comm j 8,show 2 ^ 8=256 from rfl] at this
  rw [List.getElem?_set_ne e,aFg hj,this]
theorem aUa {D:List Nat} {j d:Nat} (h:D[j]?=some d):(ofN D)[j]?=some (d:Int):=by simp [ofN,h]
theorem aBm (D:List Nat):(ofN D).length=D.length:=by simp [ofN]
section
variable {l:List Int} {lo:Int} {w:Nat} (hl:l.length≤4096) (hi:I64 l) (hlo:i64 lo) (hle:∀ x∈l,lo≤x) (hw:w≤64) (hL:Lt w (ds lo l))
include hl hi hlo hle hw hL
omit hl in
theorem aWg {i:Nat} {x:Int} (hx:l[i]?=some x) {k:Nat} (hk:k<w) :
  bS .u64 (IntKind.u64.wrap (IntKind.i64.wrap (x - lo))) (k:Int)=(((x - lo).toNat / 2 ^ k:Nat):Int)∧bt (V w (ds lo l)) (i * w+k)=(x - lo).toNat / 2 ^ k % 2∧(x - lo).toNat / 2 ^ k<18446744073709551616:=by
 obtain⟨e,e'⟩:=aV6 (hi.get hx) hlo (hle x (List.mem_of_getElem? hx))
 rw [e]
 exact⟨sh (by omega),aZp hL (aL7 hx) hk,Nat.lt_of_le_of_lt (Nat.div_le_self _ _) e'⟩
omit hi hlo hle hL in
theorem aZv {i k:Nat} (hil:i<l.length) (hk:k<w):i * w+k<l.length * w∧l.length * w≤262144∧(i * w+k) / 8<(l.length * w+7) / 8:=by
 have h1:(i+1) * w≤l.length * w:=Nat.mul_le_mul_right _ hil
 have h2:l.length * w≤4096 * 64:=Nat.mul_le_mul hl hw
 rw [Nat.add_mul] at h1
 refine⟨by omega,by omega,by omega⟩
theorem aQb {i:Nat} {x:Int} (hx:l[i]?=some x) :
  loop (fun s:Int×List Int×Int=>gY lo (w:Int) x s.1 s.2.1 s.2.2) (((i * w:Nat):Int),ofN (by_ ((l.length * w+7) / 8) (V w (ds lo l) % 2 ^ (i * w))),0)
   = some ((((i+1) * w:Nat):Int),ofN (by_ ((l.length * w+7) / 8) (V w (ds lo l) % 2 ^ ((i+1) * w)))):=by
 have hil:=(List.getElem?_eq_some_iff.1 hx).1
 have:=iO (b:=fun s:Int×List Int×Int=>gY lo (w:Int) x s.1 s.2.1 s.2.2) (fun k=>(((i * w+k:Nat):Int),ofN (by_ ((l.length * w+7) / 8) (V w (ds lo l) % 2 ^ (i * w+k))),(k:Int))) (t:=((((i+1) * w:Nat):Int),ofN (by_ ((l.length * w+7) / 8) (V w (ds lo l) % 2 ^ ((i+1) * w))))) w (fun k hk=>by
  obtain⟨h1,h2,h3⟩:=aZv hl hw hil hk
  obtain⟨e1,e2,e3⟩:=aWg hi hlo hle hw hL hx hk
  show gY lo (w:Int) x ((i * w+k:Nat):Int) (ofN (by_ ((l.length * w+7) / 8) (V w (ds lo l) % 2 ^ (i * w+k)))) (k:Int)=_
  have hstep:=aTp (v:=V w (ds lo l)) h3
  have hcur:V w (ds lo l) % 2 ^ (i * w+k) / 2 ^ (8 * ((i * w+k) / 8)) % 256<2 ^ ((i * w+k) % 8):=by
   have:=(aB7 (V w (ds lo l)) (i * w+k) 8 (by decide)).2
   rwa [Nat.mul_comm ((i * w+k) / 8) 8] at this
  rw [show i * w+(k+1)=i * w+k+1 by omega]
  generalize i * w+k=a at h1 h3 e2 hstep hcur ⊢
  have hget:=aUa (aFg (v:=V w (ds lo l) % 2 ^ a) h3)
  unfold gY
  rw [if_pos (by simp only [decide_eq_true_eq]; omega),lt_,show ((a:Nat):Int).tdiv 8=((a / 8:Nat):Int) from rfl,w64 (n:=((a / 8:Nat):Int)) (by omega) (by omega),aH rfl hget]
  simp only [Option.bind_some,lt_]
  rw [aW (by omega),e1,show ((a:Nat):Int).tmod 8=((a % 8:Nat):Int) from rfl,aW (by omega)]
  have hand:yQ .u64 (((x - lo).toNat / 2 ^ k:Nat):Int) 1=((bt (V w (ds lo l)) a:Nat):Int):=by
   have:=aFe (a:=(x - lo).toNat / 2 ^ k) (b:=1) e3 (by omega)
   rw [show ((1:Nat):Int)=1 from rfl] at this
   rw [this,aQ6,e2]
  have hb:=aM5 (V w (ds lo l)) a
  have hp8:2 ^ (a % 8)≤2 ^ 7:=Nat.pow_le_pow_right (by decide) (by omega)
  have hbp:bt (V w (ds lo l)) a * 2 ^ (a % 8)≤1 * 2 ^ (a % 8):=Nat.mul_le_mul_right _ (by omega)
  have hm:bt (V w (ds lo l)) a * 2 ^ (a % 8) % 256=bt (V w (ds lo l)) a * 2 ^ (a % 8):=Nat.mod_eq_of_lt (by omega)
  rw [hand,u8w (by omega) (by omega),aT0 _ _ (by omega),hm,aQ3 (by omega) (by omega),aC9 hcur,w64 (by omega) (by omega),w64 (by omega) (by omega),Int.toNat_natCast,hstep]
  rfl) (by
  show gY lo (w:Int) x ((i * w+w:Nat):Int) (ofN (by_ ((l.length * w+7) / 8) (V w (ds lo l) % 2 ^ (i * w+w)))) (w:Int)=_
  unfold gY
  rw [if_neg (by simp),show i * w+w=(i+1) * w by rw [Nat.add_mul,Nat.one_mul]])
 simpa using this
theorem aT1:loop (fun s:Int×List Int×Int=>gU l lo (w:Int) s.1 s.2.1 s.2.2) (0,List.replicate ((l.length * w+7) / 8) 0,0)=some (ofN (by_ ((l.length * w+7) / 8) (V w (ds lo l)))):=by
 have:=iO (b:=fun s:Int×List Int×Int=>gU l lo (w:Int) s.1 s.2.1 s.2.2) (fun i=>(((i * w:Nat):Int),ofN (by_ ((l.length * w+7) / 8) (V w (ds lo l) % 2 ^ (i * w))),(i:Int))) (t:=ofN (by_ ((l.length * w+7) / 8) (V w (ds lo l)))) l.length (fun i hil=>by
  have hx:=List.getElem?_eq_getElem hil
  show gU l lo (w:Int) ((i * w:Nat):Int) (ofN (by_ ((l.length * w+7) / 8) (V w (ds lo l) % 2 ^ (i * w)))) (i:Int)=_
  unfold gU
  rw [if_pos (by simp only [decide_eq_true_eq]; omega),aH rfl hx]
  simp only [Option.bind_some]
  rw [aQb hl hi hlo hle hw hL hx]
  simp only [Option.bind_some]
  unfold qI sV
  rw [lt_,w64 (by omega) (by omega)]
  rfl) (by
  show gU l lo (w:Int) ((l.length * w:Nat):Int) (ofN (by_ ((l.length * w+7) / 8) (V w (ds lo l) % 2 ^ (l.length * w)))) (l.length:Int)=_
  unfold gU
  have hv:=aUl hL
  rw [tZ] at hv
  rw [if_neg (by simp),Nat.mod_eq_of_lt hv])
 have e0:ofN (by_ ((l.length * w+7) / 8) (V w (ds lo l) % 2 ^ (0 * w)))=List.replicate ((l.length * w+7) / 8) 0:=by
  rw [Nat.zero_mul,Nat.pow_zero,Nat.mod_one]
  unfold ofN by_
  rw [List.map_map,List.eq_replicate_iff]
  refine⟨by simp,fun b hb=>?_⟩
  obtain⟨j,_,rfl⟩:=List.mem_map.1 hb
  simp
 rw [e0] at this
 simpa using this
end
section
variable {l:List Int} {lo:Int} {w:Nat} (hl:l.length≤4096) (hi:I64 l) (hlo:i64 lo) (hle:∀ x∈l,lo≤x) (hw:w≤64) (hL:Lt w (ds lo l)) {pre:List Int} (hp:pre.length≤100)
include hl hi hlo hle hw hL hp
end
theorem aTc {x:Int} {l:List Int} (hl:(x::l).length≤4096):iG (x::l)=some (mn x l):=by
 simp only [List.length_cons] at hl
 unfold iG
 rw [if_neg (by simp only [decide_eq_true_eq,List.length_cons]; omega),show at_ (x::l) 0=some x from rfl]
 simp only [Option.bind_some]
 have:=iO (b:=fun s:Int×Int=>cJ (x::l) s.1 s.2) (fun k=>(mn x (l.take k),((k+1:Nat):Int))) (t:=mn x l) l.length (fun k hk=>by
  have hx:=List.getElem?_eq_getElem hk
  show cJ (x::l) (mn x (l.take k)) ((k+1:Nat):Int)=_
  unfold cJ
  rw [if_pos (by simp only [decide_eq_true_eq,List.length_cons]; omega),aH rfl (by rw [List.getElem?_cons_succ]; exact hx)]
  simp only [Option.bind_some,lt_]
  rw [w64 (by omega) (by omega),rQ hx,aNk]
  rfl) (by
  show cJ (x::l) (mn x (l.take l.length)) ((l.length+1:Nat):Int)=_
  unfold cJ
  rw [if_neg (by simp),List.take_length])
 rw [show ((x,1):Int×Int)=(fun k=>(mn x (l.take k),((k+1:Nat):Int))) 0 from rfl,this]
 rfl
section
variable {l:List Int} {lo:Int} (hl:l.length≤4096) (hi:I64 l) (hlo:i64 lo) (hle:∀ x∈l,lo≤x)
include hl hi hlo hle
omit hl in
theorem aZ1:∀ d∈ds lo l,bl d≤64:=by
 intro d hd
 obtain⟨x,hx,rfl⟩:=List.mem_map.1 hd
 exact aU5 64 _ (aV6 (hi x hx) hlo (hle x hx)).2
omit hl in
theorem aIm (k:Nat):wdt ((ds lo l).take k)≤64:=aR8 64 _ _ rfl fun d hd=>aZ1 hi hlo hle d (List.mem_of_mem_take hd)
theorem aS7:loop (fun s:Int×Int=>iA l lo s.1 s.2) (0,0)=some (wdt (ds lo l):Int):=by
 have:=iO (b:=fun s:Int×Int=>iA l lo s.1 s.2) (fun k=>((wdt ((ds lo l).take k):Int),(k:Int))) (t:=(wdt (ds lo l):Int)) l.length (fun k hk=>by
  have hx:=List.getElem?_eq_getElem hk
  obtain⟨e,e'⟩:=aV6 (hi.get hx) hlo (hle _ (List.mem_of_getElem? hx))
  show iA l lo (wdt ((ds lo l).take k):Int) (k:Int)=_
  unfold iA
  rw [if_pos (by simp only [decide_eq_true_eq]; omega),aH rfl hx]
  simp only [Option.bind_some,lt_]
  rw [e,aWo e']
  simp only [Option.bind_some]
  rw [w64 (by omega) (by omega),List.take_add_one (i:=k),aL7 hx]
  show some (Sum.inl _)=some (Sum.inl (((wdt ((ds lo l).take k++[(l[k] - lo).toNat]):Nat):Int),((k+1:Nat):Int)))
  rw [aFo]
  congr 3
  split <;> split <;> omega) (by
  show iA l lo (wdt ((ds lo l).take l.length):Int) (l.length:Int)=_
  unfold iA
  rw [if_neg (by simp),List.take_of_length_le (by rw [tZ]; exact Nat.le_refl _)])
 simpa [wdt] using this
end
theorem aJi {x:Int} {l:List Int}:∀ y∈x::l,mn x l≤y:=fun y hy=>by
 rcases List.mem_cons.1 hy with rfl | h
 ·exact (aQ5 l y).1
 ·exact (aQ5 l x).2 y h
theorem bA2 {l pre:List Int} (hl:l.length≤4096) (hi:I64 l) (hp:pre.length≤20):rT pre l=some (pre++pk l):=by
 cases l with
 | nil=>simp [rT,pk]
 | cons x l =>
  have hlo:=aI9 hi
  have hle:=aJi (x:=x) (l:=l)
  unfold rT
  rw [if_neg (by simp; omega),aTc hl]
  simp only [Option.bind_some]
  rw [aS7 hl hi hlo hle]
  simp only [Option.bind_some]
  have hw:wdt (ds (mn x l) (x::l))≤64:=by
   have:=aIm hi hlo hle (x::l).length
   rwa [List.take_of_length_le (by rw [tZ]; exact Nat.le_refl _)] at this
  have hL:=aPo (ds (mn x l) (x::l))
  have hz:=dG (aA6 hlo)
  simp only [pk]
  generalize wdt (ds (mn x l) (x::l))=w at hw hL ⊢
  have h2:(x::l).length * w≤4096 * 64:=Nat.mul_le_mul hl hw
  unfold qH tF
  rw [aEe hlo _ (by omega)]
  simp only [Option.bind_some,lt_]
  rw [u8w (n:=(w:Int)) (by omega) (by omega),aW (by simp only [List.length_append,List.length_singleton]; omega), ← Int.natCast_mul,w64 (n:=(((x::l).length * w:Nat):Int)) (by omega) (by omega),w64 (n:=(((x::l).length * w:Nat):Int)+7) (by omega) (by omega),
   show ((((x::l).length * w:Nat):Int)+7).tdiv 8=((((x::l).length * w+7) / 8:Nat):Int) from rfl,w64 (by omega) (by omega),aW (by omega),Int.toNat_natCast,aT1 hl hi hlo hle hw hL]
  simp only [Option.bind_some]
  unfold qB sT
  rw [aW (by simp only [List.length_append,List.length_singleton,aBm,rR]; omega)]
  simp
theorem aW7 {w:Nat} {l:List Int} (hw:w<4) (hl:l.length≤4096) (hi:I64 l):tL (w:Int) l=some (asL w l):=by
 have hu:=dG (n:=l.length) (by omega)
 unfold tL
 rw [lt_,aA2 (by omega) (by omega),zH _ _ (by omega) (by simp; omega)]
 simp only [Option.bind_some]
 have hp:([(w:Int)]++uv l.length).length≤20:=by simp; omega
 unfold asL
 match w,hw with
 | 0,_ =>
  rw [if_pos (by rfl),bCc hl hi hp]
  simp [sJ,vL,gW,body]
 | 1,_ =>
  rw [if_neg (by decide),if_pos (by rfl),bBz hl hp]
  simp [sH,vK,gW,body]
 | 2,_ =>
  rw [if_neg (by decide),if_neg (by decide),if_pos (by rfl),bBu hl hi hp]
  simp [sR,vO,gW,body]
 | 3,_ =>
  rw [if_neg (by decide),if_neg (by decide),if_neg (by decide),if_pos (by rfl),bA2 hl hi hp]
  simp [gW,body]
def gZ (a b:List Int):List Int:=if b.length<a.length then b else a
def fL (l:List Int):List Int:=gZ (gZ (gZ (asL 0 l) (asL 1 l)) (asL 2 l)) (asL 3 l)
theorem zS {l:List Int} (hl:l.length≤4096) (hi:I64 l):lU l=some (fL l):=by
 have hA:∀ w:Nat,w<4→tL (w:Int) l=some (asL w l):=fun w hw=>aW7 hw hl hi
 unfold fL
 unfold lU
 obtain⟨p,hp⟩:∃ p:Nat→List Int,∀ w,p w=asL w l:=⟨_,fun _=>rfl⟩
 have step:∀ (b:List Int) (w:Nat),1≤w→w<4→fK l b (w:Int)=some (.inl (gZ b (p w),((w+1:Nat):Int))):=by
  intro b w h1 h4
  unfold fK pK gZ
  rw [if_pos (by simp only [decide_eq_true_eq]; omega),hA w h4,hp]
  simp only [Option.bind_some,lt_]
  rw [u8w (by omega) (by omega)]
  by_cases h:(asL w l).length<b.length
  ·rw [if_pos (by simp only [decide_eq_true_eq]; omega),if_pos h]; rfl
  ·rw [if_neg (by simp only [decide_eq_true_eq]; omega),if_neg h]; rfl
 have h0:=hA 0 (by decide)
 rw [show ((0:Nat):Int)=0 from rfl] at h0
 rw [h0, ← hp 0, ← hp 1, ← hp 2, ← hp 3]
 clear hA h0 hp
 simp only [Option.bind_some]
 have h4:∀ b,fK l b ((4:Nat):Int)=some (.inr b):=by
  intro b
  unfold fK
  rw [if_neg (by decide)]
 have:=((dD (b:=fun s:List Int×Int=>fK l s.1 s.2) (s:=(p 0,((1:Nat):Int))) (step (p 0) 1 (by decide) (by decide))).trans
  ((dD (b:=fun s:List Int×Int=>fK l s.1 s.2) (s:=(gZ (p 0) (p 1),((2:Nat):Int))) (step _ 2 (by decide) (by decide))).trans
  ((dD (b:=fun s:List Int×Int=>fK l s.1 s.2) (s:=(gZ (gZ (p 0) (p 1)) (p 2),((3:Nat):Int))) (step _ 3 (by decide) (by decide))).trans (bJ (b:=fun s:List Int×Int=>fK l s.1 s.2) (s:=(gZ (gZ (gZ (p 0) (p 1)) (p 2)) (p 3),((4:Nat):Int))) (h4 _)))))
 rw [show (1:Int)=((1:Nat):Int) from rfl,this]
 rfl
def yX:Nat→List Int→Option (List Int×List Int)
 | 0,xs=>some ([],xs)
 | n+1,xs=>match pI xs with
  | some (x,r)=>match yX n r with
   | some (l,r')=>some (x::l,r')
   | none=>none
  | none=>none
def pD:Int→Nat→List Int→Option (List Int×List Int)
 | _,0,xs=>some ([],xs)
 | a,n+1,xs=>match pI xs with
  | some (x,r)=>match pD (IntKind.i64.wrap (a+x)) n r with
   | some (l,r')=>some (IntKind.i64.wrap (a+x)::l,r')
   | none=>none
  | none=>none
def pR:Nat→Nat→List Int→Option (List Int×List Int)
 | 0,_,xs=>some ([],xs)
 | f+1,n,xs=>if n=0 then some ([],xs) else match pI xs with
  | some (x,r)=>match pU ((n - 1:Nat):Int) r with
   | some (k,r')=>match pR f (n - (k.toNat+1)) r' with
    | some (l,r'')=>some (List.replicate (k.toNat+1) x++l,r'')
    | none=>none
   | none=>none
  | none=>none
def toN (xs:List Int):List Nat:=xs.map Int.toNat
def aCr (n w v:Nat):List Int:=(List.range n).map fun q=>IntKind.i64.wrap ((v / 2 ^ (q * w) % 2 ^ w:Nat):Int)
def pP (n:Nat) (xs:List Int):Option (List Int×List Int):=match pI xs with
 | some (lo,r)=>match pB r with
  | some (w,r')=>if w≤64∧r'.length=(n * w.toNat+7) / 8∧V 8 (toN r')<2 ^ (n * w.toNat) then some ((aCr n w.toNat (V 8 (toN r'))).map fun x=>IntKind.i64.wrap (x+lo),[]) else none
  | none=>none
 | none=>none
def aGy (w:Int) (n:Nat) (r:List Int):Option (List Int×List Int) :=
 if w=0 then yX n r else if w=1 then pD 0 n r else if w=2 then pR n n r else if 0<n then pP n r else some ([],r)
def aDw (xs:List Int):Option (List Int×List Int):=match pB xs with
 | some (w,r)=>if w≤3 then (match pU 4096 r with
  | some (n,r')=>aGy w n.toNat r'
  | none=>none) else none
 | none=>none
theorem aU2 {xs r:List Int} {b:Int} (hB:Bs xs) (h:pB xs=some (b,r)):(0≤b∧b<256)∧Bs r∧xs=b::r:=by
 cases xs with
 | nil=>cases h
 | cons c xs=>cases h; exact⟨hB.cons.1,hB.cons.2,rfl⟩
theorem aHi (n:Nat) (hn:n≤4096):∀ (m k:Nat) (acc xs:List Int),Bs xs→k+m=n→acc.length=k →
  ∃ y,loop (fun s:List Int×List Int×Int=>cX (n:Int) s.1 s.2.1 s.2.2) (xs,acc,(k:Int))=some y∧match yX m xs with
   | some (l,r)=>y=.inl (r,acc++l)
   | none=>∃ s,y=.inr (.inr s)
 | 0,k,acc,xs,hB,hk,ha=>by
  refine⟨_,bJ (t:=Sum.inl (xs,acc)) ?_,by simp [yX]⟩
  show cX (n:Int) xs acc (k:Int)=_
  unfold cX
  rw [if_neg (by simp only [decide_eq_true_eq]; omega)]
 | m+1,k,acc,xs,hB,hk,ha=>by
  unfold yX
  rcases (aIh hB).cases with ⟨x,r,h1,h2⟩ | ⟨h1,s,h2⟩
  ·rw [h1]
   obtain⟨y,hy,hm⟩:=aHi n hn m (k+1) (acc++[x]) r (aMu hB h1).1 (by omega) (by simp [ha])
   refine⟨y,(dD (s':=(r,acc++[x],((k+1:Nat):Int))) ?_).trans hy,?_⟩
   ·show cX (n:Int) xs acc (k:Int)=_
    unfold cX
    rw [if_pos (by simp only [decide_eq_true_eq]; omega),h2]
    simp only [Option.bind_some,nL,lt_]
    rw [aW (by simp; omega),w64 (by omega) (by omega)]
    rfl
   ·simp only
    revert hm
    cases yX m r with
    | none=>exact id
    | some q=>intro hm; simpa using hm
  ·rw [h1]
   refine⟨_,bJ (t:=Sum.inr (.inr s)) ?_,s,rfl⟩
   show cX (n:Int) xs acc (k:Int)=_
   unfold cX
   rw [if_pos (by simp only [decide_eq_true_eq]; omega),h2]
   rfl
theorem aS1 {n:Nat} (hn:n≤4096) {xs:List Int} (hB:Bs xs):IsR (lP (n:Int) ⟨xs⟩) (yX n xs):=by
 obtain⟨y,hy,hm⟩:=aHi n hn n 0 [] xs hB (by omega) rfl
 unfold lP
 rw [show (0:Int)=((0:Nat):Int) from rfl,hy]
 simp only [Option.bind_some]
 revert hm
 cases yX n xs with
 | none=>rintro⟨s,rfl⟩; exact⟨s,rfl⟩
 | some q=>intro hm; subst hm; rfl
theorem aM9 (n:Nat) (hn:n≤4096):∀ (m k:Nat) (a:Int) (acc xs:List Int),Bs xs→k+m=n→acc.length=k →
  ∃ y,loop (fun s:List Int×List Int×Int×Int=>gE (n:Int) s.1 s.2.1 s.2.2.1 s.2.2.2) (xs,acc,a,(k:Int))=some y∧match pD a m xs with
   | some (l,r)=>y=.inl (r,acc++l)
   | none=>∃ s,y=.inr (.inr s)
 | 0,k,a,acc,xs,hB,hk,ha=>by
  refine⟨_,bJ (t:=Sum.inl (xs,acc)) ?_,by simp [pD]⟩
  show gE (n:Int) xs acc a (k:Int)=_
  unfold gE
  rw [if_neg (by simp only [decide_eq_true_eq]; omega)]
 | m+1,k,a,acc,xs,hB,hk,ha=>by
  unfold pD
  rcases (aIh hB).cases with ⟨x,r,h1,h2⟩ | ⟨h1,s,h2⟩
  ·rw [h1]
   obtain⟨y,hy,hm⟩:=aM9 n hn m (k+1) (IntKind.i64.wrap (a+x)) (acc++[IntKind.i64.wrap (a+x)]) r (aMu hB h1).1 (by omega) (by simp [ha])
   refine⟨y,(dD (s':=(r,acc++[IntKind.i64.wrap (a+x)],IntKind.i64.wrap (a+x),((k+1:Nat):Int))) ?_).trans hy,?_⟩
   ·show gE (n:Int) xs acc a (k:Int)=_
    unfold gE
    rw [if_pos (by simp only [decide_eq_true_eq]; omega),h2]
    simp only [Option.bind_some,nL,lt_]
    rw [aW (by simp; omega),w64 (n:=(k:Int)+1) (by omega) (by omega)]
    rfl
   ·simp only
    revert hm
    cases pD (IntKind.i64.wrap (a+x)) m r with
    | none=>exact id
    | some q=>intro hm; simpa using hm
  ·rw [h1]
   refine⟨_,bJ (t:=Sum.inr (.inr s)) ?_,s,rfl⟩
   show gE (n:Int) xs acc a (k:Int)=_
   unfold gE
   rw [if_pos (by simp only [decide_eq_true_eq]; omega),h2]
   rfl
theorem aPj (y:Int×S157) (k:Nat) (acc:List Int) (h:acc.length+k≤8192):loop (fun s:List Int×Int=>iB y (k:Int) s.1 s.2) (acc,0)=some (acc++List.replicate k y.1):=by
 have:=iO (b:=fun s:List Int×Int=>iB y (k:Int) s.1 s.2) (fun j=>(acc++List.replicate j y.1,(j:Int))) (t:=acc++List.replicate k y.1) k (fun j hj=>by
  show iB y (k:Int) (acc++List.replicate j y.1) (j:Int)=_
  unfold iB
  rw [if_pos (by simp only [decide_eq_true_eq]; omega),aW (by simp; omega),lt_,aA2 (by omega) (by omega),List.replicate_succ',List.append_assoc]
  rfl) (by
  show iB y (k:Int) (acc++List.replicate k y.1) (k:Int)=_
  unfold iB
  rw [if_neg (by simp)])
 simpa using this
theorem aNe (n:Nat) (hn:n≤4096):∀ (f m:Nat) (acc xs:List Int),Bs xs→acc.length+m=n→m≤f →
  ∃ y,loop (fun s:List Int×List Int=>dT (n:Int) s.1 s.2) (xs,acc)=some y∧match pR f m xs with
   | some (l,r)=>y=.inl (r,acc++l)
   | none=>∃ s,y=.inr (.inr s)
 | 0,m,acc,xs,hB,hk,hf=>by
  refine⟨_,bJ (t:=Sum.inl (xs,acc)) ?_,by simp [pR]⟩
  show dT (n:Int) xs acc=_
  unfold dT
  rw [if_neg (by simp only [decide_eq_true_eq]; omega)]
 | f+1,m,acc,xs,hB,hk,hf=>by
  unfold pR
  by_cases hm0:m=0
  ·rw [if_pos hm0]
   refine⟨_,bJ (t:=Sum.inl (xs,acc)) ?_,by simp⟩
   show dT (n:Int) xs acc=_
   unfold dT
   rw [if_neg (by simp only [decide_eq_true_eq]; omega)]
  ·rw [if_neg hm0]
   rcases (aIh hB).cases with ⟨x,r,h1,h2⟩ | ⟨h1,s,h2⟩
   ·rw [h1]
    simp only
    have hBr:=(aMu hB h1).1
    have e1:IntKind.u64.wrap (IntKind.i64.wrap (IntKind.i64.wrap ((n:Int) - (acc.length:Int)) - 1))=((m - 1:Nat):Int):=by
     rw [w64 (n:=(n:Int) - (acc.length:Int)) (by omega) (by omega),w64 (by omega) (by omega),aA2 (by omega) (by omega)]
     omega
    rcases (aCq ((m - 1:Nat):Int) hBr).cases with ⟨k,r',h3,h4⟩ | ⟨h3,s,h4⟩
    ·rw [h3]
     simp only
     obtain⟨q1,q2,q3⟩:=(rG h3).1
     obtain⟨c,rfl⟩:∃ c:Nat,k=(c:Int):=⟨k.toNat,by omega⟩
     rw [Int.toNat_natCast]
     obtain⟨y,hy,hm⟩:=aNe n hn f (m - (c+1)) (acc++List.replicate (c+1) x) r' (aK0 hBr h3) (by simp; omega) (by omega)
     refine⟨y,(dD (s':=(r',acc++List.replicate (c+1) x)) ?_).trans hy,?_⟩
     ·show dT (n:Int) xs acc=_
      unfold dT
      rw [if_pos (by simp only [decide_eq_true_eq]; omega),h2]
      simp only [Option.bind_some,nL,lt_]
      rw [e1,h4]
      simp only [Option.bind_some,nL]
      rw [aA2 (by omega) (by omega),show (1:Int)+(c:Int)=((c+1:Nat):Int) by omega,aPj _ _ _ (by omega)]
      rfl
     ·revert hm
      cases pR f (m - (c+1)) r' with
      | none=>exact id
      | some q=>intro hm; simpa using hm
    ·rw [h3]
     refine⟨_,bJ (t:=Sum.inr (.inr s)) ?_,s,rfl⟩
     show dT (n:Int) xs acc=_
     unfold dT
     rw [if_pos (by simp only [decide_eq_true_eq]; omega),h2]
     simp only [Option.bind_some,nL,lt_]
     rw [e1,h4]
     rfl
   ·rw [h1]
    refine⟨_,bJ (t:=Sum.inr (.inr s)) ?_,s,rfl⟩
    show dT (n:Int) xs acc=_
    unfold dT
    rw [if_pos (by simp only [decide_eq_true_eq]; omega),h2]
    rfl
theorem aTu {xs:List Int} (hB:Bs xs) {j:Nat} (h:j<xs.length):∃ b:Nat,xs[j]?=some (b:Int)∧(toN xs)[j]?=some b∧b<256:=by
 have hx:=List.getElem?_eq_getElem h
 have:=hB _ (List.mem_of_getElem? hx)
 refine⟨xs[j].toNat,by rw [hx]; congr 1; omega,by simp [toN,hx],by omega⟩
theorem aW3 {xs:List Int} (hB:Bs xs):Lt 8 (toN xs):=by
 intro d hd
 obtain⟨b,hb,rfl⟩:=List.mem_map.1 hd
 have:=hB b hb
 omega
theorem oZ (n w v:Nat):(aCr n w v).length=n:=by simp [aCr]
theorem aCi {n w v q:Nat} (h:q<n):(aCr n w v)[q]?=some (IntKind.i64.wrap ((v / 2 ^ (q * w) % 2 ^ w:Nat):Int)):=by
 unfold aCr
 rw [List.getElem?_map,List.getElem?_range h]; rfl
theorem aNi {xs ys:List Int} (hl:xs.length=ys.length) (h:∀ j:Nat,j<xs.length→xs[j]?=ys[j]?):xs=ys:=by
 apply List.ext_getElem? fun j=>?_
 rcases Nat.lt_or_ge j xs.length with hj | hj
 ·exact h j hj
 ·rw [List.getElem?_eq_none hj,List.getElem?_eq_none (by omega)]
theorem aGb (a:Nat):BitVec.ofInt 64 (IntKind.i64.wrap (a:Int))=BitVec.ofNat 64 a:=by
 apply BitVec.eq_of_toNat_eq
 rw [BitVec.toNat_ofInt,BitVec.toNat_ofNat,IntWalk.i64_left]
 unfold wrap64
 omega
theorem aRj (a b:Nat) (ha:a<18446744073709551616) (hb:b<18446744073709551616):ior .i64 (IntKind.i64.wrap (a:Int)) (IntKind.i64.wrap (b:Int))=IntKind.i64.wrap ((a ||| b:Nat):Int):=by
 show IntKind.i64.wrap (((BitVec.ofInt 64 (IntKind.i64.wrap (a:Int)) ||| BitVec.ofInt 64 (IntKind.i64.wrap (b:Int))).toNat:Nat):Int)=_
 rw [aGb,aGb,BitVec.toNat_or,BitVec.toNat_ofNat,BitVec.toNat_ofNat,Nat.mod_eq_of_lt (show a<2 ^ 64 by omega),Nat.mod_eq_of_lt (show b<2 ^ 64 by omega)]
theorem aOl {n w v i:Nat} (hw:0<w) (h:i / w<n):(aCr n w (v % 2 ^ i)).set (i / w) (IntKind.i64.wrap ((v % 2 ^ i / 2 ^ (i / w * w) % 2 ^ w+bt v i * 2 ^ (i % w):Nat):Int))=aCr n w (v % 2 ^ (i+1)):=by
 refine aNi (by simp [oZ]) fun j hj=>?_
 rw [List.length_set,oZ] at hj
 rw [aCi hj]
 by_cases e:i / w=j
 ·subst e
  rw [List.getElem?_set_self (by rw [oZ]; exact hj),(aB7 v i w hw).1]
 ·rw [List.getElem?_set_ne e,aCi hj,aG5 v i j w hw (Ne.symm e)]
theorem aJ7 {n w:Nat} (hn:n≤4096) (hw:w≤64) {xs:List Int} (hB:Bs xs) (hlen:xs.length=(n * w+7) / 8) :
  ∃ y,loop (fun s:List Int×List Int×Int=>gO (n:Int) (w:Int) ((8 * xs.length:Nat):Int) s.1 s.2.1 s.2.2) (xs,List.replicate n 0,0)=some y ∧
   ((V 8 (toN xs)<2 ^ (n * w)∧y=.inl (xs,aCr n w (V 8 (toN xs))))∨(¬ V 8 (toN xs)<2 ^ (n * w)∧∃ s,y=.inr (.inr s))):=by
 have hnw:n * w≤4096 * 64:=Nat.mul_le_mul hn hw
 have hL:=aW3 hB
 have hvt:V 8 (toN xs)<2 ^ (8 * xs.length):=by
  have:=aUl hL
  rw [show (toN xs).length=xs.length by simp [toN],Nat.mul_comm] at this
  exact this
 obtain⟨v,hv⟩:∃ v,v=V 8 (toN xs):=⟨_,rfl⟩
 have hbt:∀ j t b,(toN xs)[j]?=some b→t<8→bt v (j * 8+t)=bt b t:=fun j t b hb ht=>by rw [hv]; exact aZp hL hb ht
 rw [← hv] at hvt ⊢
 clear hv hL
 refine gN (b:=fun s:List Int×List Int×Int=>gO (n:Int) (w:Int) ((8 * xs.length:Nat):Int) s.1 s.2.1 s.2.2) (s:=(xs,List.replicate n 0,0))
  (fun s=>∃ i:Nat,s=(xs,aCr n w (v % 2 ^ i),(i:Int))∧i≤8 * xs.length∧(n * w≤i→v % 2 ^ i<2 ^ (n * w))) (fun s=>(((8 * xs.length:Nat):Int) - s.2.2).toNat)
  (fun y=>(v<2 ^ (n * w)∧y=.inl (xs,aCr n w v))∨(¬ v<2 ^ (n * w)∧∃ s,y=.inr (.inr s))) ⟨0,?_,by omega,fun _=>by rw [Nat.pow_zero,Nat.mod_one]; exact Nat.two_pow_pos _⟩ ?_
 ·rw [Nat.pow_zero,Nat.mod_one,show aCr n w 0=List.replicate n 0 by
   unfold aCr
   rw [List.eq_replicate_iff]
   refine⟨by simp,fun b hb=>?_⟩
   obtain⟨q,_,rfl⟩:=List.mem_map.1 hb
   simp
   rfl]
  rfl
 ·rintro s ⟨i,rfl,hit,hz⟩
  show (∃ s',gO (n:Int) (w:Int) ((8 * xs.length:Nat):Int) xs (aCr n w (v % 2 ^ i)) (i:Int)=some (.inl s')∧_)∨∃ t,gO (n:Int) (w:Int) ((8 * xs.length:Nat):Int) xs (aCr n w (v % 2 ^ i)) (i:Int)=some (.inr t)∧_
  unfold gO
  by_cases hlt:i<8 * xs.length
  ·obtain⟨b,hb1,hb2,hb3⟩:=aTu hB (j:=i / 8) (by omega)
   have hbit:=hbt (i / 8) (i % 8) b hb2 (by omega)
   rw [show i / 8 * 8+i % 8=i by omega] at hbit
   have hb:=aM5 v i
   have e1:bS .u8 (b:Int) ((i % 8:Nat):Int)=((b / 2 ^ (i % 8):Nat):Int):=nA (k:=.u8) b (i % 8) (by show _≤8; omega)
   have e0:b / 2 ^ (i % 8)≤b:=Nat.div_le_self _ _
   have e2:yQ .u64 ((b / 2 ^ (i % 8):Nat):Int) 1=((bt v i:Nat):Int):=by
    have:=aFe (a:=b / 2 ^ (i % 8)) (b:=1) (by omega) (by omega)
    rw [show ((1:Nat):Int)=1 from rfl] at this
    rw [this,aQ6,hbit]; rfl
   rw [if_pos (by simp only [decide_eq_true_eq]; omega),lt_,show (i:Int).tdiv 8=((i / 8:Nat):Int) from rfl,w64 (by omega) (by omega),aH rfl hb1]
   simp only [Option.bind_some,lt_]
   rw [show (i:Int).tmod 8=((i % 8:Nat):Int) from rfl,aW (by omega),e1,aA2 (Int.natCast_nonneg _) (by omega),e2, ← Int.natCast_mul,w64 (n:=((n * w:Nat):Int)) (by omega) (by omega)]
   by_cases hin:i<n * w
   ·
    have hw0:0<w:=by rcases Nat.eq_zero_or_pos w with h | h; rw [h] at hin; simp at hin; exact h
    have hq:i / w<n:=(Nat.div_lt_iff_lt_mul hw0).2 hin
    have hk:i % w<w:=Nat.mod_lt _ hw0
    rw [if_neg (by simp only [decide_eq_true_eq]; omega),aW (by omega),show (i:Int).tdiv (w:Int)=((i / w:Nat):Int) from rfl,w64 (n:=((i / w:Nat):Int)) (Int.le_trans (by decide) (Int.natCast_nonneg _)) (by omega),aH rfl (aCi hq)]
    simp only [Option.bind_some]
    obtain⟨hnew,hcur⟩:=aB7 v i w hw0
    have hstep:=aOl (v:=v) hw0 hq
    have hp:2 ^ (i % w)≤2 ^ 63:=Nat.pow_le_pow_right (by decide) (by omega)
    have hbp:bt v i * 2 ^ (i % w)≤1 * 2 ^ (i % w):=Nat.mul_le_mul_right _ (by omega)
    have hm:bt v i * 2 ^ (i % w) % 18446744073709551616=bt v i * 2 ^ (i % w):=Nat.mod_eq_of_lt (by omega)
    rw [aW (by omega),show (i:Int).tmod (w:Int)=((i % w:Nat):Int) from rfl,aW (by omega),aK3 _ _ (by omega),hm,aRj _ _ (by omega) (by omega),aC9 hcur,Int.toNat_natCast,hstep]
    unfold kK
    rw [lt_,w64 (n:=(i:Int)+1) (by omega) (by omega)]
    exact .inl ⟨_,rfl,⟨i+1,rfl,by omega,fun h=>by
     have h1:v % 2 ^ (i+1)<2 ^ (i+1):=Nat.mod_lt _ (Nat.two_pow_pos _)
     have h2:i+1=n * w:=by omega
     rw [h2] at h1 ⊢
     exact h1⟩,by simp only; omega⟩
   ·rw [if_pos (by simp only [decide_eq_true_eq]; omega)]
    have hms:=aFw v i
    by_cases hb0:bt v i=0
    ·rw [hb0,show (((0:Nat):Int)==0)=true from rfl,rF]
     simp only [Option.bind_some,nL]
     unfold kK
     rw [lt_,w64 (n:=(i:Int)+1) (by omega) (by omega)]
     rw [hb0,Nat.zero_mul,Nat.add_zero] at hms
     exact .inl ⟨_,rfl,⟨i+1,by rw [hms]; rfl,by omega,fun _=>by rw [hms]; exact hz (by omega)⟩,by simp only; omega⟩
    ·have hb1':bt v i=1:=by omega
     rw [hb1',show (((1:Nat):Int)==0)=false from rfl,pW]
     refine .inr ⟨_,rfl,.inr ⟨fun hlt'=>?_,_,rfl⟩⟩
     have h1:2 ^ (n * w)≤2 ^ i:=Nat.pow_le_pow_right (by decide) (by omega)
     unfold bt at hb1'
     rw [Nat.div_eq_of_lt (by omega)] at hb1'
     cases hb1'
  ·have hie:i=8 * xs.length:=by omega
   rw [if_neg (by simp only [decide_eq_true_eq]; omega)]
   have hvv:v % 2 ^ i=v:=Nat.mod_eq_of_lt (by rw [hie]; exact hvt)
   rw [hvv]
   refine .inr ⟨_,rfl,.inl ⟨?_,rfl⟩⟩
   have:=hz (by omega)
   rwa [hvv] at this
theorem aL3 (lo:Int) (y:Int×S157) (hy:y.1=lo) (L:List Int) (h:L.length≤4096):loop (fun s:List Int×Int=>fQ y L s.1 s.2) (L,0)=some (L.map fun x=>IntKind.i64.wrap (x+lo)):=by
 have:=iO (b:=fun s:List Int×Int=>fQ y L s.1 s.2) (fun k=>((L.take k).map (fun x=>IntKind.i64.wrap (x+lo))++L.drop k,(k:Int))) (t:=L.map fun x=>IntKind.i64.wrap (x+lo)) L.length (fun k hk=>by
  have hx:=List.getElem?_eq_getElem hk
  have hd:L.drop k=L[k]::L.drop (k+1):=List.drop_eq_getElem_cons hk
  have hlen:((L.take k).map (fun x=>IntKind.i64.wrap (x+lo))).length=k:=by simp; omega
  show fQ y L ((L.take k).map (fun x=>IntKind.i64.wrap (x+lo))++L.drop k) (k:Int)=_
  unfold fQ
  rw [if_pos (by simp only [decide_eq_true_eq]; omega),aH (n:=k) (x:=L[k]) rfl (by rw [List.getElem?_append_right (by omega),hlen,Nat.sub_self,hd]; rfl)]
  simp only [Option.bind_some,lt_]
  rw [hy,w64 (n:=(k:Int)+1) (by omega) (by omega),Int.toNat_natCast,rQ hx,List.map_append,List.append_assoc,List.set_append_right _ _ (by omega),hlen,Nat.sub_self,hd]
  rfl) (by
  show fQ y L _ (L.length:Int)=_
  unfold fQ
  rw [if_neg (by simp),List.take_length,List.drop_length,List.append_nil])
 simpa using this
theorem aOb {n:Nat} (hn:n≤4096) {xs:List Int} (hB:Bs xs) (hl:xs.length<1099511627776):IsR (qT ⟨xs⟩ (n:Int)) (pP n xs):=by
 unfold qT pP
 rcases (aIh hB).cases with ⟨lo,r,h1,h2⟩ | ⟨h1,s,h2⟩
 ·rw [h1,h2]
  obtain⟨hBr,hlo,p,hp,_⟩:=aMu hB h1
  have hrl:r.length≤xs.length:=by rw [hp]; simp
  simp only [Option.bind_some,nL]
  rcases (IsR.cases (aH7 r)) with ⟨wb,r',h3,h4⟩ | ⟨h3,s,h4⟩
  ·rw [h3,h4]
   obtain⟨hwb,hBr',hr'⟩:=aU2 hBr h3
   have hrl':r'.length≤r.length:=by rw [hr']; simp
   obtain⟨w,rfl⟩:∃ w:Nat,wb=(w:Int):=⟨wb.toNat,by omega⟩
   simp only [Option.bind_some,nL,lt_,Int.toNat_natCast]
   rw [w64 (n:=(w:Int)) (by omega) (by omega)]
   by_cases hw:w≤64
   ·have hnw:n * w≤4096 * 64:=Nat.mul_le_mul hn hw
    rw [if_pos (by simp only [decide_eq_true_eq]; omega), ← Int.natCast_mul,w64 (n:=((n * w:Nat):Int)) (by omega) (by omega),w64 (n:=((n * w:Nat):Int)+7) (by omega) (by omega),
     show (((n * w:Nat):Int)+7).tdiv 8=(((n * w+7) / 8:Nat):Int) from rfl,w64 (by omega) (by omega)]
    by_cases hlen:r'.length=(n * w+7) / 8
    ·rw [show ((r'.length:Int)==(((n * w+7) / 8:Nat):Int))=true by rw [hlen]; simp,rF]
     simp only [Option.bind_some,nL]
     unfold mQ
     rw [aW (by omega),lt_,w64 (by omega) (by omega),Int.toNat_natCast]
     obtain⟨y,hy,hcase⟩:=aJ7 hn hw hBr' hlen
     rw [show (8:Int) * (r'.length:Int)=((8 * r'.length:Nat):Int) by omega,hy]
     simp only [Option.bind_some]
     rcases hcase with ⟨hv,rfl⟩ | ⟨hv,s,rfl⟩
     ·rw [if_pos ⟨by omega,hlen,hv⟩]
      simp only
      unfold nR qE
      rw [aL3 lo _ rfl _ (by rw [oZ]; exact hn)]
      rfl
     ·rw [if_neg (fun q=>hv q.2.2)]
      exact⟨s,rfl⟩
    ·rw [show ((r'.length:Int)==(((n * w+7) / 8:Nat):Int))=false by simp; omega,pW,if_neg (fun q=>hlen q.2.1)]
     exact⟨_,rfl⟩
   ·rw [if_neg (by simp only [decide_eq_true_eq]; omega),pW,if_neg (fun q=>hw (by omega))]
    exact⟨_,rfl⟩
  ·rw [h3,h4]
   exact⟨s,rfl⟩
 ·rw [h1,h2]
  exact⟨s,rfl⟩
theorem aNb {xs:List Int} (hB:Bs xs) (hl:xs.length<1099511627776):IsR (rS ⟨xs⟩) (aDw xs):=by
 unfold rS aDw
 rcases (IsR.cases (aH7 xs)) with ⟨w,r,h1,h2⟩ | ⟨h1,s,h2⟩
 ·rw [h1,h2]
  obtain⟨hw,hBr,hr⟩:=aU2 hB h1
  have hrl:r.length≤xs.length:=by rw [hr]; simp
  simp only [Option.bind_some,nL]
  by_cases hw3:w≤3
  ·rw [show decide (w≤3)=true by simpa using hw3,rF,if_pos hw3]
   simp only [Option.bind_some,nL]
   rcases (aCq 4096 hBr).cases with ⟨n,r',h3,h4⟩ | ⟨h3,s,h4⟩
   ·rw [h3,h4]
    obtain⟨⟨q1,q2,q3⟩,p,hp,_⟩:=rG h3
    have hBr':=aK0 hBr h3
    have hrl':r'.length≤r.length:=by rw [hp]; simp
    obtain⟨n,rfl⟩:∃ m:Nat,n=(m:Int):=⟨n.toNat,by omega⟩
    simp only [Option.bind_some,nL,lt_,Int.toNat_natCast]
    rw [w64 (by omega) (by omega)]
    unfold aGy
    by_cases w0:w=0
    ·rw [if_pos (by simpa using w0),if_pos w0]
     rcases (aS1 (n:=n) (by omega) hBr').cases with ⟨l,r'',h5,h6⟩ | ⟨h5,s,h6⟩
     ·rw [h5,h6]; rfl
     ·rw [h5,h6]; exact⟨s,rfl⟩
    rw [if_neg (by simpa using w0),if_neg w0]
    by_cases w1:w=1
    ·rw [if_pos (by simpa using w1),if_pos w1]
     obtain⟨y,hy,hm⟩:=aM9 n (by omega) n 0 0 [] r' hBr' (by omega) rfl
     rw [show ((0:Nat):Int)=0 from rfl] at hy
     rw [hy]
     revert hm
     cases pD 0 n r' with
     | none=>rintro⟨s,rfl⟩; exact⟨s,rfl⟩
     | some q=>intro hm; subst hm; rfl
    rw [if_neg (by simpa using w1),if_neg w1]
    by_cases w2:w=2
    ·rw [if_pos (by simpa using w2),if_pos w2]
     obtain⟨y,hy,hm⟩:=aNe n (by omega) n n [] r' hBr' (by simp) (Nat.le_refl _)
     rw [hy]
     revert hm
     cases pR n n r' with
     | none=>rintro⟨s,rfl⟩; exact⟨s,rfl⟩
     | some q=>intro hm; subst hm; rfl
    rw [if_neg (by simpa using w2),if_neg w2,if_pos (by simp; omega)]
    by_cases hn0:0<n
    ·rw [if_pos (by simp only [decide_eq_true_eq]; omega),if_pos hn0]
     rcases (aOb (n:=n) (by omega) hBr' (by omega)).cases with ⟨l,r'',h5,h6⟩ | ⟨h5,s,h6⟩
     ·rw [h5,h6]; rfl
     ·rw [h5,h6]; exact⟨s,rfl⟩
    ·rw [if_neg (by simp only [decide_eq_true_eq]; omega),if_neg hn0]
     rfl
   ·rw [h3,h4]
    exact⟨s,rfl⟩
  ·rw [show decide (w≤3)=false by simpa using hw3,pW,if_neg hw3]
   exact⟨_,rfl⟩
 ·rw [h1,h2]
  exact⟨s,rfl⟩
def tI (xs:List Int):Option (List Int):=match aDw xs with
 | some (l,[])=>some l
 | _=>none
theorem vV {xs:List Int} (hB:Bs xs) (hl:xs.length<1099511627776):iK xs=some (match tI xs with | some l=>(l,0) | none=>([],3)):=by
 unfold iK oN oR tI
 rcases (aNb hB hl).cases with ⟨l,r,h1,h2⟩ | ⟨h1,s,h2⟩
 ·rw [h1,h2]
  simp only [Option.bind_some,nL]
  cases r with
  | nil=>rfl
  | cons b r=>rfl
 ·rw [h1,h2]
  rfl
theorem aJz:∀ (l r:List Int),I64 l→yX l.length (b0 l++r)=some (l,r)
 | [],r,_=>rfl
 | x::l,r,h=>by
  have e:b0 (x::l)++r=uv (zz x)++(b0 l++r):=by simp [b0]
  rw [e,List.length_cons,yX,aNh (h x List.mem_cons_self)]
  simp only
  rw [aJz l r fun y hy=>h y (List.mem_cons_of_mem _ hy)]
theorem aOm (a x:Int) (h:i64 x):IntKind.i64.wrap (a+IntKind.i64.wrap (x - a))=x:=by
 unfold i64 at h
 rw [IntWalk.i64_left,IntWalk.i64_left]
 unfold wrap64
 omega
theorem aVh:∀ (l r:List Int) (a:Int),I64 l→pD a l.length (bD a l++r)=some (l,r)
 | [],r,a,_=>rfl
 | x::l,r,a,h=>by
  rw [bD,List.length_cons,pD,List.append_assoc,aNh (zN _)]
  simp only
  rw [aOm a x (h x List.mem_cons_self),aVh l r x fun y hy=>h y (List.mem_cons_of_mem _ hy)]
theorem aVq:∀ (f:Nat) (l r:List Int),I64 l→l.length≤f→l.length≤4096→pR f l.length (bR 0 l++r)=some (l,r)
 | 0,l,r,_,hf,_=>by
  have:l=[]:=List.eq_nil_of_length_eq_zero (by omega)
  subst this
  rfl
 | f+1,[],r,_,_,_=>rfl
 | f+1,x::l,r,h,hf,hl=>by
  obtain⟨m,tl,hm,htl⟩:=aDb x l
  subst hm
  have hlen:(x::(List.replicate m x++tl)).length=m+1+tl.length:=by simp; omega
  rw [hlen] at hf hl ⊢
  rw [pR,if_neg (by omega),aLk x tl htl m 0,Nat.zero_add,List.append_assoc,List.append_assoc,aNh (h x List.mem_cons_self)]
  simp only
  rw [aHg (by omega) _ (by omega)]
  simp only [Int.toNat_natCast]
  rw [show m+1+tl.length - (m+1)=tl.length by omega,aVq f tl r (fun y hy=>h y (List.mem_cons_of_mem _ (List.mem_append.2 (.inr hy)))) (by omega) (by omega)]
  simp only [List.replicate_succ,List.cons_append]
theorem aTn (D:List Nat):toN (ofN D)=D:=by
 unfold toN ofN
 rw [List.map_map]
 have:(Int.toNat ∘ fun (n:Nat)=>(n:Int))=id:=by funext n; simp
 rw [this,List.map_id]
theorem aSs {x lo:Int} (hm:i64 x) (hlo:i64 lo) (h:lo≤x):IntKind.i64.wrap (IntKind.i64.wrap (((x - lo).toNat:Nat):Int)+lo)=x:=by
 unfold i64 at hm hlo
 rw [IntWalk.i64_left,IntWalk.i64_left]
 unfold wrap64
 omega
theorem aXg {n w:Nat} {D:List Nat} (hv:V w D<2 ^ (n * w)):V 8 (by_ ((n * w+7) / 8) (V w D))=V w D:=by
 refine aX2 _ _ (Nat.lt_of_lt_of_le hv (Nat.pow_le_pow_right (by decide) ?_))
 generalize n * w=a
 omega
theorem aZq {x:Int} {l:List Int} (hl:(x::l).length≤4096) (hi:I64 (x::l)):pP (x::l).length (pk (x::l))=some (x::l,[]):=by
 have hlo:=aI9 hi
 have hle:=aJi (x:=x) (l:=l)
 have hw:wdt (ds (mn x l) (x::l))≤64:=by
  have:=aIm hi hlo hle (x::l).length
  rwa [List.take_of_length_le (by rw [tZ]; exact Nat.le_refl _)] at this
 have hL:=aPo (ds (mn x l) (x::l))
 have hv:=aUl hL
 rw [tZ] at hv
 unfold pP
 simp only [pk]
 generalize wdt (ds (mn x l) (x::l))=w at hw hL hv ⊢
 rw [List.append_assoc,aNh hlo]
 simp only [List.singleton_append,pB,Int.toNat_natCast]
 have hV8:=aXg hv
 rw [aTn,hV8,if_pos ⟨by omega,by rw [aBm,rR],hv⟩]
 congr 2
 refine aNi (by simp [oZ]) fun j hj=>?_
 rw [List.length_map,oZ] at hj
 have hx:=List.getElem?_eq_getElem hj
 have hm:=hi.get hx
 have hmle:=hle _ (List.mem_of_getElem? hx)
 rw [List.getElem?_map,aCi hj,aVc hL (aL7 hx),hx]
 simp only [Option.map_some,Option.some.injEq]
 exact aSs hm hlo hmle
theorem aTv {w:Nat} {l:List Int} (hw:w<4) (hl:l.length≤4096) (hi:I64 l):tI (asL w l)=some l:=by
 unfold tI aDw asL
 simp only [pB]
 rw [if_pos (by omega),aHg (by omega) _ (by omega)]
 simp only [Int.toNat_natCast]
 have key:aGy (w:Int) l.length (body w l)=some (l,[]):=by
  unfold aGy
  match w,hw with
  | 0,_ =>
   rw [if_pos (by rfl)]
   have:=aJz l [] hi
   rwa [List.append_nil] at this
  | 1,_ =>
   rw [if_neg (by decide),if_pos (by rfl)]
   have:=aVh l [] 0 hi
   rwa [List.append_nil] at this
  | 2,_ =>
   rw [if_neg (by decide),if_neg (by decide),if_pos (by rfl)]
   have:=aVq l.length l [] hi (Nat.le_refl _) hl
   rwa [List.append_nil] at this
  | 3,_ =>
   rw [if_neg (by decide),if_neg (by decide),if_neg (by decide)]
   cases l with
   | nil=>rfl
   | cons x l=>rw [if_pos (by simp)]; exact aZq hl hi
 rw [key]
theorem aBs (a b:List Int):gZ a b=a∨gZ a b=b:=by
 unfold gZ
 split
 ·exact .inr rfl
 ·exact .inl rfl
theorem aBl (a b:List Int):(gZ a b).length≤a.length∧(gZ a b).length≤b.length:=by
 unfold gZ
 split <;> omega
theorem aEy (l:List Int):∃ w<4,fL l=asL w l:=by
 unfold fL
 rcases aBs (gZ (gZ (asL 0 l) (asL 1 l)) (asL 2 l)) (asL 3 l) with h | h
 ·rw [h]
  rcases aBs (gZ (asL 0 l) (asL 1 l)) (asL 2 l) with h | h
  ·rw [h]
   rcases aBs (asL 0 l) (asL 1 l) with h | h
   ·exact⟨0,by decide,h⟩
   ·exact⟨1,by decide,h⟩
  ·exact⟨2,by decide,h⟩
 ·exact⟨3,by decide,h⟩
theorem aPw (l:List Int) {w:Nat} (hw:w<4):(fL l).length≤(asL w l).length:=by
 have h3:=aBl (gZ (gZ (asL 0 l) (asL 1 l)) (asL 2 l)) (asL 3 l)
 have h2:=aBl (gZ (asL 0 l) (asL 1 l)) (asL 2 l)
 have h1:=aBl (asL 0 l) (asL 1 l)
 unfold fL
 match w,hw with
 | 0,_=>omega
 | 1,_=>omega
 | 2,_=>omega
 | 3,_=>omega
theorem xX {l:List Int} (hl:l.length≤4096) (hi:I64 l):tI (fL l)=some l:=by
 obtain⟨w,hw,e⟩:=aEy l
 rw [e,aTv hw hl hi]
theorem Bs.ofN {D:List Nat} (h:Lt 8 D):Bs (ofN D):=by
 intro b hb
 obtain⟨d,hd,rfl⟩:=List.mem_map.1 hb
 have:=h d hd
 omega
theorem aU6:∀ (l:List Int),Bs (b0 l)
 | []=>Bs.nil
 | x::l=>by
  have e:b0 (x::l)=uv (zz x)++b0 l:=by simp [b0]
  rw [e]
  exact (Bs.uv _).app (aU6 l)
theorem aVr:∀ (l:List Int) (a:Int),Bs (bD a l)
 | [],_=>Bs.nil
 | x::l,a=>(Bs.uv _).app (aVr l x)
theorem aR7:∀ (l:List Int) (k:Nat),Bs (bR k l)
 | [],_=>Bs.nil
 | [x],k=>(Bs.uv _).app (Bs.uv _)
 | x::y::l,k=>by
  unfold bR
  split
  ·exact aR7 (y::l) _
  ·exact ((Bs.uv _).app (Bs.uv _)).app (aR7 (y::l) _)
theorem aZd {l:List Int} (hi:I64 l):Bs (pk l):=by
 cases l with
 | nil=>exact Bs.nil
 | cons x l =>
  have hlo:=aI9 hi
  have hle:=aJi (x:=x) (l:=l)
  have hw:wdt (ds (mn x l) (x::l))≤64:=by
   have:=aIm hi hlo hle (x::l).length
   rwa [List.take_of_length_le (by rw [tZ]; exact Nat.le_refl _)] at this
  exact ((Bs.uv _).app (Bs.mk (by omega) Bs.nil)).app (Bs.ofN (aZ3 _ _))
theorem aX8 {w:Nat} {l:List Int} (hw:w<4) (hi:I64 l):Bs (asL w l):=by
 refine Bs.mk (by omega) ((Bs.uv _).app ?_)
 match w,hw with
 | 0,_=>exact aU6 l
 | 1,_=>exact aVr l 0
 | 2,_=>exact aR7 l 0
 | 3,_=>exact aZd hi
theorem aXe {l:List Int} (hl:l.length≤4096) (hi:I64 l):(pk l).length≤11+(l.length * 64+7) / 8:=by
 cases l with
 | nil=>simp [pk]
 | cons x l =>
  have hlo:=aI9 hi
  have hle:=aJi (x:=x) (l:=l)
  have hw:wdt (ds (mn x l) (x::l))≤64:=by
   have:=aIm hi hlo hle (x::l).length
   rwa [List.take_of_length_le (by rw [tZ]; exact Nat.le_refl _)] at this
  have hz:=dG (aA6 hlo)
  have:=Nat.mul_le_mul_left (x::l).length hw
  simp only [pk,List.length_append,List.length_singleton,aBm,rR]
  generalize (x::l).length=n at *
  omega
theorem aWc {w:Nat} {l:List Int} (hw:w<4) (hl:l.length≤4096) (hi:I64 l):(asL w l).length≤1048576:=by
 have hu:=dG (n:=l.length) (by omega)
 unfold asL
 simp only [List.length_cons,List.length_append]
 match w,hw with
 | 0,_=>have:=aIx hi; simp only [body]; omega
 | 1,_=>have:=aLj l 0; simp only [body]; omega
 | 2,_=>have:=aLw l 0 hi (by omega); simp only [body]; omega
 | 3,_=>have:=aXe hl hi; simp only [body]; omega
def aOr (a:Nat):Bool:=a / 4503599627370496 % 2048==2047&&a % 4503599627370496 != 0
theorem aLx (d:Ieee.Datum):(d.order d==some .eq) = !d.isNaN:=by
 cases d with
 | number s m p=>simp [Ieee.Datum.order,Ieee.Datum.isNaN]
 | infinity s=>simp [Ieee.Datum.order,Ieee.Datum.isNaN]
 | nan s f=>simp [Ieee.Datum.order,Ieee.Datum.isNaN]
theorem aQ8 (a:Nat):feq a a = !aOr a:=by
 unfold feq Ieee.Format.order
 rw [aLx]
 congr 1
 unfold Ieee.Format.read aOr
 have e1:FloatKind.f64.format.signWeight=9223372036854775808:=by decide
 have e2:FloatKind.f64.format.binade=4503599627370496:=by decide
 have e3:FloatKind.f64.format.infRung=9218868437227405312:=by decide
 simp only [e1,e2,e3]
 rw [Bool.eq_iff_iff]
 simp only [Bool.and_eq_true,beq_iff_eq,bne_iff_ne,ne_eq]
 split
 ·simp [Ieee.Datum.isNaN]; omega
 ·split
  ·simp [Ieee.Datum.isNaN]; omega
  ·split
   ·simp [Ieee.Datum.isNaN]; omega
   ·simp [Ieee.Datum.isNaN]; omega
def kG (a:Nat):Nat:=if aOr a then 9221120237041090560 else a
theorem uI (a:Nat):kG (kG a)=kG a:=by
 unfold kG
 cases h:aOr a with
 | true=>rw [if_pos rfl,if_pos (by decide)]
 | false=>simp [h]
theorem aJw {a:Nat} (h:a<18446744073709551616):kG a<18446744073709551616:=by
 unfold kG; split <;> omega
theorem aJ2 (a:Nat):uL a=some (kG a:Int):=by
 unfold uL rW kG aOr
 have e1:bS .u64 (a:Int) 52=((a / 4503599627370496:Nat):Int):=nA (k:=.u64) a 52 (by decide)
 have e2:(((a / 4503599627370496:Nat):Int)).tmod 2048=((a / 4503599627370496 % 2048:Nat):Int):=rfl
 have e3:((a:Int)).tmod 4503599627370496=((a % 4503599627370496:Nat):Int):=rfl
 simp only [lt_]
 rw [e1,e2,e3]
 by_cases h1:a / 4503599627370496 % 2048=2047
 ·by_cases h2:a % 4503599627370496=0
  ·simp [h1,h2]
  ·simp [h1,h2]; omega
 ·have:((a / 4503599627370496 % 2048:Nat):Int)≠2047:=by omega
  simp only [beq_iff_eq,this,if_false]
  simp [h1]
theorem aHq (a:Nat):tW a=some (kG a):=by
 unfold tW yM kG
 simp only [Option.bind_some,aQ8]
 cases aOr a <;> rfl
theorem aFq (a:Nat):wD a=some (kG a:Int):=by
 unfold wD
 rw [aHq]; rfl
theorem aRo (a:Int):aB9 a=some (kG a.toNat):=by
 unfold aB9
 rw [aHq]; rfl
theorem aRs (a b:Nat):xY a b=some ((kG a:Int)==(kG b:Int)):=by
 unfold xY
 rw [aJ2,aJ2]; rfl
def rl (l:List Nat):List Int:=l.map fun x=>IntKind.i64.wrap (kG x:Int)
theorem aJc (l:List Nat):I64 (rl l):=fun x hx=>by
 obtain⟨y,_,rfl⟩:=List.mem_map.1 hx
 exact zN _
theorem aAr (l:List Nat):(rl l).length=l.length:=by simp [rl]
theorem aTj {l:List Nat} {k x:Nat} (h:l[k]?=some x):rl (l.take (k+1))=rl (l.take k)++[IntKind.i64.wrap (kG x:Int)]:=by
 unfold rl
 rw [List.take_add_one,h,List.map_append]; rfl
theorem aOo {l:List Nat} (h:l.length≤4096):sK l=some (fL (rl l)):=by
 unfold sK
 have:=iO (b:=fun s:List Int×Int=>iL l s.1 s.2) (fun k=>(rl (l.take k),(k:Int))) (t:=rl l) l.length (fun k hk=>by
  have hx:=List.getElem?_eq_getElem hk
  have hlen:(rl (l.take k)).length=k:=by rw [aAr,List.length_take]; omega
  show iL l (rl (l.take k)) (k:Int)=_
  unfold iL
  rw [if_pos (by simp only [decide_eq_true_eq]; omega),aH rfl hx]
  simp only [Option.bind_some]
  rw [aFq]
  simp only [Option.bind_some,lt_]
  rw [aW (by rw [hlen]; simp only [List.length_singleton]; omega),w64 (n:=(k:Int)+1) (by omega) (by omega), ← aTj hx]
  rfl) (by
  show iL l (rl (l.take l.length)) (l.length:Int)=_
  unfold iL
  rw [if_neg (by simp),List.take_length])
 rw [show (([],0):List Int×Int)=(fun k=>(rl (l.take k),(k:Int))) 0 by simp [rl],this]
 simp only [Option.bind_some]
 unfold oQ rE
 rw [zS (by rw [aAr]; exact h) (aJc l)]
 rfl
def ub (b:Int):Nat:=(IntKind.u64.wrap b).toNat
theorem aVn (b:Int):IntKind.u64.wrap b=(ub b:Int):=by
 unfold ub
 rw [IntKind.wrap_u64]; omega
def aCx (l:List Int):Option (List Nat):=if l.all (fun b=>kG (ub b)==ub b)=true then some (l.map ub) else none
theorem aGo (l:List Int) (f:Int) (h:l.length≤4096):∀ (m k:Nat),k+m=l.length→(∀ b∈l.take k,kG (ub b)=ub b) →
  loop (fun s:List Nat×Int=>dJ (l,f) s.1 s.2) ((l.take k).map ub,(k:Int))=some (if (l.drop k).all (fun b=>kG (ub b)==ub b)=true then .inl (l.map ub) else .inr ([],3))
 | 0,k,hk,ha=>by
  rw [bJ (t:=Sum.inl (l.map ub)) (by
   show dJ (l,f) ((l.take k).map ub) (k:Int)=_
   unfold dJ
   rw [if_neg (by simp only [decide_eq_true_eq]; omega),show k=l.length by omega,List.take_length]),show k=l.length by omega,List.drop_length]
  rfl
 | m+1,k,hk,ha=>by
  have hkl:k<l.length:=by omega
  have hx:=List.getElem?_eq_getElem hkl
  have hd:l.drop k=l[k]::l.drop (k+1):=List.drop_eq_getElem_cons hkl
  rw [hd,List.all_cons]
  have hlen:((l.take k).map ub).length=k:=by simp; omega
  by_cases hc:kG (ub l[k])=ub l[k]
  ·rw [show (kG (ub l[k])==ub l[k])=true by simpa using hc,Bool.true_and,dD (s':=((l.take (k+1)).map ub,((k+1:Nat):Int))) (by
    show dJ (l,f) ((l.take k).map ub) (k:Int)=_
    unfold dJ
    rw [if_pos (by simp only [decide_eq_true_eq]; omega),aH rfl hx]
    simp only [Option.bind_some,lt_]
    rw [aVn,aRo]
    simp only [Option.bind_some]
    rw [aFq]
    simp only [Option.bind_some,Int.toNat_natCast]
    rw [uI,hc,if_neg (by simp),aW (by rw [hlen]; simp only [List.length_singleton]; omega),w64 (by omega) (by omega),rQ hx,List.map_append]
    rfl)]
   exact aGo l f h m (k+1) (by omega) (fun b hb=>by
    rw [rQ hx] at hb
    rcases List.mem_append.1 hb with q | q
    ·exact ha b q
    ·rw [List.mem_singleton.1 q]; exact hc)
  ·rw [show (kG (ub l[k])==ub l[k])=false by simpa using hc,Bool.false_and,if_neg (by simp)]
   refine bJ ?_
   show dJ (l,f) ((l.take k).map ub) (k:Int)=_
   unfold dJ
   rw [if_pos (by simp only [decide_eq_true_eq]; omega),aH rfl hx]
   simp only [Option.bind_some,lt_]
   rw [aVn,aRo]
   simp only [Option.bind_some]
   rw [aFq]
   simp only [Option.bind_some,Int.toNat_natCast]
   rw [uI,if_pos (by simp only [bne_iff_ne,ne_eq,Int.natCast_inj]; exact hc)]
theorem aG3:∀ (n:Nat) (xs:List Int) {l r:List Int},yX n xs=some (l,r)→l.length=n
 | 0,xs,l,r,h=>by cases h; rfl
 | n+1,xs,l,r,h=>by
  unfold yX at h
  split at h
  ·split at h
   ·rename_i he
    cases h
    simp [aG3 n _ he]
   ·cases h
  ·cases h
theorem aQx:∀ (n:Nat) (a:Int) (xs:List Int) {l r:List Int},pD a n xs=some (l,r)→l.length=n
 | 0,a,xs,l,r,h=>by cases h; rfl
 | n+1,a,xs,l,r,h=>by
  unfold pD at h
  split at h
  ·split at h
   ·rename_i he
    cases h
    simp [aQx n _ _ he]
   ·cases h
  ·cases h
theorem aQg:∀ (f n:Nat) (xs:List Int) {l r:List Int},pR f n xs=some (l,r)→l.length≤n
 | 0,n,xs,l,r,h=>by cases h; simp
 | f+1,n,xs,l,r,h=>by
  unfold pR at h
  split at h
  ·cases h; simp
  ·split at h
   ·split at h
    ·rename_i hk
     split at h
     ·rename_i he
      cases h
      have:=aQg f _ _ he
      have:=(rG hk).1
      simp only [List.length_append,List.length_replicate]
      omega
     ·cases h
    ·cases h
   ·cases h
theorem aW0 (n:Nat) (xs:List Int) {l r:List Int} (h:pP n xs=some (l,r)):l.length=n:=by
 unfold pP at h
 split at h
 ·split at h
  ·split at h
   ·cases h
    rw [List.length_map,oZ]
   ·cases h
  ·cases h
 ·cases h
theorem aO9 (w:Int) (n:Nat) (xs:List Int) {l r:List Int} (h:aGy w n xs=some (l,r)):l.length≤n:=by
 unfold aGy at h
 split at h
 ·exact Nat.le_of_eq (aG3 _ _ h)
 ·split at h
  ·exact Nat.le_of_eq (aQx _ _ _ h)
  ·split at h
   ·exact aQg _ _ _ h
   ·split at h
    ·exact Nat.le_of_eq (aW0 _ _ h)
    ·cases h; simp
theorem aHu {xs l r:List Int} (h:aDw xs=some (l,r)):l.length≤4096:=by
 unfold aDw at h
 split at h
 ·split at h
  ·split at h
   ·rename_i hu
    have:=aO9 _ _ _ h
    have:=(rG hu).1
    omega
   ·cases h
  ·cases h
 ·cases h
theorem aHh {xs l:List Int} (h:tI xs=some l):l.length≤4096:=by
 unfold tI at h
 split at h
 ·cases h; exact aHu (by assumption)
 ·cases h
theorem aGq {xs:List Int} (hB:Bs xs) (hl:xs.length<1099511627776):mY xs=some (match (tI xs).bind aCx with | some l=>(l,0) | none=>([],3)):=by
 unfold mY
 rw [vV hB hl]
 simp only [Option.bind_some]
 cases h:tI xs with
 | none=>rfl
 | some l =>
  simp only [Option.bind_some]
  rw [if_neg (by simp)]
  have:=aGo l 0 (aHh h) l.length 0 (by omega) (fun b hb=>by simp at hb)
  simp only [List.take_zero,List.map_nil,List.drop_zero] at this
  rw [show ((0:Nat):Int)=0 from rfl] at this
  rw [this]
  unfold aCx
  simp only [Option.bind_some]
  cases (l.all fun b=>kG (ub b)==ub b)
  ·rfl
  ·rfl
theorem aMd {l:List Nat} (h:∀ x∈l,x<18446744073709551616):aCx (rl l)=some (l.map kG):=by
 have hu:∀ x∈l,ub (IntKind.i64.wrap (kG x:Int))=kG x:=by
  intro x hx
  have:=aJw (h x hx)
  unfold ub
  rw [IntKind.wrap_u64,IntWalk.i64_left]
  unfold wrap64
  omega
 unfold aCx rl
 rw [if_pos]
 ·rw [List.map_map]
  congr 1
  exact List.map_congr_left fun x hx=>hu x hx
 ·rw [List.all_eq_true]
  intro b hb
  obtain⟨x,hx,rfl⟩:=List.mem_map.1 hb
  rw [hu x hx,uI]
  simp
def IsT (B acc:List Int) (t:List Int×Int×List Int) (p:Option (List Int×List Int)):Prop :=
 match p with
 | some (l,r)=>∃ q:Nat,t=(B,(q:Int),acc++l)∧q≤B.length∧B.drop q=r
 | none=>∃ a,t=(B,-1,a)
theorem IsT.cons {B acc:List Int} {t:List Int×Int×List Int} {p:Option (List Int×List Int)} (x:List Int) (h:IsT B (acc++x) t p) :
  IsT B acc t (match (generalizing:=false) p with | some (l,r)=>some (x++l,r) | none=>none):=by
 cases p with
 | none=>exact h
 | some y =>
  obtain⟨q,h1,h2,h3⟩:=h
  exact⟨q,by rw [h1,List.append_assoc],h2,h3⟩
section
variable {B:List Int} (hBs:Bs B) (hB:B.length<1099511627776)
include hBs hB
end
section
variable {B:List Int} (hBs:Bs B) (hB:B.length<1099511627776)
include hBs hB
end
section
variable {B xs:List Int} {p:Nat} (hp:p≤B.length) (hx:B.drop p=xs) (hBs:Bs xs) (hB:B.length<1099511627776) (hs:xs.length≤32768)
include hp hx hBs hB hs
end
def aFr (acc:List (List UInt8)) (t:List UInt8):Bool:=match acc[acc.length - 1]? with
 | some y=>Op.bytesLess y t
 | none=>true
def aA7 (acc:List (List UInt8)):Nat→List Int→Option (List (List UInt8)×List Int)
 | 0,xs=>some (acc,xs)
 | n+1,xs=>match pT 32 xs with
  | some (t,r)=>if aFr acc t=true then aA7 (acc++[t]) n r else none
  | none=>none
def okI (n:Nat) (ix:List Int):Bool:=ix.all fun i=>decide (0≤i∧i<(n:Int))
def usd (n:Nat) (ix:List Int):List Bool:=(List.range n).map fun (j:Nat)=>decide ((j:Int)∈ix)
def tx (ds:List (List UInt8)) (ix:List Int):List (List UInt8):=ix.map fun i=>ds.getD i.toNat []
def aEv (xs:List Int):Option (List (List UInt8)×List Int):=match pU 4096 xs with
 | some (n,r)=>match aA7 [] n.toNat r with
  | some (ds,r')=>match aDw r' with
   | some (ix,r'')=>if okI ds.length ix=true∧false∉usd ds.length ix then some (tx ds ix,r'') else none
   | none=>none
  | none=>none
 | none=>none
theorem aNo {most:Int} {xs r:List Int} {t:List UInt8} (hB:Bs xs) (h:pT most xs=some (t,r)):Bs r∧r.length≤xs.length:=by
 unfold pT at h
 split at h
 ·rename_i n r' he
  obtain⟨_,p,hp,_⟩:=rG he
  have hb:=aK0 hB he
  split at h
  ·cases h
   refine⟨hb.drop _,?_⟩
   rw [hp]; simp; omega
  ·cases h
 ·cases h
theorem aLb:∀ (n:Nat) (acc:List (List UInt8)) (xs:List Int) {ds:List (List UInt8)} {r:List Int},Bs xs→aA7 acc n xs=some (ds,r)→Bs r∧r.length≤xs.length∧ds.length=acc.length+n
 | 0,acc,xs,ds,r,hB,h=>by cases h; exact⟨hB,Nat.le_refl _,rfl⟩
 | n+1,acc,xs,ds,r,hB,h=>by
  unfold aA7 at h
  split at h
  ·rename_i t r' he
   obtain⟨h1,h2⟩:=aNo hB he
   split at h
   ·obtain⟨g1,g2,g3⟩:=aLb n _ _ h1 h
    refine⟨g1,by omega,?_⟩
    rw [g3,List.length_append,List.length_singleton]; omega
   ·cases h
  ·cases h
theorem aKl (l:List Bool) (b:Bool) (h:l.length<1099511627776):fS l b=some (decide (b∈l)):=by
 unfold fS jX
 have key:∀ (m k:Nat),k+m=l.length→∃ y,loop (fun s:Int=>dO l b s) (k:Int)=some y∧if b∈l.drop k then ∃ j:Nat,y=.inr (j:Int) else y=.inl ():=by
  intro m
  induction m with
  | zero =>
   intro k hk
   refine⟨.inl (),bJ ?_,?_⟩
   ·unfold dO
    rw [if_neg (by simp only [decide_eq_true_eq]; omega)]
   ·rw [List.drop_of_length_le (by omega),if_neg (by simp)]
  | succ m ih =>
   intro k hk
   have hkl:k<l.length:=by omega
   have hx:=List.getElem?_eq_getElem hkl
   have hd:l.drop k=l[k]::l.drop (k+1):=List.drop_eq_getElem_cons hkl
   rw [hd]
   by_cases hb:b=l[k]
   ·refine⟨.inr (k:Int),bJ ?_,?_⟩
    ·unfold dO
     rw [if_pos (by simp only [decide_eq_true_eq]; omega),aH rfl hx]
     simp only [Option.bind_some]
     rw [if_pos (by simpa using hb)]
    ·rw [if_pos (by rw [hb]; exact List.mem_cons_self)]
     exact⟨k,rfl⟩
   ·obtain⟨y,hy,hm⟩:=ih (k+1) (by omega)
    refine⟨y,(dD (s':=((k+1:Nat):Int)) ?_).trans hy,?_⟩
    ·unfold dO
     rw [if_pos (by simp only [decide_eq_true_eq]; omega),aH rfl hx]
     simp only [Option.bind_some]
     rw [if_neg (by simpa using hb),lt_,w64 (by omega) (by omega)]
     rfl
    ·have he:(b∈l[k]::l.drop (k+1))=(b∈l.drop (k+1)):=propext ⟨fun h=>(List.mem_cons.1 h).resolve_left hb,fun h=>List.mem_cons_of_mem _ h⟩
     simpa only [he] using hm
 obtain⟨y,hy,hm⟩:=key l.length 0 (by omega)
 rw [show ((0:Nat):Int)=0 from rfl] at hy
 rw [hy,List.drop_zero] at *
 by_cases hb:b∈l
 ·rw [if_pos hb] at hm
  obtain⟨j,rfl⟩:=hm
  simp only [Option.bind_some]
  rw [show decide (0≤(j:Int))=true by simp,show decide (b∈l)=true by simpa using hb]
 ·rw [if_neg hb] at hm
  subst hm
  rw [show decide (b∈l)=false by simpa using hb]
  rfl
theorem aR6 (n:Nat) (ix:List Int) (k:Nat) {x:Int} (h:ix[k]?=some x):okI n (ix.take (k+1))=(okI n (ix.take k)&&decide (0≤x∧x<(n:Int))):=by
 unfold okI
 rw [rQ h,List.all_append]
 simp
theorem aRe {n:Nat} {ix:List Int} (h:okI n ix=true) (k:Nat):okI n (ix.take k)=true:=by
 unfold okI at *
 rw [List.all_eq_true] at *
 exact fun x hx=>h x (List.mem_of_mem_take hx)
theorem aPi (n:Nat) (ix:List Int) {x:Int} (hx:0≤x∧x<(n:Int)):usd n (ix++[x])=(usd n ix).set x.toNat true:=by
 apply List.ext_getElem? fun j=>?_
 unfold usd
 rw [List.getElem?_set]
 simp only [List.getElem?_map,List.length_map,List.length_range]
 rcases Nat.lt_or_ge j n with hj | hj
 ·rw [List.getElem?_range hj]
  by_cases e:x.toNat=j
  ·rw [if_pos e,if_pos (by omega)]
   simp
   right; omega
  ·rw [if_neg e]
   have:¬ (j:Int)=x:=by omega
   simp [this]
 ·rw [List.getElem?_eq_none (by simpa using hj)]
  rw [if_neg (by omega)]
  rfl
theorem aSo (n:Nat):usd n []=List.replicate n false:=by
 unfold usd
 rw [List.eq_replicate_iff]
 refine⟨by simp,fun b hb=>?_⟩
 obtain⟨q,_,rfl⟩:=List.mem_map.1 hb
 simp
theorem aE8 (n:Nat) (ix:List Int):(usd n ix).length=n:=by simp [usd]
theorem aW5 (n:Nat) (ix:List Int) {x:Int} (hx:0≤x∧x<(n:Int)):∃ b,at_ (usd n ix) x=some b:=by
 have:x.toNat<(usd n ix).length:=by rw [aE8]; omega
 exact⟨_,aH (n:=x.toNat) (by omega) (List.getElem?_eq_getElem this)⟩
theorem bAl (ds:List (List UInt8)) {x:Int} (hx:0≤x∧x<(ds.length:Int)):at_ ds x=some (ds.getD x.toNat []):=by
 have:x.toNat<ds.length:=by omega
 refine aH (n:=x.toNat) (by omega) ?_
 rw [List.getD_eq_getElem?_getD,List.getElem?_eq_getElem this]
 rfl
theorem aT3 (ds:List (List UInt8)) (ix:List Int) (x:Int):tx ds (ix++[x])=tx ds ix++[ds.getD x.toNat []]:=by
 unfold tx; rw [List.map_append]; rfl
theorem aOy (ds:List (List UInt8)) (ix:List Int):(tx ds ix).length=ix.length:=by simp [tx]
theorem aHd (ds:List (List UInt8)) (ix:List Int) (Y:S157) (xs:List Int) (hl:ix.length≤4096):∀ (m k:Nat),k+m=ix.length→okI ds.length (ix.take k)=true →
  ∃ y,loop (fun s:List Int×List (List UInt8)×List Bool×Int=>bY ds (ix,Y) s.1 s.2.1 s.2.2.1 s.2.2.2) (xs,tx ds (ix.take k),usd ds.length (ix.take k),(k:Int))=some y ∧
   if okI ds.length ix=true then y=.inl (xs,tx ds ix,usd ds.length ix) else ∃ s,y=.inr (.inr s)
 | 0,k,hk,ha=>by
  have hke:k=ix.length:=by omega
  subst hke
  rw [List.take_length] at ha ⊢
  refine⟨.inl (xs,tx ds ix,usd ds.length ix),bJ ?_,by rw [if_pos ha]⟩
  show bY ds (ix,Y) xs (tx ds ix) (usd ds.length ix) (ix.length:Int)=_
  unfold bY
  rw [if_neg (by simp)]
 | m+1,k,hk,ha=>by
  have hkl:k<ix.length:=by omega
  have hx:=List.getElem?_eq_getElem hkl
  have hok:=aR6 ds.length ix k hx
  have hno:∀ s,bY ds (ix,Y) xs (tx ds (ix.take k)) (usd ds.length (ix.take k)) (k:Int)=some (.inr (.inr (.inr s)))→¬ (0≤ix[k]∧ix[k]<(ds.length:Int)) →
    ∃ y,loop (fun s:List Int×List (List UInt8)×List Bool×Int=>bY ds (ix,Y) s.1 s.2.1 s.2.2.1 s.2.2.2) (xs,tx ds (ix.take k),usd ds.length (ix.take k),(k:Int))=some y ∧
   if okI ds.length ix=true then y=.inl (xs,tx ds ix,usd ds.length ix) else ∃ s,y=.inr (.inr s):=by
   intro s hs hn
   refine⟨_,bJ hs,?_⟩
   rw [if_neg]
   ·exact⟨_,rfl⟩
   ·intro h
    have:=aRe h (k+1)
    rw [hok] at this
    simp only [Bool.and_eq_true,decide_eq_true_eq] at this
    exact hn this.2
  by_cases h0:0≤ix[k]
  ·by_cases h1:ix[k]<(ds.length:Int)
   ·obtain⟨b,hb⟩:=aW5 ds.length (ix.take k) ⟨h0,h1⟩
    obtain⟨y,hy,hm⟩:=aHd ds ix Y xs hl m (k+1) (by omega) (by rw [hok,ha]; simp [h0,h1])
    rw [rQ hx,aT3,aPi _ _ ⟨h0,h1⟩] at hy
    refine⟨y,(dD (s':=(xs,tx ds (ix.take k)++[ds.getD ix[k].toNat []],(usd ds.length (ix.take k)).set ix[k].toNat true,((k+1:Nat):Int))) ?_).trans hy,hm⟩
    show bY ds (ix,Y) xs (tx ds (ix.take k)) (usd ds.length (ix.take k)) (k:Int)=_
    unfold bY
    rw [if_pos (by simp only [decide_eq_true_eq]; omega),aH rfl hx]
    simp only [Option.bind_some]
    rw [if_pos (by simpa using h0),show decide (ix[k]<(ds.length:Int))=true by simpa using h1,rF]
    simp only [Option.bind_some,nL]
    unfold iQ
    rw [hb,bAl _ ⟨h0,h1⟩]
    simp only [Option.bind_some]
    rw [aW (by rw [aOy]; simp; omega),lt_,w64 (by omega) (by omega)]
    rfl
   ·refine hno (⟨xs⟩,tx ds (ix.take k)) ?_ (fun c=>h1 c.2)
    unfold bY
    rw [if_pos (by simp only [decide_eq_true_eq]; omega),aH rfl hx]
    simp only [Option.bind_some]
    rw [if_pos (by simpa using h0),show decide (ix[k]<(ds.length:Int))=false by simpa using h1,pW]
    rfl
  ·refine hno (⟨xs⟩,tx ds (ix.take k)) ?_ (fun c=>h0 c.1)
   unfold bY
   rw [if_pos (by simp only [decide_eq_true_eq]; omega),aH rfl hx]
   simp only [Option.bind_some]
   rw [if_neg (by simpa using h0),pW]
   rfl
theorem aF5 (Y:Int×S157) (n:Nat) (hY:Y.1=(n:Int)) (hn:n≤4096):∀ (m k:Nat) (acc:List (List UInt8)) (xs:List Int),Bs xs→xs.length<1099511627776→k+m=n→acc.length=k →
  ∃ y,loop (fun s:List Int×List (List UInt8)×Int=>cH [] Y s.1 s.2.1 s.2.2) (xs,acc,(k:Int))=some y∧match aA7 acc m xs with
   | some (l,r)=>y=.inl (r,l)
   | none=>∃ s,y=.inr (.inr s)
 | 0,k,acc,xs,hB,hl,hk,ha=>by
  refine⟨.inl (xs,acc),bJ ?_,rfl⟩
  show cH [] Y xs acc (k:Int)=_
  unfold cH
  rw [hY,if_neg (by simp only [decide_eq_true_eq]; omega)]
 | m+1,k,acc,xs,hB,hl,hk,ha=>by
  unfold aA7
  rcases (aNa 32 hB (by omega)).cases with ⟨t,r,h1,h2⟩ | ⟨h1,s,h2⟩
  ·rw [h1]
   obtain⟨hBr,hlr⟩:=aNo hB h1
   have hl2:∀ (z:S157⊕S157),aJ (⟨r⟩:S157) (aFr acc t)=some z→cH [] Y xs acc (k:Int)=(mI z (fun y=>fY acc (k:Int) (t,⟨r⟩) y.f0) (fun y=>some (.inr (.inr (.inr (y,[])))))):=by
    intro z hz
    unfold cH
    rw [hY,if_pos (by simp only [decide_eq_true_eq]; omega),h2]
    simp only [Option.bind_some,nL,lt_]
    unfold aFr at hz
    by_cases h0:acc.length=0
    ·rw [List.getElem?_eq_none (by omega)] at hz
     rw [if_pos (by simpa using h0),hz]
     rfl
    ·have hx:=List.getElem?_eq_getElem (l:=acc) (i:=acc.length - 1) (by omega)
     rw [hx] at hz
     rw [if_neg (by simpa using h0),w64 (by omega) (by omega),aH (n:=acc.length - 1) (by omega) hx]
     simp only [Option.bind_some]
     rw [hz]
     rfl
   by_cases hr:aFr acc t=true
   ·obtain⟨y,hy,hm⟩:=aF5 Y n hY hn m (k+1) (acc++[t]) r hBr (by omega) (by omega) (by simp [ha])
    simp only [hr,if_true]
    refine⟨y,(dD (s':=(r,acc++[t],((k+1:Nat):Int))) ?_).trans hy,hm⟩
    refine (hl2 _ (by rw [hr,rF])).trans ?_
    rw [nL]
    unfold fY
    rw [aW (by simp; omega),lt_,aA2 (by omega) (by omega)]
    rfl
   ·rw [Bool.not_eq_true] at hr
    simp only [hr,Bool.false_eq_true,if_false]
    exact⟨_,bJ ((hl2 _ (by rw [hr,pW])).trans rfl),_,rfl⟩
  ·rw [h1]
   refine⟨_,bJ (t:=Sum.inr (.inr (s,[]))) ?_,_,rfl⟩
   show cH [] Y xs acc (k:Int)=_
   unfold cH
   rw [hY,if_pos (by simp only [decide_eq_true_eq]; omega),h2]
   rfl
theorem aQ0 {xs:List Int} (hB:Bs xs) (hl:xs.length<1099511627776):match aEv xs with
  | some (T,r)=>iV ⟨xs⟩ []=some (.inl (⟨r⟩,T))
  | none=>∃ s,iV ⟨xs⟩ []=some (.inr s):=by
 unfold iV aEv
 rcases (aCq 4096 hB).cases with ⟨n,r,h1,h2⟩ | ⟨h1,s,h2⟩
 ·rw [h1,h2]
  obtain⟨⟨q1,q2,q3⟩,p,hp,_⟩:=rG h1
  have hBr:=aK0 hB h1
  have hrl:r.length≤xs.length:=by rw [hp]; simp
  obtain⟨n,rfl⟩:∃ m:Nat,n=(m:Int):=⟨n.toNat,by omega⟩
  simp only [Option.bind_some,nL,Int.toNat_natCast]
  obtain⟨y,hy,hm⟩:=aF5 ((n:Int),⟨r⟩) n rfl (by omega) n 0 [] r hBr (by omega) (by omega) rfl
  rw [show ((0:Nat):Int)=0 from rfl] at hy
  rw [hy]
  simp only [Option.bind_some]
  cases hd:aA7 [] n r with
  | none =>
   rw [hd] at hm
   obtain⟨s,rfl⟩:=hm
   exact⟨s,rfl⟩
  | some z =>
   obtain⟨ds,r'⟩:=z
   rw [hd] at hm
   simp only at hm
   subst hm
   obtain⟨hBr',hrl',hdl⟩:=aLb n _ _ hBr hd
   have hdl':ds.length=n:=by simpa using hdl
   simp only
   unfold jJ lB
   rw [aW (by omega)]
   rcases (aNb hBr' (by omega)).cases with ⟨ix,r'',h3,h4⟩ | ⟨h3,s,h4⟩
   ·rw [h3,h4]
    have hil:=aHu h3
    simp only [Option.bind_some,nL]
    obtain⟨y,hy,hm⟩:=aHd ds ix ⟨r''⟩ r'' hil ix.length 0 (by omega) rfl
    rw [List.take_zero,aSo,show ((0:Nat):Int)=0 from rfl] at hy
    rw [Int.toNat_natCast]
    have e0:tx ds []=[]:=rfl
    rw [e0] at hy
    rw [hy]
    simp only [Option.bind_some]
    by_cases hok:okI ds.length ix=true
    ·rw [if_pos hok] at hm
     subst hm
     simp only
     unfold jI kX
     rw [aKl _ _ (by rw [aE8]; omega)]
     simp only [Option.bind_some]
     by_cases hu:false∈usd ds.length ix
     ·rw [show decide (false∈usd ds.length ix)=true by simpa using hu,Bool.not_true,pW,if_neg (fun c=>c.2 hu)]
      exact⟨_,rfl⟩
     ·rw [show decide (false∈usd ds.length ix)=false by simpa using hu,Bool.not_false,rF,if_pos ⟨hok,hu⟩]
      rfl
    ·rw [if_neg hok] at hm
     obtain⟨s,rfl⟩:=hm
     rw [if_neg (fun c=>hok c.1)]
     exact⟨s,rfl⟩
   ·rw [h3,h4]
    exact⟨_,rfl⟩
 ·rw [h1,h2]
  exact⟨_,rfl⟩
def aHs (xs:List Int):Option (List (List UInt8)):=match aEv xs with
 | some (T,[])=>some T
 | _=>none
theorem aGu {xs:List Int} (hB:Bs xs) (hl:xs.length<1099511627776):mT xs=some (match aHs xs with | some T=>(T,0) | none=>([],3)):=by
 unfold mT nO aHs
 have h:=aQ0 hB hl
 cases hp:aEv xs with
 | none =>
  rw [hp] at h
  obtain⟨s,hs⟩:=h
  rw [hs]
  rfl
 | some z =>
  obtain⟨T,r⟩:=z
  rw [hp] at h
  simp only at h
  rw [h]
  cases r with
  | nil=>rfl
  | cons b r =>
   simp only [Option.bind_some,nL]
   rw [show (((b::r).length:Int)==0)=false by simp; omega]
   rfl
def aKf (xs:List Int):Option (List Nat):=(tI xs).bind aCx
structure SWO {α:Type} (lt:α→α→Bool):Prop where
 irr:∀ a,lt a a=false
 trans:∀ a b c,lt a b=true→lt b c=true→lt a c=true
 neg:∀ a b c,lt a c=true→lt a b=true∨lt b c=true
section
variable {α:Type} {lt:α→α→Bool}
def ins (lt:α→α→Bool) (x:α):List α→List α
 | []=>[x]
 | y::l=>if lt x y then x::y::l else y::ins lt x l
def sortL (lt:α→α→Bool) (l:List α):List α:=l.foldl (fun acc x=>ins lt x acc) []
def Srt (lt:α→α→Bool) (l:List α):Prop:=l.Pairwise fun a b=>lt b a=false
theorem aFc (x:α):∀ l:List α,(ins lt x l).length=l.length+1
 | []=>rfl
 | y::l=>by unfold ins; split <;> simp [aFc x l]
theorem aJh (x z:α):∀ l:List α,z∈ins lt x l↔z=x∨z∈l
 | []=>by simp [ins]
 | y::l=>by
  unfold ins
  split
  ·simp
  ·simp only [List.mem_cons,aJh x z l]
   constructor <;> (rintro (h | h | h) <;> simp_all)
theorem SWO.asymm (h:SWO lt) {a b:α} (hab:lt a b=true):lt b a=false:=by
 cases hba:lt b a with
 | false=>rfl
 | true=>have:=h.trans _ _ _ hab hba; rw [h.irr] at this; cases this
theorem aNf (h:SWO lt) (x:α):∀ {l:List α},Srt lt l→Srt lt (ins lt x l)
 | [],_=>by simp [ins,Srt]
 | y::l,hs=>by
  unfold ins
  have hs':=List.pairwise_cons.1 hs
  split
  ·rename_i hxy
   refine List.pairwise_cons.2 ⟨fun z hz=>?_,hs⟩
   rcases List.mem_cons.1 hz with rfl | hz
   ·exact h.asymm hxy
   ·cases hzx:lt z x with
    | false=>rfl
    | true =>
     have:=h.trans _ _ _ hzx hxy
     rw [hs'.1 z hz] at this
     cases this
  ·rename_i hxy
   refine List.pairwise_cons.2 ⟨fun z hz=>?_,aNf h x hs'.2⟩
   rcases (aJh x z l).1 hz with rfl | hz
   ·simpa using hxy
   ·exact hs'.1 z hz
theorem aH0 (h:SWO lt):∀ (l acc:List α),Srt lt acc→Srt lt (l.foldl (fun acc x=>ins lt x acc) acc)
 | [],acc,ha=>ha
 | x::l,acc,ha=>aH0 h l _ (aNf h x ha)
theorem nD (h:SWO lt) (l:List α):Srt lt (sortL lt l):=aH0 h l [] List.Pairwise.nil
theorem aCs:∀ (l acc:List α),(l.foldl (fun acc x=>ins lt x acc) acc).length=acc.length+l.length
 | [],acc=>by simp
 | x::l,acc=>by rw [List.foldl_cons,aCs l,aFc]; simp; omega
theorem aN (l:List α):(sortL lt l).length=l.length:=by unfold sortL; rw [aCs]; simp
theorem tN (z:α):∀ (l acc:List α),z∈l.foldl (fun acc x=>ins lt x acc) acc↔z∈acc∨z∈l
 | [],acc=>by simp
 | x::l,acc=>by rw [List.foldl_cons,tN z l,aJh,List.mem_cons,or_comm (a:=z=x),or_assoc]
theorem aN8 (z:α) (l:List α):z∈sortL lt l↔z∈l:=by unfold sortL; rw [tN]; simp
theorem vG (l:List α) (x:α):sortL lt (l++[x])=ins lt x (sortL lt l):=by unfold sortL; rw [List.foldl_append]; rfl
theorem aPc (h:SWO lt) {s:List α} (hs:Srt lt s) {x:α} {n:Nat} (hn:n≤s.length) (hlo:∀ y,0<n→s[n - 1]?=some y→lt x y=false) (hhi:∀ j y,n≤j→s[j]?=some y→lt x y=true) :
  s.take n++[x]++s.drop n=ins lt x s:=by
 induction s generalizing n with
 | nil=>simp at hn; subst hn; rfl
 | cons y s ih =>
  have hs':=List.pairwise_cons.1 hs
  cases n with
  | zero =>
   have:=hhi 0 y (Nat.le_refl _) rfl
   simp [ins,this]
  | succ n =>
   have hxy:lt x y=false:=by
    cases n with
    | zero=>exact hlo y (by omega) rfl
    | succ n =>
     cases hc:lt x y with
     | false=>rfl
     | true =>
      simp only [List.length_cons] at hn
      have hm:s[n]?=some (s[n]'(by omega)):=List.getElem?_eq_getElem (by omega)
      have h2:=hlo (s[n]'(by omega)) (by omega) (by simp)
      rcases h.neg x (s[n]'(by omega)) y hc with h3 | h3
      ·rw [h2] at h3; cases h3
      ·have:=hs'.1 _ (List.getElem_mem (by omega:n<s.length))
       rw [this] at h3; cases h3
   have:=ih hs'.2 (n:=n) (by simpa using hn) (fun z hz he=>hlo z (by omega) (by
    cases n with
    | zero=>omega
    | succ n=>simpa using he)) (fun j z hj he=>hhi (j+1) z (by omega) (by simpa using he))
   simp only [List.take_succ_cons,List.drop_succ_cons,List.cons_append,ins,hxy]
   simp only [Bool.false_eq_true,if_false]
   rw [← this]
theorem aDk (e:α):∀ (C s:List α),(∀ c∈C,lt c e=false)→C.foldl (fun acc x=>ins lt x acc) (e::s)=e::C.foldl (fun acc x=>ins lt x acc) s
 | [],s,_=>rfl
 | c::C,s,h=>by
  simp only [List.foldl_cons]
  have hc:=h c List.mem_cons_self
  rw [show ins lt c (e::s)=e::ins lt c s by simp [ins,hc]]
  exact aDk e C _ fun d hd=>h d (List.mem_cons_of_mem _ hd)
theorem aK1 {A C:List α} {e:α} (hA:∀ a∈A,lt e a=true) (hC:∀ c∈C,lt c e=false):sortL lt (A++e::C)=e::sortL lt (A++C):=by
 unfold sortL
 rw [List.foldl_append,List.foldl_append,List.foldl_cons]
 have:ins lt e (A.foldl (fun acc x=>ins lt x acc) [])=e::A.foldl (fun acc x=>ins lt x acc) []:=by
  have hm:∀ a∈A.foldl (fun acc x=>ins lt x acc) [],lt e a=true:=fun a ha=>hA a (by simpa using (tN a A []).1 ha)
  cases hs:A.foldl (fun acc x=>ins lt x acc) [] with
  | nil=>rfl
  | cons y s=>simp [ins,hm y (by rw [hs]; exact List.mem_cons_self)]
 rw [this,aDk e C _ hC]
theorem aCv:∀ (l acc:List α),Srt lt (acc++l)→l.foldl (fun acc x=>ins lt x acc) acc=acc++l
 | [],acc,_=>by simp
 | x::l,acc,h=>by
  have he:∀ acc:List α,(∀ a∈acc,lt x a=false)→ins lt x acc=acc++[x]:=by
   intro acc
   induction acc with
   | nil=>intro _; rfl
   | cons a acc ih=>intro h; simp [ins,h a List.mem_cons_self,ih fun b hb=>h b (List.mem_cons_of_mem _ hb)]
  rw [List.foldl_cons,he acc fun a ha=>(List.pairwise_append.1 h).2.2 a ha x List.mem_cons_self,aCv l _ (by simpa using h)]
  simp
theorem iF {l:List α} (h:Srt lt l):sortL lt l=l:=by
 have:=aCv (lt:=lt) l [] (by simpa using h)
 simpa [sortL] using this
theorem aSy (h:SWO lt) {l:List α} (ha:∀ i x y,l[i]?=some x→l[i+1]?=some y→lt y x=false):Srt lt l:=by
 induction l with
 | nil=>exact List.Pairwise.nil
 | cons a l ih =>
  have ih:=ih fun i x y hx hy=>ha (i+1) x y (by simpa using hx) (by simpa using hy)
  refine List.pairwise_cons.2 ⟨fun z hz=>?_,ih⟩
  cases l with
  | nil=>simp at hz
  | cons b l =>
   have hba:=ha 0 a b rfl rfl
   rcases List.mem_cons.1 hz with rfl | hz
   ·exact hba
   ·have hzb:=(List.pairwise_cons.1 ih).1 z hz
    cases hza:lt z a with
    | false=>rfl
    | true=>rcases h.neg z b a hza with h3 | h3 <;> simp_all
theorem aCh {l:List α} (h:Srt lt l) {i j:Nat} {x y:α} (hij:i<j) (hx:l[i]?=some x) (hy:l[j]?=some y):lt y x=false:=by
 obtain⟨h1,rfl⟩:=List.getElem?_eq_some_iff.1 hx
 obtain⟨h2,rfl⟩:=List.getElem?_eq_some_iff.1 hy
 exact List.pairwise_iff_getElem.1 h i j h1 h2 hij
end
theorem bl_swo:SWO Op.bytesLess:=by
 refine⟨fun a=>?_,fun a b c h1 h2=>?_,fun a b c h=>?_⟩
 ·rw [bytesLess_eq]; simp [List.lt_irrefl]
 ·rw [bytesLess_eq] at *
  simp only [decide_eq_true_eq] at *
  exact List.lt_trans h1 h2
 ·rw [bytesLess_eq] at *
  rw [bytesLess_eq] at *
  simp only [decide_eq_true_eq] at *
  by_cases hab:a<b
  ·exact .inl hab
  ·refine .inr ?_
   have hba:b≤a:=List.not_lt.1 hab
   exact List.lt_of_le_of_lt hba h
theorem aXb (a b:List UInt8) (h:Op.bytesLess a b=false) (h':Op.bytesLess b a=false):a=b:=by
 rw [bytesLess_eq] at *
 simp only [decide_eq_false_iff_not] at *
 exact List.le_antisymm (List.not_lt.1 h') (List.not_lt.1 h)
def bef (x y:S47):Bool:=if x.f3==y.f3 then (if x.f2==y.f2 then decide (x.f0<y.f0) else decide (x.f2<y.f2)) else Op.bytesLess x.f3 y.f3
theorem aO2 (x y:S47):wT x y=some (bef x y):=by
 unfold wT bef
 by_cases h:(x.f3==y.f3)=true <;> by_cases h2:(x.f2==y.f2)=true <;> simp [h,h2,bne]
theorem aEq (x y:S47):nN x y=some (bef x y):=by
 unfold nN bef
 by_cases h:(x.f3==y.f3)=true <;> by_cases h2:(x.f2==y.f2)=true <;> simp [h,h2,bne]
theorem bef_swo:SWO bef:=by
 refine⟨fun a=>by simp [bef],fun a b c h1 h2=>?_,fun a b c h=>?_⟩
 ·unfold bef at *
  by_cases k1:a.f3=b.f3 <;> by_cases k2:b.f3=c.f3
  ·by_cases t1:a.f2=b.f2 <;> by_cases t2:b.f2=c.f2 <;> by_cases t3:a.f2=c.f2 <;> (try simp_all) <;> (try omega)
  ·simp_all
  ·simp_all
  ·simp only [beq_iff_eq,k1,k2,if_false] at h1 h2
   have h3:=bl_swo.trans _ _ _ h1 h2
   have:a.f3≠c.f3:=fun e=>by rw [e,bl_swo.irr] at h3; cases h3
   simp [this,h3]
 ·unfold bef at *
  by_cases k:a.f3=c.f3
  ·by_cases k1:a.f3=b.f3
   ·have k2:b.f3=c.f3:=k1.symm.trans k
    by_cases t1:a.f2=b.f2 <;> by_cases t2:b.f2=c.f2 <;> by_cases t3:a.f2=c.f2 <;> (try simp_all) <;> (try omega)
   ·have k2:b.f3≠c.f3:=fun e=>k1 (k.trans e.symm)
    simp only [beq_iff_eq,k1,k2,if_false]
    cases h1:Op.bytesLess a.f3 b.f3 with
    | true=>exact .inl rfl
    | false =>
     refine .inr ?_
     cases h2:Op.bytesLess b.f3 c.f3 with
     | true=>rfl
     | false=>exact absurd (aXb _ _ h1 (by rw [k]; exact h2)) k1
  ·simp only [beq_iff_eq,k,if_false] at h
   rcases bl_swo.neg _ b.f3 _ h with h1 | h1
   ·have:a.f3≠b.f3:=fun e=>by rw [e,bl_swo.irr] at h1; cases h1
    exact .inl (by simp [this,h1])
   ·have:b.f3≠c.f3:=fun e=>by rw [e,bl_swo.irr] at h1; cases h1
    exact .inr (by simp [this,h1])
theorem aTb (s:List S47) (hs:Srt bef s) (a0:List S47) (i:Nat) (x:S47) (hx:a0[i]?=some x) (hb:s.length+1≤140737488355328 / 48) (hi:i<9223372036854775807) :
  nK a0 s (i:Int)=some (.inl (ins bef x s,((i+1:Nat):Int))):=by
 have hil:=(List.getElem?_eq_some_iff.1 hx).1
 unfold nK
 rw [if_pos (by simp; omega)]
 obtain⟨t,ht,n,rfl,hn,hlo,hhi⟩:=gN (b:=fun q=>uO a0 s (i:Int) q) (s:=(s.length:Int))
  (fun q=>∃ n:Nat,q=n∧n≤s.length∧∀ j y,n≤j→s[j]?=some y→bef x y=true) (fun q=>q.toNat)
  (fun q=>∃ n:Nat,q=n∧n≤s.length∧(∀ y,0<n→s[n - 1]?=some y→bef x y=false)∧∀ j y,n≤j→s[j]?=some y→bef x y=true)
  ⟨s.length,rfl,Nat.le_refl _,fun j y hj hy=>by have:=(List.getElem?_eq_some_iff.1 hy).1; omega⟩ (by
   rintro q ⟨n,rfl,hn,hhi⟩
   unfold uO
   by_cases h0:0<n
   ·rw [if_pos (by simp; omega),w64 (by omega) (by omega),show at_ a0 (i:Int)=some x from aH rfl hx]
    have hm:s[n - 1]?=some (s[n - 1]'(by omega)):=List.getElem?_eq_getElem (by omega)
    rw [aH (n:=n - 1) (by omega) hm]
    simp only [Option.bind_some,aO2]
    unfold rN
    cases hb:bef x (s[n - 1]'(by omega)) with
    | true =>
     refine .inl ⟨((n - 1:Nat):Int),by simp; rw [w64 (by omega) (by omega)]; omega,⟨n - 1,rfl,by omega,fun j y hj hy=>?_⟩,by omega⟩
     rcases Nat.lt_or_ge j n with hjn | hjn
     ·rw [show j=n - 1 by omega,hm] at hy; cases hy; exact hb
     ·exact hhi j y hjn hy
    | false=>exact .inr ⟨(n:Int),by simp,n,rfl,hn,fun y _ hy=>by rw [hm] at hy; cases hy; exact hb,hhi⟩
   ·rw [if_neg (by simp; omega)]
    unfold rN
    exact .inr ⟨(n:Int),by simp,n,rfl,hn,fun y h=>absurd h h0,hhi⟩)
 rw [ht]
 simp only [Option.bind_some]
 unfold uE xF
 have c1:=uF (xs:=s) (l:=0) (u:=n) (Nat.zero_le _) hn
 have c2:=uF (xs:=s) (l:=n) (u:=s.length) hn (Nat.le_refl _)
 rw [show ((0:Nat):Int)=0 from rfl] at c1
 rw [c1,c2,aH rfl hx]
 simp only [Option.bind_some,List.drop_zero,List.take_length]
 rw [aW (by simp; omega),aW (by simp; omega),aW (by simp; omega),w64 (by omega) (by omega),aPc bef_swo hs hn hlo hhi]
 rfl
theorem aSf (a0:List S47) (h:a0.length≤140737488355328 / 48):zP a0=some (sortL bef a0):=by
 unfold zP
 have:=iO (b:=fun s:List S47×Int=>nK a0 s.1 s.2) (fun k=>(sortL bef (a0.take k),(k:Int))) (t:=sortL bef a0) a0.length (fun k hk=>by
  have hx:a0[k]?=some (a0[k]'hk):=List.getElem?_eq_getElem hk
  rw [aTb _ (nD bef_swo _) a0 k _ hx (by rw [aN]; simp; omega) (by omega), ← vG]
  simp) (by
  show nK a0 (sortL bef (a0.take a0.length)) (a0.length:Int)=_
  unfold nK
  rw [if_neg (by simp)]
  simp)
 rw [show (([],0):List S47×Int)=(fun k=>(sortL bef (a0.take k),(k:Int))) 0 from rfl,this]
 rfl
def Anc (i j:Nat):Prop:=∃ m,j / 2 ^ m=i
theorem Anc.refl (i:Nat):Anc i i:=⟨0,by simp⟩
theorem Anc.up {i j:Nat} (h:Anc i j):Anc (i / 2) j:=by
 obtain⟨m,rfl⟩:=h
 exact⟨m+1,by rw [Nat.pow_succ,Nat.div_div_eq_div_mul]⟩
theorem Anc.trans {i j k:Nat} (h:Anc i j) (h':Anc j k):Anc i k:=by
 obtain⟨m,rfl⟩:=h
 obtain⟨m',rfl⟩:=h'
 exact⟨m'+m,by rw [Nat.pow_add,Nat.div_div_eq_div_mul]⟩
theorem Anc.le {i j:Nat} (h:Anc i j):i≤j:=by obtain⟨m,rfl⟩:=h; exact Nat.div_le_self _ _
theorem Anc.half {i j:Nat} (h:Anc i j) (hn:i≠j):Anc i (j / 2):=by
 obtain⟨m,rfl⟩:=h
 cases m with
 | zero=>simp at hn
 | succ m=>exact⟨m,by rw [Nat.pow_succ,Nat.mul_comm,Nat.div_div_eq_div_mul]⟩
theorem Anc.one:∀ (j:Nat),1≤j→Anc 1 j:=by
 intro j
 induction j using Nat.strongRecOn with
 | _ j ih =>
  intro hj
  rcases Nat.lt_or_ge j 2 with h | h
  ·rw [show j=1 by omega]; exact Anc.refl 1
  ·exact (ih (j / 2) (by omega) (by omega)).trans ⟨1,rfl⟩
theorem Anc.apart {i j:Nat} (hi:1≤i) (h:Anc (2 * i) j) (h':Anc (2 * i+1) j):False:=by
 obtain⟨m,hm⟩:=h
 obtain⟨m',hm'⟩:=h'
 rcases Nat.lt_trichotomy m m' with hlt | rfl | hlt
 ·obtain⟨d,rfl⟩:∃ d,m'=m+(d+1):=⟨m' - m - 1,by omega⟩
  rw [Nat.pow_add, ← Nat.div_div_eq_div_mul,hm,Nat.pow_succ,Nat.mul_comm (2 ^ d), ← Nat.div_div_eq_div_mul] at hm'
  have:=Nat.div_le_self (2 * i / 2) (2 ^ d)
  omega
 ·omega
 ·obtain⟨d,rfl⟩:∃ d,m=m'+(d+1):=⟨m - m' - 1,by omega⟩
  rw [Nat.pow_add, ← Nat.div_div_eq_div_mul,hm',Nat.pow_succ,Nat.mul_comm (2 ^ d), ← Nat.div_div_eq_div_mul] at hm
  have:=Nat.div_le_self ((2 * i+1) / 2) (2 ^ d)
  omega
structure STO (k:Nat) (lt:Nat→Nat→Bool):Prop where
 irr:∀ a,lt a a=false
 trans:∀ a b c,lt a b=true→lt b c=true→lt a c=true
 tot:∀ a b,a<k→b<k→a≠b→lt a b=true∨lt b a=true
def Inn (lt:Nat→Nat→Bool) (W node:Nat→Nat) (i:Nat):Prop :=
 lt (W i) (node i)=true∧((W i=W (2 * i)∧node i=W (2 * i+1))∨(W i=W (2 * i+1)∧node i=W (2 * i)))
structure Tour (k:Nat) (lt:Nat→Nat→Bool) (W node:Nat→Nat):Prop where
 leaf:∀ i,i<k→W (k+i)=i
 inner:∀ i,1≤i→i<k→Inn lt W node i
section
variable {k:Nat} {lt:Nat→Nat→Bool} {W node:Nat→Nat}
theorem below (leaf:∀ i,i<k→W (k+i)=i) (i0:Nat) (h0:1≤i0) (inner:∀ i,i0≤i→i<k→(W i=W (2 * i)∨W i=W (2 * i+1))) :
  ∀ (n i:Nat),i0≤i→i<2 * k→2 * k - i=n→W i<k∧Anc i (W i+k):=by
 intro n
 induction n using Nat.strongRecOn with
 | _ n ih =>
  intro i hi hk hn
  rcases Nat.lt_or_ge i k with h | h
  ·rcases inner i hi h with h1 | h1
   ·obtain⟨h2,h3⟩:=ih (2 * k - 2 * i) (by omega) (2 * i) (by omega) (by omega) rfl
    rw [h1]
    exact⟨h2,by have:=h3.up; rwa [show 2 * i / 2=i by omega] at this⟩
   ·obtain⟨h2,h3⟩:=ih (2 * k - (2 * i+1)) (by omega) (2 * i+1) (by omega) (by omega) rfl
    rw [h1]
    exact⟨h2,by have:=h3.up; rwa [show (2 * i+1) / 2=i by omega] at this⟩
  ·have:=leaf (i - k) (by omega)
   rw [show k+(i - k)=i by omega] at this
   rw [this]
   exact⟨by omega,by rw [show i - k+k=i by omega]; exact Anc.refl i⟩
theorem Inn.or {i:Nat} (h:Inn lt W node i):W i=W (2 * i)∨W i=W (2 * i+1):=h.2.elim (fun h=>.inl h.1) fun h=>.inr h.1
theorem Tour.below (h:Tour k lt W node) {i:Nat} (hi:1≤i) (hk:i<2 * k):W i<k∧Anc i (W i+k) :=
 P.below h.leaf 1 (Nat.le_refl _) (fun i h1 h2=>(h.inner i h1 h2).or) _ i hi hk rfl
theorem Tour.min (h:Tour k lt W node) (ho:STO k lt):∀ (n i:Nat),1≤i→i<2 * k→2 * k - i=n→∀ j,j<k→Anc i (j+k)→j=W i∨lt (W i) j=true:=by
 intro n
 induction n using Nat.strongRecOn with
 | _ n ih =>
  intro i hi hk hn j hj ha
  rcases Nat.lt_or_ge i k with hik | hik
  ·have ha':=ha.half (by omega)
   obtain⟨m,hm⟩:=ha'
   have key:∀ c,(c=2 * i∨c=2 * i+1)→Anc c (j+k)→j=W i∨lt (W i) j=true:=by
    intro c hc hac
    obtain⟨hlt,hh⟩:=h.inner i hi hik
    have:=ih (2 * k - c) (by omega) c (by omega) (by omega) rfl j hj hac
    have hW:W i=W c∨lt (W i) (W c)=true:=by
     rcases hc with rfl | rfl
     ·rcases hh with ⟨h1,h2⟩ | ⟨h1,h2⟩
      ·exact .inl h1
      ·exact .inr (h2▸hlt)
     ·rcases hh with ⟨h1,h2⟩ | ⟨h1,h2⟩
      ·exact .inr (h2▸hlt)
      ·exact .inl h1
    rcases hW with hW | hW
    ·rw [hW]; exact this
    ·rcases this with rfl | this
     ·exact .inr hW
     ·exact .inr (ho.trans _ _ _ hW this)
   obtain⟨m,hm⟩:=ha
   cases m with
   | zero=>simp at hm; omega
   | succ m =>
    rw [Nat.pow_succ, ← Nat.div_div_eq_div_mul] at hm
    exact key _ (by omega) ⟨m,rfl⟩
  ·have:=h.leaf (i - k) (by omega)
   rw [show k+(i - k)=i by omega] at this
   obtain⟨m,hm⟩:=ha
   cases m with
   | zero=>simp at hm; exact .inl (by omega)
   | succ m =>
    rw [Nat.pow_succ,Nat.mul_comm, ← Nat.div_div_eq_div_mul] at hm
    have:=Nat.div_le_self ((j+k) / 2) (2 ^ m)
    omega
theorem Tour.first (h:Tour k lt W node) (ho:STO k lt) (hk:1≤k) {j:Nat} (hj:j<k) (hn:j≠W 1):lt (W 1) j=true :=
 (h.min ho _ 1 (Nat.le_refl _) (by omega) rfl j hj (Anc.one _ (by omega))).resolve_left hn
theorem Tour.path (h:Tour k lt W node) (hk:1≤k):∀ (i:Nat),1≤i→Anc i (W 1+k)→W i=W 1:=by
 intro i
 induction i using Nat.strongRecOn with
 | _ i ih =>
  intro hi ha
  have hw:=(h.below (i:=1) (by omega) (by omega)).1
  have hi2:i<2 * k:=by have:=ha.le; omega
  rcases Nat.lt_or_ge i 2 with h2 | h2
  ·rw [show i=1 by omega]
  ·have hp:=ih (i / 2) (by omega) (by omega) ha.up
   rcases (h.inner (i / 2) (by omega) (by omega)).or with h1 | h1
   ·have hb:=h.below (i:=2 * (i / 2)) (by omega) (by omega)
    rw [← h1,hp] at hb
    rcases Nat.mod_two_eq_zero_or_one i with h3 | h3
    ·rw [show i=2 * (i / 2) by omega, ← h1,hp]
    ·exact (Anc.apart (i:=i / 2) (by omega) hb.2 (by rw [show 2 * (i / 2)+1=i by omega]; exact ha)).elim
   ·have hb:=h.below (i:=2 * (i / 2)+1) (by omega) (by omega)
    rw [← h1,hp] at hb
    rcases Nat.mod_two_eq_zero_or_one i with h3 | h3
    ·exact (Anc.apart (i:=i / 2) (by omega) (by rw [show 2 * (i / 2)=i by omega]; exact ha) hb.2).elim
    ·rw [show i=2 * (i / 2)+1 by omega, ← h1,hp]
structure Way (k:Nat) (lt lt':Nat→Nat→Bool) (W node:Nat→Nat) (c:Nat) (W' node':Nat→Nat):Prop where
 c1:1≤c
 anc:Anc c (W 1+k)
 leaf:∀ i,i<k→W' (k+i)=i
 inner:∀ i,1≤i→i<k→¬ (Anc i c∧i≠c)→Inn lt' W' node' i
 todo:∀ i,Anc i c→i≠c→node' i=node i
 rest:∀ j,1≤j→¬ Anc j (W 1+k)→W' j=W j
 rng:W' c<k∧Anc c (W' c+k)
theorem Way.start {lt':Nat→Nat→Bool} (h:Tour k lt W node) (hk:1≤k) (hl:∀ a b,a≠W 1→b≠W 1→lt' a b=lt a b):Way k lt lt' W node (W 1+k) W node:=by
 have hw:=(h.below (i:=1) (by omega) (by omega)).1
 refine⟨by omega,Anc.refl _,h.leaf,fun i h1 h2 hn=>?_,fun _ _ _=>rfl,fun _ _ _=>rfl,?_⟩
 ·have hna:¬ Anc i (W 1+k):=fun ha=>hn ⟨ha,by omega⟩
  obtain⟨hlt,hor⟩:=h.inner i h1 h2
  have hd:∀ j,1≤j→j<2 * k→Anc i j→W j≠W 1:=by
   intro j hj1 hj2 hij he
   have:=(h.below (i:=j) hj1 hj2).2
   rw [he] at this
   exact hna (hij.trans this)
  have d0:=hd i h1 (by omega) (Anc.refl i)
  have d1:=hd (2 * i) (by omega) (by omega) ⟨1,by omega⟩
  have d2:=hd (2 * i+1) (by omega) (by omega) ⟨1,by omega⟩
  refine⟨?_,hor⟩
  rw [hl _ _ d0 (by rcases hor with ⟨_,e⟩ | ⟨_,e⟩ <;> rw [e] <;> assumption)]
  exact hlt
 ·have:=h.leaf (W 1) hw
  rw [Nat.add_comm] at this
  rw [this]
  exact⟨hw,Anc.refl _⟩
def upd (f:Nat→Nat) (i v:Nat):Nat→Nat:=fun j=>if j=i then v else f j
theorem Way.step {lt':Nat→Nat→Bool} {c:Nat} {W' node':Nat→Nat} (h:Tour k lt W node) (hk:1≤k) (ho:STO k lt') (hw:Way k lt lt' W node c W' node') (hc:2≤c) :
  node (c / 2)<k∧(lt' (node (c / 2)) (W' c)=true→Way k lt lt' W node (c / 2) (upd W' (c / 2) (node (c / 2))) (upd node' (c / 2) (W' c))) ∧
   (lt' (node (c / 2)) (W' c)=false→Way k lt lt' W node (c / 2) (upd W' (c / 2) (W' c)) node'):=by
 have hW1:=(h.below (i:=1) (by omega) (by omega)).1
 have hc2:c<2 * k:=by have:=hw.anc.le; omega
 obtain⟨i,hi⟩:∃ i,i=c / 2:=⟨_,rfl⟩
 rw [← hi]
 have hi1:1≤i:=by omega
 have hik:i<k:=by omega
 have hpi:=h.path hk i hi1 (by rw [hi]; exact hw.anc.up)
 have hpc:=h.path hk c hw.c1 hw.anc
 obtain⟨s,hsc⟩:∃ s,(s=2 * i∧c=2 * i+1)∨(s=2 * i+1∧c=2 * i):=by
  rcases Nat.mod_two_eq_zero_or_one c with h3 | h3
  ·exact⟨2 * i+1,.inr ⟨rfl,by omega⟩⟩
  ·exact⟨2 * i,.inl ⟨rfl,by omega⟩⟩
 have hap:∀ j,Anc c j→Anc s j→False:=by
  intro j h1 h2
  rcases hsc with ⟨rfl,e⟩ | ⟨rfl,e⟩ <;> rw [e] at h1
  ·exact Anc.apart hi1 h2 h1
  ·exact Anc.apart hi1 h1 h2
 have hs1:1≤s∧s<2 * k∧s / 2=i:=by omega
 have hsa:¬ Anc s (W 1+k):=fun ha=>hap _ hw.anc ha
 have hsW:=hw.rest s hs1.1 hsa
 have hsb:=h.below (i:=s) hs1.1 hs1.2.1
 have hsn:W s≠W 1:=fun e=>hsa (e▸hsb.2)
 have hnd:node i=W s:=by
  obtain⟨_,hor⟩:=h.inner i hi1 hik
  rcases hsc with ⟨rfl,e⟩ | ⟨rfl,e⟩ <;> rcases hor with ⟨h1,h2⟩ | ⟨h1,h2⟩
  ·exact absurd (h1.symm.trans hpi) hsn
  ·exact h2
  ·exact h2
  ·exact absurd (h1.symm.trans hpi) hsn
 have hne:W' c≠W s:=fun e=>hap _ hw.rng.2 (e▸hsb.2)
 have mk:∀ (x y:Nat) (node'':Nat→Nat),lt' x y=true→((x=W' c∧y=W s)∨(x=W s∧y=W' c))→node'' i=y→(∀ j,j≠i→node'' j=node' j)→Way k lt lt' W node i (upd W' i x) node'':=by
  intro x y node'' hxy hor hny hno
  have hanc:Anc i (W 1+k):=by have:=hw.anc.up; rwa [← hi] at this
  refine⟨hi1,hanc,fun j hj=>?_,fun j h1 h2 hn=>?_,fun j ha hj=>?_,fun j h1 hn=>?_,?_⟩
  ·simp only [upd,if_neg (show k+j≠i by omega)]; exact hw.leaf j hj
  ·by_cases hji:j=i
   ·subst hji
    refine⟨by simp only [upd,if_true]; rw [hny]; exact hxy,?_⟩
    simp only [upd,if_true,if_neg (show 2 * j≠j by omega),if_neg (show 2 * j+1≠j by omega)]
    rw [hny]
    rcases hsc with ⟨e1,e2⟩ | ⟨e1,e2⟩
    ·rw [show W' (2 * j)=W s by rw [← e1,hsW],show W' (2 * j+1)=W' c by rw [← e2]]
     exact hor.elim .inr .inl
    ·rw [show W' (2 * j+1)=W s by rw [← e1,hsW],show W' (2 * j)=W' c by rw [← e2]]
     exact hor
   ·have hna:¬ Anc j i:=fun ha=>hn ⟨ha,hji⟩
    have hin:=hw.inner j h1 h2 fun ⟨ha,hjc⟩=>hna (by have:=ha.half hjc; rwa [← hi] at this)
    have e1:2 * j≠i:=fun e=>hna ⟨1,by omega⟩
    have e2:2 * j+1≠i:=fun e=>hna ⟨1,by omega⟩
    unfold Inn
    simp only [upd,if_neg hji,if_neg e1,if_neg e2]
    rw [hno j hji]
    exact hin
  ·rw [hno j hj]
   exact hw.todo j (ha.trans ⟨1,by omega⟩) (by have:=ha.le; omega)
  ·simp only [upd,if_neg (show j≠i from fun e=>hn (e▸hanc))]
   exact hw.rest j h1 hn
  ·simp only [upd,if_true]
   rcases hor with ⟨rfl,_⟩ | ⟨rfl,_⟩
   ·exact⟨hw.rng.1,by have:=hw.rng.2.up; rwa [← hi] at this⟩
   ·exact⟨hsb.1,by have:=hsb.2.up; rwa [hs1.2.2] at this⟩
 rw [hnd]
 refine⟨hsb.1,fun ht=>?_,fun hf=>?_⟩
 ·exact mk _ (W' c) _ ht (.inr ⟨rfl,rfl⟩) (by simp [upd]) fun j hj=>by simp [upd,hj]
 ·refine mk _ (W s) _ ?_ (.inl ⟨rfl,rfl⟩) ?_ fun j hj=>rfl
  ·rcases ho.tot _ _ hw.rng.1 hsb.1 hne with h1 | h1
   ·exact h1
   ·rw [h1] at hf; cases hf
  ·rw [hw.todo i ⟨1,by omega⟩ (by omega),hnd]
theorem Way.done {lt':Nat→Nat→Bool} {W' node':Nat→Nat} (hw:Way k lt lt' W node 1 W' node'):Tour k lt' W' node' :=
 ⟨hw.leaf,fun i h1 h2=>hw.inner i h1 h2 fun ⟨ha,hn⟩=>hn (by have:=ha.le; omega)⟩
structure Rise (k:Nat) (lt:Nat→Nat→Bool) (i:Nat) (W node:Nat→Nat):Prop where
 leaf:∀ j,j<k→W (k+j)=j
 inner:∀ j,i<j→j<k→1≤j→Inn lt W node j
theorem Rise.step (ho:STO k lt) {i:Nat} (hi1:1≤i) (hik:i<k) (h:Rise k lt i W node) :
  W (2 * i)<k∧W (2 * i+1)<k∧(lt (W (2 * i+1)) (W (2 * i))=true→Rise k lt (i - 1) (upd W i (W (2 * i+1))) (upd node i (W (2 * i)))) ∧
   (lt (W (2 * i+1)) (W (2 * i))=false→Rise k lt (i - 1) (upd W i (W (2 * i))) (upd node i (W (2 * i+1)))):=by
 have hb:=P.below h.leaf (i+1) (by omega) fun j h1 h2=>(h.inner j (by omega) h2 (by omega)).or
 have b1:=hb _ (2 * i) (by omega) (by omega) rfl
 have b2:=hb _ (2 * i+1) (by omega) (by omega) rfl
 have hne:W (2 * i)≠W (2 * i+1):=fun e=>Anc.apart hi1 b1.2 (by rw [e]; exact b2.2)
 have mk:∀ x y,lt x y=true→((x=W (2 * i)∧y=W (2 * i+1))∨(x=W (2 * i+1)∧y=W (2 * i)))→Rise k lt (i - 1) (upd W i x) (upd node i y):=by
  intro x y hxy hor
  refine⟨fun j hj=>?_,fun j h1 h2 h3=>?_⟩
  ·simp only [upd,if_neg (show k+j≠i by omega)]; exact h.leaf j hj
  ·unfold Inn
   by_cases hji:j=i
   ·subst hji
    simp only [upd,if_true,if_neg (show 2 * j≠j by omega),if_neg (show 2 * j+1≠j by omega)]
    exact⟨hxy,hor⟩
   ·simp only [upd,if_neg hji,if_neg (show 2 * j≠i by omega),if_neg (show 2 * j+1≠i by omega)]
    exact h.inner j (by omega) h2 h3
 refine⟨b1.1,b2.1,fun ht=>mk _ _ ht (.inr ⟨rfl,rfl⟩),fun hf=>mk _ _ ?_ (.inl ⟨rfl,rfl⟩)⟩
 rcases ho.tot _ _ b1.1 b2.1 hne with h1 | h1
 ·exact h1
 ·rw [h1] at hf; cases hf
theorem Rise.done (h:Rise k lt 0 W node):Tour k lt W node:=⟨h.leaf,fun i h1 h2=>h.inner i h1 h2 h1⟩
end
def hd (R:List (List S47)) (i:Nat):Option S47:=R[i]?.bind List.head?
def aAb (p q:Option S47) (a b:Nat):Bool :=
 match p,q with
 | none,none=>decide (a<b)
 | none,some _=>false
 | some _,none=>true
 | some x,some y=>bef x y||(!bef y x&&decide (a<b))
def ahd (R:List (List S47)) (a b:Nat):Bool:=aAb (hd R a) (hd R b) a b
theorem aLu:∀ (p q r:Option S47) (a b c:Nat),aAb p q a b=true→aAb q r b c=true→aAb p r a c=true
 | none,none,none,a,b,c,h1,h2=>by simp [aAb] at *; omega
 | none,none,some _,a,b,c,h1,h2=>by simp [aAb] at h2
 | none,some _,none,a,b,c,h1,h2=>by simp [aAb] at h1
 | none,some _,some _,a,b,c,h1,h2=>by simp [aAb] at h1
 | some _,none,none,a,b,c,h1,h2=>by simp [aAb]
 | some _,none,some _,a,b,c,h1,h2=>by simp [aAb] at h2
 | some _,some _,none,a,b,c,h1,h2=>by simp [aAb]
 | some x,some y,some z,a,b,c,h1,h2=>by
  simp only [aAb,Bool.or_eq_true,Bool.and_eq_true,Bool.not_eq_true',decide_eq_true_eq] at h1 h2 ⊢
  have hyx:bef y x=false:=by
   rcases h1 with h1 | ⟨h1,_⟩
   ·exact bef_swo.asymm h1
   ·exact h1
  have hzy:bef z y=false:=by
   rcases h2 with h2 | ⟨h2,_⟩
   ·exact bef_swo.asymm h2
   ·exact h2
  have hzx:bef z x=false:=by
   cases h:bef z x with
   | false=>rfl
   | true=>rcases bef_swo.neg z y x h with h | h <;> simp_all
  rcases h1 with h1 | ⟨_,h1⟩
  ·rcases bef_swo.neg x z y h1 with h | h
   ·exact .inl h
   ·rw [hzy] at h; cases h
  ·rcases h2 with h2 | ⟨_,h2⟩
   ·rcases bef_swo.neg y x z h2 with h | h
    ·rw [hyx] at h; cases h
    ·exact .inl h
   ·exact .inr ⟨hzx,by omega⟩
theorem aIi (R:List (List S47)) (k:Nat):STO k (ahd R):=by
 refine⟨fun a=>?_,fun a b c h1 h2=>aLu _ _ _ _ _ _ h1 h2,fun a b ha hb hn=>?_⟩
 ·unfold ahd aAb
  cases hd R a with
  | none=>simp
  | some x=>simp [bef_swo.irr]
 ·unfold ahd aAb
  cases hd R a <;> cases hd R b <;> simp
  ·omega
  ·rename_i x y
   cases h1:bef x y <;> cases h2:bef y x <;> simp
   omega
theorem aK7 (R:List (List S47)) (nd:List Int) {a b:Nat} (ha:a<R.length) (hb:b<R.length) (hl:R.length<2 ^ 40):kH ⟨R,nd⟩ (a:Int) (b:Int)=some (ahd R a b,⟨R,nd⟩):=by
 unfold kH
 have h1:R[a]?=some (R[a]'ha):=List.getElem?_eq_getElem ha
 have h2:R[b]?=some (R[b]'hb):=List.getElem?_eq_getElem hb
 rw [aH rfl h1,aH rfl h2]
 simp only [Option.bind_some]
 unfold ahd hd aAb
 rw [h1,h2]
 simp only [Option.bind_some]
 unfold jT
 cases hx:R[a]'ha with
 | nil=>cases hy:R[b]'hb with
  | nil=>simp
  | cons y ys=>simp; intro h; omega
 | cons x xs=>cases hy:R[b]'hb with
  | nil=>simp
  | cons y ys =>
   have e1:((((x::xs).length:Nat):Int)==0)=false:=by simp; omega
   have e2:((((y::ys).length:Nat):Int)==0)=false:=by simp; omega
   simp only [e1,e2,Bool.false_eq_true,if_false]
   rw [show at_ (x::xs) 0=some x from aH (n:=0) rfl rfl,show at_ (y::ys) 0=some y from aH (n:=0) rfl rfl]
   simp only [Option.bind_some,aEq,List.head?_cons]
   cases bef x y <;> cases bef y x <;> simp
structure aLv (R:List (List S47)) (nd:List Int) (W node:Nat→Nat):Prop where
 pos:1≤R.length
 small:R.length<2 ^ 40
 len:nd.length=R.length
 tour:Tour R.length (ahd R) W node
 top:nd[0]?=some (W 1:Int)
 inner:∀ i,1≤i→i<R.length→nd[i]?=some (node i:Int)
theorem aQo (R:List (List S47)) (w:Nat) (t:List S47) (j:Nat) (h:j≠w):hd (R.set w t) j=hd R j:=by
 unfold hd; rw [List.getElem?_set_ne (Ne.symm h)]
theorem aT8 (R:List (List S47)) (w:Nat) (t:List S47) (a b:Nat) (ha:a≠w) (hb:b≠w):ahd (R.set w t) a b=ahd R a b:=by
 unfold ahd; rw [aQo R w t a ha,aQo R w t b hb]
theorem aVu (n:Nat):((n:Int)).tdiv 2=((n / 2:Nat):Int):=by
 rw [Int.tdiv_eq_ediv_of_nonneg (by omega)]; omega
theorem bAi {R:List (List S47)} {nd:List Int} {W node:Nat→Nat} (h:aLv R nd W node) (t:List S47) :
  ∃ nd' W' node',loop (fun s:List (List S47)×List Int×Int×Int=>iW s.1 s.2.1 s.2.2.1 s.2.2.2) (R.set (W 1) t,nd,(W 1:Int),(((W 1+R.length) / 2:Nat):Int))=some (R.set (W 1) t,nd',(W' 1:Int)) ∧
   aLv (R.set (W 1) t) (nd'.set 0 (W' 1:Int)) W' node'∧0<nd'.length:=by
 have hk:=h.pos
 have hw:=(h.tour.below (i:=1) (by omega) (by omega)).1
 have hsm:=h.small
 have hlen:(R.set (W 1) t).length=R.length:=by simp
 have ho:STO R.length (ahd (R.set (W 1) t)):=aIi _ _
 have hsto:STO R.length (ahd (R.set (W 1) t)):=ho
 obtain⟨s,hs,nd',W',node',rfl,hT,hl',h0'⟩:=gN (b:=fun s:List (List S47)×List Int×Int×Int=>iW s.1 s.2.1 s.2.2.1 s.2.2.2)
  (s:=(R.set (W 1) t,nd,(W 1:Int),(((W 1+R.length) / 2:Nat):Int)))
  (fun s=>∃ c W' node' nd',s=(R.set (W 1) t,nd',(W' c:Int),((c / 2:Nat):Int))∧Way R.length (ahd R) (ahd (R.set (W 1) t)) W node c W' node'∧nd'.length=R.length∧∀ i,1≤i→i<R.length→nd'[i]?=some (node' i:Int))
  (fun s=>s.2.2.2.toNat)
  (fun s=>∃ nd' W' node',s=(R.set (W 1) t,nd',(W' 1:Int))∧Tour R.length (ahd (R.set (W 1) t)) W' node'∧nd'.length=R.length∧∀ i,1≤i→i<R.length→nd'[i]?=some (node' i:Int))
  ⟨W 1+R.length,W,node,nd,by
   have:=h.tour.path hk (W 1+R.length) (by omega) (Anc.refl _)
   rw [this],Way.start h.tour hk fun a b ha hb=>aT8 R (W 1) t a b ha hb,h.len,h.inner⟩ (by
   rintro s ⟨c,W',node',nd',rfl,hway,hl',hn⟩
   simp only
   unfold iW
   have hc2:c<2 * R.length:=by have:=hway.anc.le; omega
   rcases Nat.lt_or_ge c 2 with hc | hc
   ·have hc1:c=1:=by have:=hway.c1; omega
    subst hc1
    rw [if_neg (by simp)]
    exact .inr ⟨_,rfl,nd',W',node',rfl,hway.done,hl',hn⟩
   ·have hst:=hway.step h.tour hk hsto hc
    have hi1:1≤c / 2:=by omega
    have hik:c / 2<R.length:=by omega
    have hnode:nd'[c / 2]?=some (node (c / 2):Int):=by rw [hn _ hi1 hik,hway.todo _ ⟨1,by omega⟩ (by omega)]
    rw [if_pos (by simp; omega),aH rfl hnode]
    simp only [Option.bind_some]
    rw [aK7 _ _ (by rw [hlen]; exact hst.1) (by rw [hlen]; exact hway.rng.1) (by rw [hlen]; exact hsm)]
    simp only [Option.bind_some]
    have hdiv:IntKind.i64.wrap (((c / 2:Nat):Int).tdiv 2)=((c / 2 / 2:Nat):Int):=by rw [aVu,w64 (by omega) (by omega)]
    unfold kT
    cases hb:ahd (R.set (W 1) t) (node (c / 2)) (W' c) with
    | true =>
     rw [if_pos rfl,aH rfl hnode]
     simp only [Option.bind_some,hdiv]
     refine .inl ⟨_,rfl,⟨c / 2,_,_,nd'.set (c / 2) (W' c:Int),?_,hst.2.1 hb,by simp [hl'],fun i h1 h2=>?_⟩,by simp; omega⟩
     ·simp [upd,show ((c:Int) / 2).toNat=c / 2 by omega]
     ·by_cases hic:i=c / 2
      ·subst hic; rw [List.getElem?_set_self (by omega)]; simp [upd]
      ·rw [List.getElem?_set_ne (Ne.symm hic),hn i h1 h2]; simp [upd,hic]
    | false =>
     rw [if_neg (by simp),hdiv]
     refine .inl ⟨_,rfl,⟨c / 2,_,_,_,?_,hst.2.2 hb,hl',hn⟩,by simp; omega⟩
     simp [upd])
 refine⟨nd',W',node',hs,⟨by rw [hlen]; exact hk,by rw [hlen]; exact hsm,by simp [hl'],by rw [hlen]; exact hT,?_,fun i h1 h2=>?_⟩,by omega⟩
 ·rw [List.getElem?_set_self (by omega)]
 ·rw [List.getElem?_set_ne (by omega)]; exact h0' i h1 (by omega)
theorem aS0 {R:List (List S47)} {nd:List Int} {W node:Nat→Nat} (h:aLv R nd W node) :
  (∀ r∈R,r=[])∧iN (some ⟨R,nd⟩)=some (⟨0,0,0,[],0⟩,0,false,some ⟨R,nd⟩) ∨
   ∃ w e t nd' W' node',w<R.length∧R[w]?=some (e::t)∧(∀ j,j<R.length→j≠w→ahd R w j=true) ∧
    iN (some ⟨R,nd⟩)=some (e,(w:Int),true,some ⟨R.set w t,nd'⟩)∧aLv (R.set w t) nd' W' node':=by
 have hk:=h.pos
 have hw:=(h.tour.below (i:=1) (by omega) (by omega)).1
 have hmin:∀ j,j<R.length→j≠W 1→ahd R (W 1) j=true:=fun j hj hn=>h.tour.first (aIi _ _) hk hj hn
 have hr:R[W 1]?=some (R[W 1]'hw):=List.getElem?_eq_getElem hw
 unfold iN
 simp only
 rw [show at_ nd 0=some (W 1:Int) from aH (n:=0) rfl h.top]
 simp only [Option.bind_some]
 rw [aH rfl hr]
 simp only [Option.bind_some]
 cases he:R[W 1]'hw with
 | nil =>
  refine .inl ⟨fun r hrm=>?_,by simp⟩
  obtain⟨j,hj,rfl⟩:=List.getElem_of_mem hrm
  by_cases hj1:j=W 1
  ·subst hj1; exact he
  ·have:=hmin j hj hj1
   unfold ahd aAb hd at this
   rw [hr,he] at this
   simp only [Option.bind_some,List.head?_nil] at this
   rw [List.getElem?_eq_getElem hj] at this
   cases hh:R[j] with
   | nil=>rfl
   | cons x xs=>rw [hh] at this; simp at this
 | cons e t =>
  refine .inr ?_
  obtain⟨nd',W',node',hl,hT,h0⟩:=bAi h t
  have hsm:=h.small
  have e1:((((e::t).length:Nat):Int)==0)=false:=by simp; omega
  simp only [e1,Bool.false_eq_true,if_false]
  rw [show at_ (e::t) 0=some e from aH (n:=0) rfl rfl]
  simp only [Option.bind_some]
  have c1:=uF (xs:=e::t) (l:=1) (u:=(e::t).length) (by simp) (Nat.le_refl _)
  rw [show ((1:Nat):Int)=1 from rfl] at c1
  rw [c1]
  simp only [Option.bind_some,List.take_length,List.drop_one,List.tail_cons,Int.toNat_natCast,List.length_set]
  rw [w64 (n:=(W 1:Int)+(R.length:Int)) (by omega) (by omega),show (W 1:Int)+(R.length:Int)=((W 1+R.length:Nat):Int) by omega,aVu,w64 (by omega) (by omega),hl]
  simp only [Option.bind_some]
  refine⟨W 1,e,t,_,W',node',hw,by rw [hr,he],hmin,?_,hT⟩
  unfold lZ nP
  rw [show at_ nd' 0=some (nd'[0]'h0) from aH (n:=0) rfl (List.getElem?_eq_getElem h0)]
  rfl
def Ok (R:List (List S47)):Prop:=∀ r∈R,Srt bef r
theorem aR0 (r:List S47) (hl:r.length<2 ^ 60):∃ t,loop (fun s=>pO r s) 1=some t∧((t=.inl ()∧Srt bef r)∨(t=.inr (none,7)∧¬ Srt bef r)):=by
 refine gN (b:=fun s=>pO r s) (s:=(1:Int)) (fun q=>∃ n:Nat,q=n∧1≤n∧∀ i x y,i+1<n→r[i]?=some x→r[i+1]?=some y→bef y x=false) (fun q=>(r.length+1 - q).toNat) _
  ⟨1,rfl,Nat.le_refl _,fun i x y h=>by omega⟩ ?_
 rintro q ⟨n,rfl,hn,hadj⟩
 unfold pO
 by_cases hnl:n<r.length
 ·have h1:r[n]?=some (r[n]'hnl):=List.getElem?_eq_getElem hnl
  have h2:r[n - 1]?=some (r[n - 1]'(by omega)):=List.getElem?_eq_getElem (by omega)
  rw [if_pos (by simp; omega),aH rfl h1,aH (n:=n - 1) (by rw [w64 (by omega) (by omega)]; omega) h2]
  simp only [Option.bind_some,aEq]
  cases hb:bef (r[n]'hnl) (r[n - 1]'(by omega)) with
  | true =>
   refine .inr ⟨_,rfl,.inr ⟨rfl,fun hs=>?_⟩⟩
   have:=aCh hs (show n - 1<n by omega) h2 h1
   rw [hb] at this; cases this
  | false =>
   refine .inl ⟨((n+1:Nat):Int),by simp; rw [w64 (by omega) (by omega)],⟨n+1,rfl,by omega,fun i x y hi hx hy=>?_⟩,by omega⟩
   rcases Nat.lt_or_ge (i+1) n with h | h
   ·exact hadj i x y h hx hy
   ·obtain rfl:i+1=n:=by omega
    rw [h1] at hy; cases hy
    simp only [Nat.add_sub_cancel] at h2 hb
    rw [h2] at hx; cases hx
    exact hb
 ·rw [if_neg (by simp; omega)]
  exact .inr ⟨_,rfl,.inl ⟨rfl,aSy bef_swo fun i x y hx hy=>hadj i x y (by have:=(List.getElem?_eq_some_iff.1 hy).1; omega) hx hy⟩⟩
theorem aOh (R:List (List S47)) (hk:R.length<2 ^ 40) (hl:∀ r∈R,r.length<2 ^ 60) :
  ∃ t,loop (fun s:List (List S47)×Int=>lS R s.1 s.2) ([],0)=some t∧((t=.inl R∧Ok R)∨(t=.inr (none,7)∧¬ Ok R)):=by
 refine gN (b:=fun s:List (List S47)×Int=>lS R s.1 s.2) (s:=([],0)) (fun s=>∃ n:Nat,s=(R.take n,(n:Int))∧n≤R.length∧∀ r∈R.take n,Srt bef r) (fun s=>(R.length - s.2).toNat) _
  ⟨0,rfl,Nat.zero_le _,fun r h=>by simp at h⟩ ?_
 rintro s ⟨n,rfl,hn,hok⟩
 show (∃ s',lS R (R.take n) (n:Int)=some (.inl s')∧_)∨∃ t,lS R (R.take n) (n:Int)=some (.inr t)∧_
 unfold lS
 by_cases hnl:n<R.length
 ·have h1:R[n]?=some (R[n]'hnl):=List.getElem?_eq_getElem hnl
  obtain⟨t,ht,hc⟩:=aR0 (R[n]'hnl) (hl _ (List.getElem_mem hnl))
  rw [if_pos (by simp; omega),aH rfl h1]
  simp only [Option.bind_some]
  rw [ht]
  simp only [Option.bind_some]
  rcases hc with ⟨rfl,hs⟩ | ⟨rfl,hs⟩
  ·refine .inl ⟨(R.take (n+1),((n+1:Nat):Int)),?_,⟨n+1,rfl,by omega,fun r hr=>?_⟩,by simp; omega⟩
   ·simp only
    unfold sA vT
    rw [aW (by simp; omega),w64 (by omega) (by omega)]
    simp
   ·rw [List.take_add_one,h1] at hr
    simp only [Option.toList_some,List.mem_append,List.mem_singleton] at hr
    rcases hr with hr | rfl
    ·exact hok r hr
    ·exact hs
  ·exact .inr ⟨_,rfl,.inr ⟨rfl,fun h=>hs (h _ (List.getElem_mem hnl))⟩⟩
 ·rw [if_neg (by simp; omega)]
  have:n=R.length:=by omega
  subst this
  rw [List.take_length] at hok ⊢
  exact .inr ⟨_,rfl,.inl ⟨rfl,hok⟩⟩
theorem aO3 (R:List (List S47)) (hk:R.length<2 ^ 40):∃ l,loop (fun s:List Int×Int=>lY R s.1 s.2) (List.replicate (2 * R.length) 0,0)=some l ∧
  l.length=2 * R.length∧∀ j,j<R.length→l[R.length+j]?=some (j:Int):=by
 refine gN (b:=fun s:List Int×Int=>lY R s.1 s.2) (s:=(List.replicate (2 * R.length) 0,0)) (fun s=>∃ l n,s=(l,((n:Nat):Int))∧n≤R.length∧l.length=2 * R.length∧∀ j,j<n→l[R.length+j]?=some (j:Int)) (fun s=>(R.length - s.2).toNat) _
  ⟨_,0,rfl,Nat.zero_le _,by simp,fun j h=>by omega⟩ ?_
 rintro s ⟨l,n,rfl,hn,hl,hj⟩
 show (∃ s',lY R l (n:Int)=some (.inl s')∧_)∨∃ t,lY R l (n:Int)=some (.inr t)∧_
 unfold lY
 by_cases hnl:n<R.length
 ·have hw:IntKind.i64.wrap ((R.length:Int)+(n:Int))=((R.length+n:Nat):Int):=by rw [w64 (by omega) (by omega)]; omega
  rw [if_pos (by simp; omega),hw,aH rfl (List.getElem?_eq_getElem (show R.length+n<l.length by omega))]
  simp only [Option.bind_some,Int.toNat_natCast]
  rw [w64 (by omega) (by omega)]
  refine .inl ⟨_,rfl,⟨_,n+1,rfl,by omega,by simp [hl],fun j hjn=>?_⟩,by simp; omega⟩
  by_cases h:j=n
  ·subst h; rw [List.getElem?_set_self (by omega)]
  ·rw [List.getElem?_set_ne (by omega)]; exact hj j (by omega)
 ·rw [if_neg (by simp; omega)]
  obtain rfl:n=R.length:=by omega
  exact .inr ⟨_,rfl,hl,hj⟩
theorem aUd (R:List (List S47)) (hk:R.length<2 ^ 40) (hp:1≤R.length) {l:List Int} (hl:l.length=2 * R.length) (hj:∀ j,j<R.length→l[R.length+j]?=some (j:Int)) :
  ∃ t,loop (fun s:List (List S47)×List Int×List Int×Int=>mB s.1 s.2.1 s.2.2.1 s.2.2.2) (R,List.replicate R.length 0,l,((R.length - 1:Nat):Int))=some t ∧
   ∃ nd win W node,t=(R,nd,win)∧nd.length=R.length∧Tour R.length (ahd R) W node∧(∀ i,1≤i→i<R.length→nd[i]?=some (node i:Int))∧win[1]?=some (W 1:Int):=by
 refine gN (b:=fun s:List (List S47)×List Int×List Int×Int=>mB s.1 s.2.1 s.2.2.1 s.2.2.2) (s:=(R,List.replicate R.length 0,l,((R.length - 1:Nat):Int)))
  (fun s=>∃ nd win i W node,s=(R,nd,win,((i:Nat):Int))∧i<R.length∧nd.length=R.length∧win.length=2 * R.length∧Rise R.length (ahd R) i W node∧(∀ j,i<j→j<R.length→nd[j]?=some (node j:Int))∧∀ j,i<j→j<2 * R.length→win[j]?=some (W j:Int))
  (fun s=>s.2.2.2.toNat) _
  ⟨_,_,R.length - 1,fun j=>j - R.length,fun _=>0,rfl,by omega,by simp,hl,⟨fun j _=>by simp,fun j h1 h2 _=>by omega⟩,fun j h1 h2=>by omega,fun j h1 h2=>by
   have:=hj (j - R.length) (by omega)
   rwa [show R.length+(j - R.length)=j by omega] at this⟩ ?_
 rintro s ⟨nd,win,i,W,node,rfl,hi,hnl,hwl,hr,hn,hw⟩
 show (∃ s',mB R nd win (i:Int)=some (.inl s')∧_)∨∃ t,mB R nd win (i:Int)=some (.inr t)∧_
 unfold mB
 by_cases h0:0<i
 ·have hst:=hr.step (aIi _ _) h0 hi
  have e1:IntKind.i64.wrap (2 * (i:Int))=((2 * i:Nat):Int):=by rw [w64 (by omega) (by omega)]; omega
  have e2:IntKind.i64.wrap (((2 * i:Nat):Int)+1)=((2 * i+1:Nat):Int):=by rw [w64 (by omega) (by omega)]; omega
  have e3:IntKind.i64.wrap ((i:Int) - 1)=((i - 1:Nat):Int):=by rw [w64 (by omega) (by omega)]; omega
  rw [if_pos (by simp; omega),e1,e2,aH rfl (hw (2 * i) (by omega) (by omega)),aH rfl (hw (2 * i+1) (by omega) (by omega))]
  simp only [Option.bind_some]
  rw [aK7 _ _ hst.2.1 hst.1 hk]
  simp only [Option.bind_some]
  unfold sZ
  have g1:at_ win (i:Int)=some (win[i]'(by omega)):=aH rfl (List.getElem?_eq_getElem (by omega))
  have g2:at_ nd (i:Int)=some (nd[i]'(by omega)):=aH rfl (List.getElem?_eq_getElem (by omega))
  simp only [g1,g2,Option.bind_some,Int.toNat_natCast,e3]
  have fin:∀ x y:Nat,Rise R.length (ahd R) (i - 1) (upd W i x) (upd node i y)→∃ nd' win' i' W' node',(R,nd.set i (y:Int),win.set i (x:Int),((i - 1:Nat):Int))=(R,nd',win',((i':Nat):Int))∧i'<R.length∧nd'.length=R.length∧win'.length=2 * R.length∧Rise R.length (ahd R) i' W' node'∧(∀ j,i'<j→j<R.length→nd'[j]?=some (node' j:Int))∧∀ j,i'<j→j<2 * R.length→win'[j]?=some (W' j:Int):=by
   intro x y h
   refine⟨_,_,i - 1,_,_,rfl,by omega,by simp [hnl],by simp [hwl],h,fun j h1 h2=>?_,fun j h1 h2=>?_⟩
   ·by_cases hji:j=i
    ·subst hji; rw [List.getElem?_set_self (by omega)]; simp [upd]
    ·rw [List.getElem?_set_ne (Ne.symm hji),hn j (by omega) h2]; simp [upd,hji]
   ·by_cases hji:j=i
    ·subst hji; rw [List.getElem?_set_self (by omega)]; simp [upd]
    ·rw [List.getElem?_set_ne (Ne.symm hji),hw j (by omega) h2]; simp [upd,hji]
  cases hb:ahd R (W (2 * i+1)) (W (2 * i)) with
  | true=>rw [if_pos rfl]; exact .inl ⟨_,rfl,fin _ _ (hst.2.2.1 hb),by simp; omega⟩
  | false=>rw [if_neg (by simp)]; exact .inl ⟨_,rfl,fin _ _ (hst.2.2.2 hb),by simp; omega⟩
 ·obtain rfl:i=0:=by omega
  rw [if_neg (by simp)]
  exact .inr ⟨_,rfl,nd,win,W,node,rfl,hnl,hr.done,fun i h1 h2=>hn i (by omega) h2,hw 1 (by omega) (by omega)⟩
theorem aWf (R:List (List S47)) (hl:∀ r∈R,r.length<2 ^ 60) (hb:R.length<2 ^ 62) :
  (R.length<1∨16<R.length)∧uA R=some (none,1)∨1≤R.length∧R.length≤16∧¬ Ok R∧uA R=some (none,7) ∨
   1≤R.length∧R.length≤16∧Ok R∧∃ nd W node,uA R=some (some ⟨R,nd⟩,0)∧aLv R nd W node:=by
 unfold uA
 by_cases h1:R.length<1
 ·rw [if_pos (by simp; omega)]
  exact .inl ⟨.inl h1,rfl⟩
 rw [if_neg (by simp; omega)]
 by_cases h2:16<R.length
 ·rw [show decide (16<(R.length:Int))=true by simp; omega]
  exact .inl ⟨.inr h2,rfl⟩
 rw [show decide (16<(R.length:Int))=false by simp; omega]
 refine .inr ?_
 unfold sE
 rw [if_neg (by simp)]
 obtain⟨t,ht,hc⟩:=aOh R (by omega) hl
 rw [ht]
 simp only [Option.bind_some]
 rcases hc with ⟨rfl,hok⟩ | ⟨rfl,hok⟩
 ·refine .inr ⟨by omega,by omega,hok,?_⟩
  simp only
  unfold sG vP
  obtain⟨l,hl,hll,hlj⟩:=aO3 R (by omega)
  have e0:IntKind.i64.wrap (2 * (R.length:Int))=((2 * R.length:Nat):Int):=by rw [w64 (by omega) (by omega)]; omega
  have e3:IntKind.i64.wrap ((R.length:Int) - 1)=((R.length - 1:Nat):Int):=by rw [w64 (by omega) (by omega)]; omega
  have e4:IntKind.i64.wrap (((2 * R.length:Nat):Int) - 1)=((2 * R.length - 1:Nat):Int):=by rw [w64 (by omega) (by omega)]; omega
  rw [e0,aW (by omega),aW (by omega),Int.toNat_natCast,hl]
  simp only [Option.bind_some]
  unfold sU vY
  obtain⟨t,ht,nd,win,W,node,rfl,hnl,hT,hn,hw⟩:=aUd R (by omega) (by omega) hll hlj
  rw [e3,Int.toNat_natCast,ht]
  simp only [Option.bind_some]
  unfold tC vZ
  rw [e0,e4]
  have hmin:(if ((2 * R.length - 1:Nat):Int)<1 then ((2 * R.length - 1:Nat):Int) else 1)=1:=by rw [if_neg (by omega)]
  rw [hmin,show at_ win 1=some (W 1:Int) from aH (n:=1) rfl hw,show at_ nd 0=some (nd[0]'(by omega)) from aH (n:=0) rfl (List.getElem?_eq_getElem (by omega))]
  simp only [Option.bind_some]
  refine⟨_,W,node,rfl,by omega,by omega,by simp [hnl],hT,?_,fun i h1 h2=>?_⟩
  ·show (nd.set 0 _)[0]?=_
   rw [List.getElem?_set_self (by omega)]
  ·show (nd.set 0 _)[i]?=_
   rw [List.getElem?_set_ne (by omega)]; exact hn i h1 h2
 ·exact .inl ⟨by omega,by omega,hok,rfl⟩
theorem aO6 {R:List (List S47)} (hok:Ok R) {w:Nat} {e:S47} {t:List S47} (hw:R[w]?=some (e::t)) (hmin:∀ j,j<R.length→j≠w→ahd R w j=true) :
  sortL bef R.flatten=e::sortL bef (R.set w t).flatten∧Ok (R.set w t):=by
 obtain⟨hwl,hwe⟩:=List.getElem?_eq_some_iff.1 hw
 have hR:R=R.take w++(e::t)::R.drop (w+1):=by
  rw [← hwe, ← List.drop_eq_getElem_cons hwl,List.take_append_drop]
 have hS:R.set w t=R.take w++t::R.drop (w+1):=List.set_eq_take_append_cons_drop.trans (if_pos hwl)
 have ht:Srt bef (e::t):=hok _ (by rw [← hwe]; exact List.getElem_mem hwl)
 have ht':=List.pairwise_cons.1 ht
 have hcmp:∀ j r,j≠w→R[j]?=some r→∀ x∈r,(j<w→bef e x=true)∧bef x e=false:=by
  intro j r hjw hjr x hx
  have hjl:=(List.getElem?_eq_some_iff.1 hjr).1
  have h:=hmin j hjl hjw
  unfold ahd aAb hd at h
  rw [hw,hjr] at h
  cases r with
  | nil=>simp at hx
  | cons y ys =>
   simp only [Option.bind_some,List.head?_cons,Bool.or_eq_true,Bool.and_eq_true,Bool.not_eq_true',decide_eq_true_eq] at h
   have hye:bef y e=false:=by
    rcases h with h | ⟨h,_⟩
    ·exact bef_swo.asymm h
    ·exact h
   have hxy:bef x y=false:=by
    rcases List.mem_cons.1 hx with rfl | hx
    ·exact bef_swo.irr _
    ·exact (List.pairwise_cons.1 (hok _ (List.mem_of_getElem? hjr))).1 x hx
   refine⟨fun hlt=>?_,?_⟩
   ·rcases h with h | ⟨_,h⟩
    ·rcases bef_swo.neg e x y h with h2 | h2
     ·exact h2
     ·rw [hxy] at h2; cases h2
    ·omega
   ·cases h3:bef x e with
    | false=>rfl
    | true =>
     rcases bef_swo.neg x y e h3 with h4 | h4
     ·rw [hxy] at h4; cases h4
     ·rw [hye] at h4; cases h4
 refine⟨?_,fun r hr=>?_⟩
 ·conv=>lhs; rw [hR]
  rw [hS,List.flatten_append,List.flatten_append,List.flatten_cons,List.flatten_cons,List.cons_append]
  refine aK1 (fun a ha=>?_) fun c hc=>?_
  ·obtain⟨r,hr,har⟩:=List.mem_flatten.1 ha
   obtain⟨j,hj⟩:=List.getElem?_of_mem hr
   have hjw:j<w:=by have:=(List.getElem?_eq_some_iff.1 hj).1; simp at this; omega
   rw [List.getElem?_take,if_pos hjw] at hj
   exact (hcmp j r (by omega) hj a har).1 hjw
  ·rcases List.mem_append.1 hc with hc | hc
   ·exact ht'.1 c hc
   ·obtain⟨r,hr,hcr⟩:=List.mem_flatten.1 hc
    obtain⟨j,hj⟩:=List.getElem?_of_mem hr
    rw [List.getElem?_drop] at hj
    exact (hcmp _ r (by omega) hj c hcr).2
 ·rcases List.mem_or_eq_of_mem_set hr with hr | rfl
  ·exact hok r hr
  ·exact ht'.2
theorem aKa {R:List (List S47)} (h:∀ r∈R,r=[]):R.flatten=[]:=by
 simpa [List.flatten_eq_nil_iff] using h
theorem aQp {R:List (List S47)} {w:Nat} {e:S47} {t:List S47} (hw:R[w]?=some (e::t)):R.flatten.length=(R.set w t).flatten.length+1:=by
 obtain⟨hwl,hwe⟩:=List.getElem?_eq_some_iff.1 hw
 have hR:R=R.take w++(e::t)::R.drop (w+1):=by
  rw [← hwe, ← List.drop_eq_getElem_cons hwl,List.take_append_drop]
 have hS:R.set w t=R.take w++t::R.drop (w+1):=List.set_eq_take_append_cons_drop.trans (if_pos hwl)
 conv=>lhs; rw [hR]
 rw [hS]
 simp [List.flatten_append]
 omega
theorem aXd (R:List (List S47)) (hl:∀ r∈R,r.length<2 ^ 60) (hb:R.length<2 ^ 62) (hf:R.flatten.length<2 ^ 40) :
  (R.length<1∨16<R.length)∧rO R=some ([],1)∨1≤R.length∧R.length≤16∧¬ Ok R∧rO R=some ([],7) ∨
   1≤R.length∧R.length≤16∧Ok R∧rO R=some (sortL bef R.flatten,0):=by
 unfold rO
 rcases aWf R hl hb with ⟨h,hN⟩ | ⟨h1,h2,hok,hN⟩ | ⟨h1,h2,hok,nd,W,node,hN,hT⟩
 ·exact .inl ⟨h,by rw [hN]; rfl⟩
 ·exact .inr (.inl ⟨h1,h2,hok,by rw [hN]; rfl⟩)
 ·refine .inr (.inr ⟨h1,h2,hok,?_⟩)
  rw [hN]
  simp only [Option.bind_some]
  rw [if_neg (by simp)]
  
  let Inv:Option S151×List S47×Int×Int×Int×List UInt8×Nat×Bool→Prop:=fun s =>
   ∃ R' nd' W' node' out,s.1=some ⟨R',nd'⟩∧s.2.1=out∧aLv R' nd' W' node'∧Ok R'∧R'.flatten.length<2 ^ 40 ∧
    ((s.2.2.2.2.2.2.2=true∧sortL bef R.flatten=out++(⟨s.2.2.1,s.2.2.2.1,s.2.2.2.2.1,s.2.2.2.2.2.1,s.2.2.2.2.2.2.1⟩:S47)::sortL bef R'.flatten) ∨
     (s.2.2.2.2.2.2.2=false∧R'.flatten=[]∧sortL bef R.flatten=out))
  have nxt:∀ R' nd' W' node' out,aLv R' nd' W' node'→Ok R'→R'.flatten.length<2 ^ 40→sortL bef R.flatten=out++sortL bef R'.flatten →
    ∃ y,iN (some ⟨R',nd'⟩)=some y∧Inv (y.2.2.2,out,y.1.f0,y.1.f1,y.1.f2,y.1.f3,y.1.f4,y.2.2.1) ∧
     ∀ R'' nd'',y.2.2.2=some (⟨R'',nd''⟩:S151)→R''.flatten.length+(if y.2.2.1 then 1 else 0)=R'.flatten.length:=by
   intro R' nd' W' node' out hT' hok' hfl hs
   rcases aS0 hT' with ⟨he,hN'⟩ | ⟨w,e,t,nd2,W2,node2,hw,hwe,hmin,hN',hT2⟩
   ·refine⟨_,hN',⟨R',nd',W',node',out,rfl,rfl,hT',hok',hfl,.inr ⟨rfl,aKa he,?_⟩⟩,fun R'' nd'' h=>?_⟩
    ·rw [hs,aKa he]; simp [sortL]
    ·cases h; simp
   ·obtain⟨hsort,hok2⟩:=aO6 hok' hwe hmin
    have hlen:=aQp hwe
    refine⟨_,hN',⟨_,nd2,W2,node2,out,rfl,rfl,hT2,hok2,by omega,.inl ⟨rfl,?_⟩⟩,fun R'' nd'' h=>?_⟩
    ·rw [hs,hsort]
    ·cases h; simp only [if_true]; omega
  obtain⟨y,hy,hI,_⟩:=nxt R nd W node [] hT hok hf (by simp)
  rw [hy]
  simp only [Option.bind_some]
  obtain⟨r,hr,hrr⟩:=gN (b:=fun s:Option S151×List S47×Int×Int×Int×List UInt8×Nat×Bool=>rX s.1 s.2.1 s.2.2.1 s.2.2.2.1 s.2.2.2.2.1 s.2.2.2.2.2.1 s.2.2.2.2.2.2.1 s.2.2.2.2.2.2.2)
   (s:=(y.2.2.2,[],y.1.f0,y.1.f1,y.1.f2,y.1.f3,y.1.f4,y.2.2.1)) Inv (fun s=>(match s.1 with | some x=>x.f0.flatten.length | none=>0)+(if s.2.2.2.2.2.2.2 then 1 else 0)) (fun r=>r=sortL bef R.flatten) hI (by
    rintro⟨s1,s2,s3,s4,s5,s6,s7,s8⟩ ⟨R',nd',W',node',out,h1,h2,hT',hok',hfl,hc⟩
    simp only at h1 h2 hc
    subst h1 h2
    simp only
    unfold rX
    rcases hc with ⟨rfl,hs⟩ | ⟨rfl,he,hs⟩
    ·rw [if_pos rfl]
     obtain⟨y,hy,hI,hm⟩:=nxt R' nd' W' node' (s2++[⟨s3,s4,s5,s6,s7⟩]) hT' hok' hfl (by rw [hs]; simp)
     have hlen:=aN (lt:=bef) R.flatten
     rw [hs] at hlen
     simp only [List.length_append,List.length_cons] at hlen
     rw [aW (by simp; omega),hy]
     simp only [Option.bind_some]
     refine .inl ⟨_,rfl,hI,?_⟩
     obtain⟨R2,nd2,W2,node2,out2,e1,_⟩:=hI
     simp only at e1
     have:=hm R2 nd2 e1
     simp only [e1,if_true]
     omega
    ·rw [if_neg (by simp)]
     exact .inr ⟨_,rfl,hs.symm⟩)
  rw [hr]
  simp only [Option.bind_some]
  unfold tE vI
  rw [hrr]
theorem aOg (a:Nat):∃ v,uL a=some v:=by
 unfold uL rW
 try simp only [ltt]
 split <;> split <;> exact⟨_,rfl⟩
theorem aOt (x:S47):wU x x=some true:=by
 unfold wU xY
 obtain⟨v,hv⟩:=aOg x.f4
 simp [hv]
theorem aJd (l:List S47) (h:l.length<2 ^ 62):lO l l=some true:=by
 unfold lO
 rw [if_neg (by simp)]
 have:=iO (b:=fun s=>iE l l s) (fun k=>(k:Int)) (t:=.inl ()) l.length (fun k hk=>by
  have hx:l[k]?=some (l[k]'hk):=List.getElem?_eq_getElem hk
  unfold iE
  rw [if_pos (by simp; omega),aH rfl hx]
  simp only [Option.bind_some,aOt]
  rw [if_neg (by simp),w64 (by omega) (by omega)]
  rfl) (by
  unfold iE
  rw [if_neg (by simp)])
 rw [show (0:Int)=((0:Nat):Int) from rfl,this]
 rfl
end Go.Proofs.YtnefioccdkmegaaGreatDoor.P
