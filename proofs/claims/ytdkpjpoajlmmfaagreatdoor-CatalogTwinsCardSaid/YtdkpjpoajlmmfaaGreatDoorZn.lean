/- Texts of the claim, joined: what it uses of Wg, Wh, Wi, Wj, Wk. -/
import Derived.Test.YtdkpjpoajlmmfaaGreatDoorZm
namespace Go.Proofs.YtdkpjpoajlmmfaaGreatDoor.P
open Go Go.RowKit Go.Proofs.YtdkpjpoajlmmfaaGreatDoor.E Go.Proofs.YtdkpjpoajlmmfaaGreatDoor.M
set_option linter.unusedVariables false
set_option linter.unusedSectionVars false
def cI (k:Int) (m:List S61) (r:List Nat):S79:=⟨(),k,bA m 0 r⟩
structure Cv (k:Int) (m:List S61) (r:List Nat) (kk:Nat) (s:S77):Prop where
  si:SI kk s
  ct:Ct k m r s.f0
  dom:aYy s.f0
  ri:RiseN 0 r m.length
theorem Cv.mono {k:Int} {m:List S61} {r:List Nat} {kk kk':Nat} {s:S77} (h:Cv k m r kk s) (hk:kk<=kk'):Cv k m r kk' s:=⟨h.si.mono hk,h.ct,h.dom,h.ri⟩
section
variable {k:Int} {m:List S61} {r:List Nat} {kk:Nat} {s:S77}
theorem Cv.few (h:Cv k m r kk s) (hL:Lg k m):r.length<=250/\eZ 0 r<=250/\r.length<=eZ 0 r/\eZ 0 r<=m.length:=by have h1:=RiseN.len h.ri;have h2:=RiseN.end_le h.ri;have:=hL.le;omega
theorem aHq (h:Cv k m r kk s) (hL:Lg k m) (hk:kk+5000<4611686018427387904) (hon:s.f3=false) :
    ∃ e s',dA (cI k m r) s=some (e,cI k m r,s')/\Cv k m r (kk+500) s'/\Kp s s'/\(∀ f x,get s'.f0 f=some x->get s.f0 f=some x)/\((e=0/\s'.f3=false/\CleanC (bA m 0 r) s'.f0)\/(e=9/\s'.f3=true)):=by
  have hf:=h.few hL;obtain⟨e,s',w,i,kp,g,d,u,o⟩:=aLn h.si (by omega) hon (cI k m r) (by show (bA m 0 r).length<=1000000; rw [fZ]; omega);exact⟨e,s',w,⟨i,h.ct.of λf hf=>g f (aB8 hL h.ri hf),λf x hx=>h.dom f x (d f x hx),h.ri⟩,kp,d,o⟩
theorem aAm (h:Cv k m r kk s) (hL:Lg k m) (hk:kk+5000<4611686018427387904) (hon:s.f3=false) {e:Int} (h0:e≠0) (h9:e≠9) :
    ∃ e' s',dD (cI k m r) e s=some (e',cI k m r,s')/\Cv k m r (kk+500) s'/\Kp s s'/\((e'=e/\s'.f3=false/\CleanC (bA m 0 r) s'.f0)\/(e'=9/\s'.f3=true)):=by
  obtain⟨f,s',w,i,kp,d,o⟩:=aHq h hL hk hon;refine⟨_,s',aNh h0 h9 w,i,kp,?_⟩;rcases o with ⟨rfl,a,b⟩ | ⟨rfl,a⟩
  · exact .inl ⟨rfl,a,b⟩
  · exact .inr ⟨rfl,a⟩
theorem aPq {r':List Nat} {a b:Nat} {l:List S61} (h:Cv k m r kk s) (hL:Lg k m) (hk:kk+5000<4611686018427387904) (hon:s.f3=false) (hcl:CleanC (bA m 0 r) s.f0)
    (hab:a<b) (hb:b<=m.length) (hl:l=pc m a b\/l=(pc m a b).map dN) (hr':RiseN 0 r' m.length) (hne:r'≠[]) (hnew:nB m a b∉bA m 0 r) (hsub:∀ e∈bA m 0 r',e=nB m a b\/e∈bA m 0 r) :
    ∃ e1 s1,dI (cI k m r) l s=some (nB m a b,e1,cI k m r,s1) /\
      ((e1≠0/\Cv k m r (kk+10) s1/\Kp s s1/\(e1=9/\s1.f3=true\/e1=10/\s1.f3=false)/\(FitC s (szB (b - a)+(40 * r'.length+40)) 2->e1≠10)) \/
        (e1=0/\∃ e2 s2 r2,cV (cI k m r) (bA m 0 r') s1=some (e2,cI k m r2,s2)/\Cv k m r2 (kk+10) s2/\Kp s s2 /\
          ((e2=0/\s2.f3=false/\r2=r'/\∀ f x,get s2.f0 f=some x->f=vE\/f=qH a b\/sZ (bA m 0 r) f=false)\/(e2=9/\s2.f3=true/\r2=r)\/(e2=10/\s2.f3=false/\r2=r))/\(FitC s (szB (b - a)+(40 * r'.length+40)) 2->e2≠10))):=by
  have hf:=h.few hL;have hle:=hL.le;have hSeg:Seg k l:=hl.elim (λe=>by rw [e]; exact hL.seg hab hb) (λe=>by rw [e]; exact (hL.seg hab hb).back);have hRun:Run k a l:=hl.elim (λe=>by rw [e]; exact aB5 hL.run a b) (λe=>by rw [e]; exact (aB5 hL.run a b).back);have hlen:l.length=b - a:=hl.elim (λe=>(congrArg List.length e).trans (zJ hb)) (λe=>(congrArg List.length e).trans ((List.length_map ..).trans (zJ hb)));have hbytes:wZ l k.toNat=wZ (pc m a b) k.toNat:=hl.elim (λe=>by rw [e]) (λe=>by rw [e]; exact aRf _ _);have hent:(⟨qH a b,(a:Int),(b:Int),aF8 l,aBd l⟩:S46)=nB m a b:=by
    rcases hl with rfl | rfl
    · rfl
    · unfold aF8 aBd nB; rw [aG8]; rfl
  have hsz:=hSeg.size;rw [hlen] at hsz;have hgo:=aSw h.ri hle (show a<1000 by omega) (show b<1000 by omega) hnew;have gN:get s.f0 (qH a b)=none:=hcl.none hgo;have gT:get s.f0 rB=none:=hcl.none (aHp _);have hfn:sV (qH a b)=true:=aFg (by omega) (by omega);have hst:=aEx (aC7 a b);have hneq:∀ e∈bA m 0 r,e.f0≠qH a b:=λe he q=>by have:=aB8 hL h.ri (.inr ⟨e,he,rfl⟩);rw [q,hgo] at this;cases this
  obtain⟨e1,s1,w1,i1,k1,g1,o1,t1⟩:=aJx h.si (by omega) hon (cI k m r) hfn gN hSeg.bytes.1;have pr:∀ f,aRv m r f->f≠qH a b:=λf hf=>by
    rcases hf with rfl | ⟨e,he,rfl⟩
    · exact hst.2.symm
    · exact hneq e he
  have dom1:aYy s1.f0:=λf x hx=>by
    by_cases c:f=qH a b
    · exact .inr (.inr (by rw [c]; exact aC7 a b))
    · rw [g1 f c] at hx
      exact h.dom f x hx
  refine⟨e1,s1,?_,?_⟩
  · have:=aR3 hSeg hRun (b:=b) (by omega) (by omega) (bA m 0 r) s
    rw [show (⟨(),k,bA m 0 r⟩:S79)=cI k m r from rfl,w1] at this;rw [this];simp only [Option.bind_some];rw [hent]
  have C1:Cv k m r (kk+10) s1:=⟨i1.mono (by omega),h.ct.of λf hf=>g1 f (pr f hf),dom1,h.ri⟩;have fit1:FitC s (szB (b - a)+(40 * r'.length+40)) 2->e1≠10/\(e1=0->FitC s1 (40 * r'.length+40) 1):=λhf=>t1 _ 1 (hf.mono (by omega) (by omega));by_cases c1:e1=0
  rotate_left
  · refine .inl ⟨c1,C1,k1,?_,λhf=>(fit1 hf).1⟩
    rcases o1 with ⟨a,_⟩ | a | ⟨a,b⟩
    · exact absurd a c1
    · exact .inl a
    · exact .inr ⟨a,by rw [b]; exact hon⟩
  refine .inr ⟨c1,?_⟩;obtain⟨on1,v1⟩:s1.f3=false/\get s1.f0 (qH a b)=some (aMy (qH a b) (wZ l k.toNat)):=by
    rcases o1 with ⟨_,a,b⟩ | ⟨a,_⟩ | ⟨a,_⟩
    · exact⟨a,b⟩
    · rw [c1] at a; cases a
    · rw [c1] at a; cases a
  have hr'l:r'.length<=250:=by have h1:=RiseN.len hr';have h2:=RiseN.end_le hr';omega
  obtain⟨e2,s2,w2,i2,k2,g2,o2,t2⟩:=aK3 i1 (by omega) on1 ⟨hL.k1,hL.k8⟩ (old:=bA m 0 r) (aA4 hL hr') (by rw [fZ]; exact hr'l) ((g1 _ hst.1.symm).trans gT);rw [fZ] at t2;have dom2:aYy s2.f0:=λf x hx=>by
    by_cases c:f=vE
    · exact .inl c
    by_cases d:f=rB
    · exact .inr (.inl d)
    rw [g2 f d c] at hx;exact dom1 f x hx
  have seg2:∀ f,wT f=true->get s2.f0 f=get s1.f0 f:=λf hf=>g2 f (aEx hf).1 (aEx hf).2;have fit2:FitC s (szB (b - a)+(40 * r'.length+40)) 2->e2≠10:=λhf=>t2 ((fit1 hf).2 c1);rcases o2 with ⟨rfl,on2,v2,n2⟩ | ⟨o2,v2⟩
  · refine⟨0,s2,r',w2,⟨i2.mono (by omega),⟨λe=>absurd e hne,λ_=>v2,λe he=>?_⟩,dom2,hr'⟩,Kp.trans k1 k2,.inl ⟨rfl,on2,rfl,λf x hx=>?_⟩,fit2⟩
    · rw [seg2 _ (aCy hL hr' he).1]
      rcases hsub e he with rfl | he'
      · rw [show (nB m a b).f0=qH a b from rfl,v1,hbytes]
        rfl
      · rw [g1 _ (hneq e he')]
        exact h.ct.segs e he'
    · by_cases c:f=vE
      · exact .inl c
      by_cases d:f=rB
      · rw [d,n2] at hx; cases hx
      by_cases e:f=qH a b
      · exact .inr (.inl e)
      rw [g2 f d c,g1 f e] at hx;exact .inr (.inr (hcl f x hx))
  · have hz:e2≠0:=by rcases o2 with ⟨a,_⟩ | ⟨a,_⟩ <;> rw [a] <;> decide
    rw [if_neg hz] at w2;refine⟨e2,s2,r,w2,⟨i2.mono (by omega),C1.ct.of λf hf=>?_,dom2,h.ri⟩,Kp.trans k1 k2,.inr ?_,fit2⟩
    · rcases hf with rfl | ⟨e,he,rfl⟩
      · exact v2
      · exact seg2 _ (aCy hL h.ri he).1
    · rcases o2 with ⟨a,b⟩ | ⟨a,b⟩
      · exact .inl ⟨a,b,rfl⟩
      · exact .inr ⟨a,b,rfl⟩
theorem aOu (h:r.length<=250):eV (cI k m r)=some ((eZ 0 r:Int),cI k m r):=by rw [aWn _ (by show (bA m 0 r).length<_; rw [fZ]; omega)];rw [show aBh (cI k m r).f2=aBh (bA m 0 r) from rfl,aQw]
theorem aFu (h:r.length<=250):eI (cI k m r)=some (bA m 0 r,cI k m r):=aOt _ (by show (bA m 0 r).length<=_; rw [fZ]; omega)
theorem aN1 {x y:Nat} (hr:RiseN 0 r m.length) (he:nB m x y∈bA m 0 r):y<=eZ 0 r:=by
  have key:∀ (r:List Nat) (a:Nat),RiseN a r (eZ a r)->∀ e∈bA m a r,e.f2<=(eZ a r:Int):=by intro r a h e he;obtain⟨x,y,_,_,h3,rfl⟩:=aAe h e he;show (y:Int)<=_;omega
  have h2:RiseN 0 r (eZ 0 r):=by have:=(RiseN.app (r:=r) (s:=[]) (a:=0) (n:=m.length)).1 (by rw [List.append_nil]; exact hr);exact this.1
  have:=key r 0 h2 _ he;have h3:(nB m x y).f2=(y:Int):=rfl;omega
theorem aQ1 {b:Nat} (h:Cv k m r kk s) (hL:Lg k m) (hk:kk+10000<4611686018427387904) (hon:s.f3=false) (hcl:CleanC (bA m 0 r) s.f0) (hr:r.length<250) (hab:eZ 0 r<b) (hb:b<=m.length) :
    ∃ e s' r',bU (cI k m r) (pc m (eZ 0 r) b) s=some (e,cI k m r',s')/\Cv k m r' (kk+1000) s'/\Kp s s' /\
      ((e=0/\s'.f3=false/\r'=r++[b]/\CleanC (bA m 0 r') s'.f0)\/(e=9/\s'.f3=true/\r'=r)\/(e=10/\s'.f3=false/\r'=r/\CleanC (bA m 0 r) s'.f0)) /\
      (FitC s (szB (b - eZ 0 r)+(40 * (r.length+1)+40)) 2->e≠10):=by
  have hf:=h.few hL;have hle:=hL.le;have hps:(pc m (eZ 0 r) b).length=b - eZ 0 r:=zJ hb;have hx:=List.getElem?_eq_getElem (l:=pc m (eZ 0 r) b) (i:=0) (by omega);have hx0:=(aB5 hL.run (eZ 0 r) b).of 0 _ hx;have hnew:nB m (eZ 0 r) b∉bA m 0 r:=λhe=>by have:=aN1 h.ri he;omega
  have hri:RiseN 0 (r++[b]) m.length:=RiseN.app.2 ⟨((RiseN.app (s:=[])).1 (by rw [List.append_nil]; exact h.ri)).1,hab,hb⟩;have hsn:bA m 0 (r++[b])=bA m 0 r++[nB m (eZ 0 r) b]:=by rw [aC4]; rfl
  obtain⟨e1,s1,w1,o1⟩:=aPq (r':=r++[b]) h hL (by omega) hon hcl hab hb (.inl rfl) hri (by simp) hnew (λe he=>by
    rw [hsn] at he;rcases List.mem_append.1 he with he | he
    · exact .inr he
    · exact .inl (List.mem_singleton.1 he))
  rw [List.length_append,List.length_singleton] at o1;have hstart:bU (cI k m r) (pc m (eZ 0 r) b) s=eE (pc m (eZ 0 r) b) s k (bA m 0 r) false:=by unfold bU;rw [if_pos (by simp only [decide_eq_true_eq]; omega),show at_ (pc m (eZ 0 r) b) 0=_ from hx];simp only [Option.bind_some];rw [aOu (by omega)];simp only [Option.bind_some];rw [show ((pc m (eZ 0 r) b)[0].f0 != (eZ 0 r:Int))=false by simp only [bne_eq_false_iff_eq]; omega];rfl
  rw [hstart];unfold eE;rw [if_neg (by simp),if_neg (by rw [fZ]; simp only [decide_eq_true_eq]; omega),show (⟨(),k,bA m 0 r⟩:S79)=cI k m r from rfl,w1];simp only [Option.bind_some];rcases o1 with ⟨c1,C1,k1,o1,t1⟩ | ⟨c1,e2,s2,r2,w2,C2,k2,o2,t2⟩
  · rw [if_neg (by simpa using c1)]
    unfold eG;rw [show (⟨(),(cI k m r).f1,(cI k m r).f2⟩:S79)=cI k m r from rfl,show (⟨s1.f0,s1.f1,s1.f2,s1.f3,s1.f4⟩:S77)=s1 from rfl];rcases o1 with ⟨rfl,off⟩ | ⟨rfl,on1⟩
    · rw [wR (.inr rfl)]
      exact⟨9,s1,r,rfl,C1.mono (by omega),k1,.inr (.inl ⟨rfl,off,rfl⟩),λ_=>by decide⟩
    · obtain⟨e',s',w,i,kp,o⟩:=aAm C1 hL (by omega) on1 (e:=10) (by decide) (by decide)
      rw [w];refine⟨e',s',r,rfl,i.mono (by omega),Kp.trans k1 kp,?_,λhf=>absurd rfl (t1 hf)⟩;rcases o with ⟨a,b,c⟩ | ⟨a,b⟩
      · exact .inr (.inr ⟨a,b,rfl,c⟩)
      · exact .inr (.inl ⟨a,b,rfl⟩)
  · rw [if_pos (by simpa using c1)]
    have hcl1:bH (cI k m r).f2=some (bA m 0 r):=by
      have:=aFu (k:=k) (m:=m) (r:=r) (by omega);unfold eI at this;cases hq:bH (cI k m r).f2 with
      | none=>rw [hq] at this; cases this
      | some z=>rw [hq] at this; simp only [Option.bind_some,Option.some.injEq,Prod.mk.injEq] at this; rw [this.1]
    rw [hcl1];simp only [Option.bind_some];rw [bM (by rw [fZ]; simp only [List.length_singleton]; omega), ← hsn,w2];simp only [Option.bind_some];unfold eG;rw [show (⟨(),(cI k m r2).f1,(cI k m r2).f2⟩:S79)=cI k m r2 from rfl,show (⟨s2.f0,s2.f1,s2.f2,s2.f3,s2.f4⟩:S77)=s2 from rfl];rcases o2 with ⟨rfl,on2,rfl,cl2⟩ | ⟨rfl,off,rfl⟩ | ⟨rfl,on2,rfl⟩
    · rw [wR (.inl rfl)]
      refine⟨0,s2,r++[b],rfl,C2.mono (by omega),k2,.inl ⟨rfl,on2,rfl,λf x hx=>?_⟩,λ_=>by decide⟩;rcases cl2 f x hx with rfl | rfl | hg
      · exact aJc _
      · exact aB8 hL hri (.inr ⟨nB m (eZ 0 r) b,by rw [hsn]; simp,rfl⟩)
      · rw [hsn]
        unfold sZ at hg ⊢;rw [List.any_append];cases hq:(f==rB) with
        | true=>rw [hq] at hg; cases hg
        | false =>
          rw [hq] at hg;cases hs:wT f with
          | false=>rfl
          | true =>
            rw [hs] at hg;simp only [Bool.false_or,Bool.true_and,Bool.not_eq_false'] at hg ⊢;rw [hg,Bool.true_or]
    · rw [wR (.inr rfl)]
      exact⟨9,s2,r2,rfl,C2.mono (by omega),k2,.inr (.inl ⟨rfl,off,rfl⟩),λ_=>by decide⟩
    · obtain⟨e',s',w,i,kp,o⟩:=aAm C2 hL (by omega) on2 (e:=10) (by decide) (by decide)
      rw [w];refine⟨e',s',r2,rfl,i.mono (by omega),Kp.trans k2 kp,?_,λhf=>absurd rfl (t2 hf)⟩;rcases o with ⟨a,b,c⟩ | ⟨a,b⟩
      · exact .inr (.inr ⟨a,b,rfl,c⟩)
      · exact .inr (.inl ⟨a,b,rfl⟩)
theorem aQ5 (h:Cv k m r kk s) (hL:Lg k m) (hk:kk+5000<4611686018427387904) (hon:s.f3=false) (hr:r.length<250) :
    ∃ e s',bU (cI k m r) [] s=some (e,cI k m r,s')/\Cv k m r (kk+1000) s'/\Kp s s'/\((e=1/\s'.f3=false/\CleanC (bA m 0 r) s'.f0)\/(e=9/\s'.f3=true)):=by
  obtain⟨e',s',w,i,kp,o⟩:=aAm h hL hk hon (e:=1) (by decide) (by decide);refine⟨e',s',?_,i.mono (by omega),kp,o⟩;unfold bU;rw [if_neg (by simp)];unfold eE;rw [if_neg (by simp),if_neg (by show ¬ decide ((250:Int)<=((bA m 0 r).length:Int))=true; rw [fZ]; simp only [decide_eq_true_eq]; omega)];unfold dI;rw [aMj (λe he=>by cases he) _ (by simp),show WL (⟨(),(cI k m r).f1,(cI k m r).f2⟩:S79).f1 []=([],1) from rfl];simp only [Option.bind_some];rw [if_pos (by decide)];simp only [Option.bind_some];rw [if_neg (by decide)];unfold eG;rw [show (⟨(),(⟨(),(cI k m r).f1,(cI k m r).f2⟩:S79).f1,(⟨(),(cI k m r).f1,(cI k m r).f2⟩:S79).f2⟩:S79)=cI k m r from rfl,show (⟨s.f0,s.f1,s.f2,s.f3,s.f4⟩:S77)=s from rfl,w];rfl
def aQb (f:S26) (m:List S61):Nat->List Nat->Nat
  | _,[]=>0
  | a,b::r=>(if vJ f (ckL (pc m a b) 0)=true then (fG (pcs 64 (pc m a b)) 0).countP (vJ f) else 0)+aQb f m b r
theorem aQ2 {f:S26} {es:List S46} {i a b q:Nat} {acc:List S61} (hi:i<es.length) (hes:es.length<=250) (hL:Lg k m) (hon:s.f3=false) (hs:SI kk s) (hx:es[i]?=some (nB m a b)) (hg:get s.f0 (qH a b)=some (aJz k m (nB m a b))) (h1:a<b) (hb:b<=m.length) (ha:acc.length<=a) (hq:q<=16 * i) :
    cU ⟨(),k,es⟩ f s acc (q:Int) (i:Int)=some (.inl (acc++((pc m a b).filter (kO f)).map dN,((q+(if vJ f (ckL (pc m a b) 0)=true then (fG (pcs 64 (pc m a b)) 0).countP (vJ f) else 0):Nat):Int),((i+1:Nat):Int))):=by
  have hm:=hL.le;have hSeg:=hL.seg h1 hb;have hRun:=aB5 hL.run a b;have hlen:=zJ (m:=m) (a:=a) (b:=b) hb;obtain⟨c2,c3⟩:=aLa hRun (by omega) 0;have hmay:vJ f ⟨0,0,(a:Int),(b:Int) - 1,aF8 (pc m a b),aBd (pc m a b),[],[]⟩=vJ f (ckL (pc m a b) 0):=by unfold vJ aF8 aBd;rw [c2,c3,hlen];simp only;rw [show (a:Int)+((b - a:Nat):Int) - 1=(b:Int) - 1 by omega]
  have hfl:=List.length_filter_le (kO f) (pc m a b);have hcnt:=List.countP_le_length (p:=vJ f) (l:=fG (pcs 64 (pc m a b)) 0);have hck:=hSeg.cks.2.1;have hb2:∀ (l:List S61) (n:Int),fP (i:Int) l n=some (.inl (l,n,((i+1:Nat):Int))):=λl n=>by unfold fP;rw [lt_,w64 (by omega) (by omega)];rfl
  unfold cU;rw [if_pos (by simp only [decide_eq_true_eq]; omega),bG rfl hx];simp only [Option.bind_some];rw [show (nB m a b).f1=(a:Int) from rfl,show (nB m a b).f2=(b:Int) from rfl,show (nB m a b).f3=aF8 (pc m a b) from rfl,show (nB m a b).f4=aBd (pc m a b) from rfl,show (nB m a b).f0=qH a b from rfl,lt_,nO (n:=(b:Int) - 1) (by omega) (by omega),aRj,hmay];simp only [Option.bind_some];by_cases c:vJ f (ckL (pc m a b) 0)=true
  · have hsl:=aMu a b
    have hrd:aAh s (qH a b)=(wZ (pc m a b) k.toNat,0):=by unfold aAh;rw [if_pos (zD (aFg (by omega) (by omega)) hon),hg];show ((wZ (pc m ((a:Int)).toNat ((b:Int)).toNat) k.toNat),(0:Int))=_;rw [Int.toNat_natCast,Int.toNat_natCast]
    rw [if_pos c,if_neg (by simp [c]),hs.Read (by omega),hrd];simp only [Option.bind_some];rw [if_neg (by simp),aOx hSeg];simp only [Option.bind_some];rw [if_neg (by simp),aMm hSeg hRun (by omega)];simp only [Option.bind_some];rw [if_neg (by simp),if_neg (by simp only [bne_iff_ne,ne_eq,Decidable.not_not]; omega),show mJ (some (yB (pc m a b) k))=some k from rfl];simp only [Option.bind_some];unfold fR;rw [if_neg (by simp),aWa hSeg];simp only [Option.bind_some];rw [if_neg (by simp),bM (by rw [List.length_map]; omega),lt_,w64 (by omega) (by omega),hb2];rfl
  · rw [if_neg c,if_pos (by simp [c]),hb2,aMd (by simpa using c)]
    simp
theorem aJk (f:S26) {es:List S46} (hes:es.length<=250) (hL:Lg k m) (hon:s.f3=false) (hs:SI kk s) (hseg:∀ e∈es,get s.f0 e.f0=some (aJz k m e)):∀ (y:List Nat) (i a q:Nat) (acc:List S61),es.drop i=bA m a y->RiseN a y m.length->acc.length<=a->q<=16 * i->i+y.length=es.length ->
    loop (λt:List S61×Int×Int=>cU ⟨(),k,es⟩ f s t.1 t.2.1 t.2.2) (acc,(q:Int),(i:Int))=some (.inl (acc++((pc m a (eZ a y)).filter (kO f)).map dN,((q+aQb f m a y:Nat):Int)))
  | [],i,a,q,acc,hd,hr,ha,hq,hi=>by
    refine bF ?_;show cU ⟨(),k,es⟩ f s acc (q:Int) (i:Int)=_;unfold cU;rw [if_neg (by simp only [decide_eq_true_eq]; simp only [List.length_nil] at hi; omega)];have:pc m a (eZ a [])=[]:=by unfold pc; rw [show eZ a [] - a=0 by show a - a=0; omega,List.take_zero]
    rw [this];simp [aQb]
  | b::y,i,a,q,acc,hd,hr,ha,hq,hi=>by
    rw [List.length_cons] at hi;have hm:=hL.le;have h1:=hr.1;have h2:=RiseN.end_le hr.2;have hx:es[i]?=some (nB m a b):=by have:=congrArg (λl=>l[0]?) hd;simpa [bA] using this
    have hd':es.drop (i+1)=bA m b y:=by have:=congrArg (List.drop 1) hd;rw [List.drop_drop] at this;simpa [bA] using this
    have hck:=(hL.seg h1 (show b<=m.length by omega)).cks.2.1;have hcnt:=List.countP_le_length (p:=vJ f) (l:=fG (pcs 64 (pc m a b)) 0);have hfl:=List.length_filter_le (kO f) (pc m a b);have hlen:=zJ (m:=m) (a:=a) (b:=b) (by omega);rw [cH (b:=λt:List S61×Int×Int=>cU ⟨(),k,es⟩ f s t.1 t.2.1 t.2.2) (aQ2 (by omega) hes hL hon hs hx (hseg _ (List.mem_of_getElem? hx)) h1 (by omega) ha hq)];rw [aJk f hes hL hon hs hseg y (i+1) b _ _ hd' hr.2 (by rw [List.length_append,List.length_map]; omega) (by split <;> omega) (by omega)];rw [show eZ a (b::y)=eZ b y from rfl, ← aOo (m:=m) (a:=a) (b:=b) (c:=eZ b y) (by omega) h2.1,List.filter_append,List.map_append,List.append_assoc];rw [show aQb f m a (b::y)=(if vJ f (ckL (pc m a b) 0)=true then (fG (pcs 64 (pc m a b)) 0).countP (vJ f) else 0)+aQb f m b y from rfl,Nat.add_assoc]
theorem aRh (f:S26) (h:Cv k m r kk s) (hL:Lg k m) (hon:s.f3=false):kQ (cI k m r) f s=some (((m.take (eZ 0 r)).filter (kO f)).map dN,(aQb f m 0 r:Int),0,cI k m r,s):=by have hf:=h.few hL;have:=aJk f (es:=bA m 0 r) (by rw [fZ]; omega) hL hon h.si h.ct.segs r 0 0 0 [] (by rw [List.drop_zero]) h.ri (Nat.le_refl _) (Nat.le_refl _) (by rw [fZ]; omega);rw [List.nil_append,aKy,Nat.zero_add] at this;unfold kQ cI;rw [show (([]:List S61),(0:Int),(0:Int))=([],((0:Nat):Int),((0:Nat):Int)) from rfl,this];rfl
end
section
variable {k:Int} {m:List S61} {r:List Nat} {kk:Nat} {s:S77}
theorem aOg (hL:Lg k m) {a b:Nat}:∀ e∈pc m a b,(a:Int)<=e.f0/\e.f0<(b:Int) /\ -1099511627776<=e.f2/\e.f2<=1099511627776:=λe he=>by
  obtain⟨i,hi⟩:=List.getElem?_of_mem he;have h1:=(aB5 hL.run a b).of i e hi;have h2:=(List.getElem?_eq_some_iff.1 hi).1;have h3:=xF ((aB5 hL.run a b).fm e he);have h4:(pc m a b).length<=b - a:=by unfold pc; simp; omega
  omega
theorem aVw (hL:Lg k m) {a d n:Nat} (h1:a<=d) (h2:d<=n):(m.take n).filter (kO ⟨(a:Int),(d:Int),-1099511627776,1099511627776⟩)=pc m a d:=by
  rw [← aKy, ← aOo (m:=m) (a:=0) (b:=a) (c:=n) (by omega) (by omega), ← aOo (m:=m) (a:=a) (b:=d) (c:=n) h1 h2,List.filter_append,List.filter_append];rw [aJo (l:=pc m 0 a) (λe he=>by
    have:=aOg hL e he;unfold kO;simp only [Bool.and_eq_false_iff,decide_eq_false_iff_not];omega)]
  rw [aJo (l:=pc m d n) (λe he=>by
    have:=aOg hL e he;unfold kO;simp only [Bool.and_eq_false_iff,decide_eq_false_iff_not];omega)]
  rw [List.nil_append,List.append_nil,List.filter_eq_self];intro e he;have:=aOg hL e he;unfold kO;simp only [Bool.and_eq_true,decide_eq_true_eq];omega
theorem aM3 (hr:r.length<=250) {i:Int} (hi:i<0\/(r.length:Int) - 1<=i) (s:S77):bO (cI k m r) i s=some (1,cI k m r,s):=by
  unfold bO eC;by_cases c:i<0
  · rw [if_pos (by simpa using c),if_pos rfl]
  · rw [if_neg (by simpa using c),lt_,show ((cI k m r).f2.length:Int)=(r.length:Int) by show ((bA m 0 r).length:Int)=_; rw [fZ],w64 (by omega) (by omega),if_pos (by simp only [decide_eq_true_eq]; omega)]
theorem aLd {x y:List Nat} {b d:Nat} (h:Cv k m (x++b::d::y) kk s) (hL:Lg k m) (hk:kk+20000<4611686018427387904) (hon:s.f3=false) (hcl:CleanC (bA m 0 (x++b::d::y)) s.f0) :
    ∃ e s' r',bO (cI k m (x++b::d::y)) (x.length:Int) s=some (e,cI k m r',s')/\Cv k m r' (kk+2000) s'/\Kp s s' /\
      ((e=0/\s'.f3=false/\r'=x++d::y/\CleanC (bA m 0 r') s'.f0)\/(e=9/\s'.f3=true/\(r'=x++b::d::y\/r'=x++d::y))\/(e=10/\s'.f3=false/\r'=x++b::d::y/\CleanC (bA m 0 r') s'.f0)) /\
      (FitC s (szB m.length+(40 * (x++b::d::y).length+40)) 2->e≠10):=by
  obtain⟨r,hr⟩:∃ r,r=x++b::d::y:=⟨_,rfl⟩;obtain⟨r',hr'⟩:∃ r',r'=x++d::y:=⟨_,rfl⟩;obtain⟨a,ha⟩:∃ a,a=eZ 0 x:=⟨_,rfl⟩;have hlen:r.length=x.length+(y.length+2):=by rw [hr]; simp
  have hlen':r'.length=x.length+(y.length+1):=by rw [hr']; simp
  have hf:=h.few hL;have hle:=hL.le;have hri:=h.ri;obtain⟨rx,rb,rd,ry⟩:=RiseN.app.1 hri;rw [← ha] at rx rb;have hri':RiseN 0 r' m.length:=by rw [hr']; exact RiseN.app.2 ⟨by rw [← ha]; exact rx,by rw [← ha]; omega,ry⟩
  have hes:bA m 0 r=bA m 0 x++nB m a b::nB m b d::bA m d y:=by rw [hr,aC4, ← ha]; rfl
  have hes':bA m 0 r'=bA m 0 x++nB m a d::bA m d y:=by rw [hr',aC4, ← ha]; rfl
  have hend:eZ 0 r=eZ d y:=by rw [hr,aM5]; rfl
  have hde:=RiseN.end_le ry;rw [← hr] at h hf hcl hri ⊢;rw [← hr'];have hnew:nB m a d∉bA m 0 r:=λhe=>by
    rw [hes] at he;rcases List.mem_append.1 he with he | he
    · obtain⟨u,v,h1,h2,h3,h4⟩:=aAe rx _ he
      have h5:=congrArg S46.f2 h4;have h6:(d:Int)=(v:Int):=h5;omega
    · rcases List.mem_cons.1 he with he | he
      · have h6:(d:Int)=(b:Int):=congrArg S46.f2 he
        omega
      · rcases List.mem_cons.1 he with he | he
        · have h6:(a:Int)=(b:Int):=congrArg S46.f1 he
          omega
        · obtain⟨u,v,h1,h2,h3,h4⟩:=aAe ry _ he
          have h6:(a:Int)=(u:Int):=congrArg S46.f1 h4;omega
  have hsub:∀ e∈bA m 0 r',e=nB m a d\/e∈bA m 0 r:=λe he=>by
    rw [hes'] at he;rw [hes];rcases List.mem_append.1 he with he | he
    · exact .inr (List.mem_append.2 (.inl he))
    · rcases List.mem_cons.1 he with he | he
      · exact .inl he
      · exact .inr (List.mem_append.2 (.inr (List.mem_cons_of_mem _ (List.mem_cons_of_mem _ he))))
  have hlx:(bA m 0 x).length=x.length:=fZ ..;have hly:(bA m d y).length=y.length:=fZ ..;have hle2:(bA m 0 r).length=r.length:=fZ ..;have at1:(bA m 0 r)[x.length]?=some (nB m a b):=by rw [hes,List.getElem?_append_right (by omega),hlx,Nat.sub_self]; rfl
  have at2:(bA m 0 r)[x.length+1]?=some (nB m b d):=by rw [hes,List.getElem?_append_right (by omega),hlx,show x.length+1 - x.length=1 by omega]; rfl
  have hdm:d<=m.length:=by omega
  obtain⟨e1,s1,w1,o1⟩:=aPq (r':=r') (a:=a) (b:=d) (l:=(pc m a d).map dN) h hL (by omega) hon hcl (by omega) hdm (.inr rfl) hri' (by rw [hr']; simp) hnew hsub;have hfit:FitC s (szB m.length+(40 * r.length+40)) 2->FitC s (szB (d - a)+(40 * r'.length+40)) 2:=λhq=>hq.mono (by have:=aD8 (a:=d - a) (b:=m.length) (by omega); omega) (Nat.le_refl _);have hstart:bO (cI k m r) (x.length:Int) s=(dI (cI k m r) ((pc m a d).map dN) s).bind λz=>(if (z.2.1==0)=true then ((kX z.2.2.1.f2 0 (x.length:Int)).bind λG=>(ltt (IntKind.i64.wrap ((x.length:Int)+2)) λI=>((kX z.2.2.1.f2 I (z.2.2.1.f2.length:Int)).bind λJ=>((aEu G [z.1] J).bind λN=>((cV z.2.2.1 N z.2.2.2).bind λC=>(cN C.2.2.f0 C.2.2.f1 C.2.2.f2 C.2.2.f3 C.2.2.f4 C.2.1.f1 C.2.1.f2 C.1)))))) else (cN z.2.2.2.f0 z.2.2.2.f1 z.2.2.2.f2 z.2.2.2.f3 z.2.2.2.f4 z.2.2.1.f1 z.2.2.1.f2 z.2.1)):=by have hsc:=aRh (⟨(a:Int),(d:Int),-1099511627776,1099511627776⟩:S26) h hL hon;rw [aVw hL (by omega) (by omega)] at hsc;unfold bO;rw [if_neg (by simp only [decide_eq_true_eq]; omega),lt_,show ((cI k m r).f2.length:Int)=(r.length:Int) by show ((bA m 0 r).length:Int)=_; rw [hle2],w64 (by omega) (by omega),show decide ((r.length:Int) - 1<=(x.length:Int))=false by simp only [decide_eq_false_iff_not]; omega];unfold eC;rw [if_neg (by simp),show at_ (cI k m r).f2 (x.length:Int)=some (nB m a b) from bG rfl at1,Option.bind_some,lt_,w64 (by omega) (by omega),show at_ (cI k m r).f2 ((x.length:Int)+1)=some (nB m b d) from bG (n:=x.length+1) (by omega) at2,Option.bind_some];unfold iX;rw [show (nB m b d).f2=(d:Int) from rfl,show (nB m a b).f1=(a:Int) from rfl,lt_,nO (by omega) (by omega),if_neg (by simp only [decide_eq_true_eq]; omega),hsc,Option.bind_some,if_neg (by simp)]
  rw [hstart,w1,Option.bind_some];rcases o1 with ⟨c1,C1,k1,o1,t1⟩ | ⟨c1,e2,s2,r2,w2,C2,k2,o2,t2⟩
  · rw [if_neg (by simpa using c1)]
    unfold cN;rw [if_neg (by simpa using c1)];unfold cM;rw [show (⟨(),(cI k m r).f1,(cI k m r).f2⟩:S79)=cI k m r from rfl,show (⟨s1.f0,s1.f1,s1.f2,s1.f3,s1.f4⟩:S77)=s1 from rfl];rcases o1 with ⟨rfl,off⟩ | ⟨rfl,on1⟩
    · rw [wR (.inr rfl)]
      exact⟨9,s1,r,rfl,C1.mono (by omega),k1,.inr (.inl ⟨rfl,off,.inl rfl⟩),λ_=>by decide⟩
    · obtain⟨e',s',w,i,kp,o⟩:=aAm C1 hL (by omega) on1 (e:=10) (by decide) (by decide)
      rw [w];refine⟨e',s',r,rfl,i.mono (by omega),Kp.trans k1 kp,?_,λhq=>absurd rfl (t1 (hfit hq))⟩;rcases o with ⟨p,q,c⟩ | ⟨p,q⟩
      · exact .inr (.inr ⟨p,q,rfl,c⟩)
      · exact .inr (.inl ⟨p,q,.inl rfl⟩)
  · have hc1:kX (cI k m r).f2 0 (x.length:Int)=some (bA m 0 x):=by have:=sE (xs:=bA m 0 r) (l:=0) (u:=x.length) (by omega) (by omega);rw [List.drop_zero,hes,List.take_left' hlx, ← hes] at this;exact this
    have hc2:kX (cI k m r).f2 ((x.length:Int)+2) ((cI k m r).f2.length:Int)=some (bA m d y):=by have:=sE (xs:=bA m 0 r) (l:=x.length+2) (u:=(bA m 0 r).length) (by omega) (by omega);rw [List.take_length] at this;rw [show ((x.length:Int)+2)=((x.length+2:Nat):Int) by omega];refine this.trans ?_;rw [hes, ← List.drop_drop,List.drop_left' hlx];rfl
    have hc3:aEu (bA m 0 x) [nB m a d] (bA m d y)=some (bA m 0 r'):=by unfold aEu;rw [bM ⟨by simp,by rw [hlx,hly]; simp only [List.length_singleton]; omega⟩,hes',List.append_assoc];rfl
    rw [if_pos (by simpa using c1),hc1,Option.bind_some,lt_,w64 (by omega) (by omega),hc2,Option.bind_some,hc3,Option.bind_some,w2,Option.bind_some];have e4:∀ e:Int,(e=0\/e=9)->∀ (c:S79) (t:S77),cM t.f0 t.f1 t.f2 t.f3 t.f4 c.f1 c.f2 e=some (e,c,t):=λe he c t=>by unfold cM;rw [show (⟨(),c.f1,c.f2⟩:S79)=c from rfl,show (⟨t.f0,t.f1,t.f2,t.f3,t.f4⟩:S77)=t from rfl,wR he];rfl
    unfold cN;rcases o2 with ⟨rfl,on2,rfl,cl2⟩ | ⟨rfl,off,rfl⟩ | ⟨rfl,on2,rfl⟩
    · obtain⟨e3,s3,w3,C3,k3,_,o3⟩:=aHq C2 hL (by omega) on2
      rw [if_pos (by simp),show (⟨(),(cI k m r2).f1,(cI k m r2).f2⟩:S79)=cI k m r2 from rfl,show (⟨s2.f0,s2.f1,s2.f2,s2.f3,s2.f4⟩:S77)=s2 from rfl,w3,Option.bind_some];rcases o3 with ⟨rfl,on3,cl3⟩ | ⟨rfl,off3⟩
      · rw [e4 0 (.inl rfl)]
        exact⟨0,s3,r2,rfl,C3.mono (by omega),Kp.trans k2 k3,.inl ⟨rfl,on3,rfl,cl3⟩,λ_=>by decide⟩
      · rw [e4 9 (.inr rfl)]
        exact⟨9,s3,r2,rfl,C3.mono (by omega),Kp.trans k2 k3,.inr (.inl ⟨rfl,off3,.inr rfl⟩),λ_=>by decide⟩
    · rw [if_neg (by simp),e4 9 (.inr rfl)]
      exact⟨9,s2,r2,rfl,C2.mono (by omega),k2,.inr (.inl ⟨rfl,off,.inl rfl⟩),λ_=>by decide⟩
    · rw [if_neg (by simp)]
      unfold cM;rw [show (⟨(),(cI k m r2).f1,(cI k m r2).f2⟩:S79)=cI k m r2 from rfl,show (⟨s2.f0,s2.f1,s2.f2,s2.f3,s2.f4⟩:S77)=s2 from rfl];obtain⟨e',s',w,i,kp,o⟩:=aAm C2 hL (by omega) on2 (e:=10) (by decide) (by decide);rw [w];refine⟨e',s',r2,rfl,i.mono (by omega),Kp.trans k2 kp,?_,λhq=>absurd rfl (t2 (hfit hq))⟩;rcases o with ⟨p,q,c⟩ | ⟨p,q⟩
      · exact .inr (.inr ⟨p,q,rfl,c⟩)
      · exact .inr (.inl ⟨p,q,.inl rfl⟩)
theorem aS0 (h:Cv k m r kk s) (hL:Lg k m) (hk:kk+5000<4611686018427387904) (hon:s.f3=false) :
    ∃ e s',nI s k=some (if e=0 then some (cI k m r) else none,e,s')/\Cv k m r (kk+500) s'/\Kp s s'/\(∀ f x,get s'.f0 f=some x->get s.f0 f=some x)/\((e=0/\s'.f3=false/\CleanC (bA m 0 r) s'.f0)\/(e=9/\s'.f3=true)):=by
  have hf:=h.few hL;obtain⟨k1,k8⟩:1<=k/\k<=8:=⟨hL.k1,hL.k8⟩;obtain⟨e,s',w,i,kp,dd,o⟩:=aHq h hL hk hon;refine⟨e,s',?_,i,kp,dd,o⟩;have hb1:nC s k (bA m 0 r)=some (if e=0 then some (cI k m r) else none,e,s'):=by
    unfold nC;rw [show (⟨(),k,bA m 0 r⟩:S79)=cI k m r from rfl,w,Option.bind_some];by_cases c:e=0
    · rw [if_neg (by simp [c]),if_pos c,c]
    · rw [if_pos (by simpa using c),if_neg c]
  unfold nI;rw [if_neg (by simp only [decide_eq_true_eq]; omega),show decide (8<k)=false by simp only [decide_eq_false_iff_not]; omega];unfold qA;rw [if_neg (by simp),show ([99,97,116]:List UInt8)=vE from rfl,h.si.Read (by decide),Option.bind_some];by_cases c:r=[]
  · have hrd:aAh s vE=([],5):=by unfold aAh;rw [if_pos (zD aHa hon),h.ct.cat0 c]
    rw [hrd];subst c;rw [if_pos (by rfl)];exact hb1
  · have hrd:aAh s vE=(jQ 99 (aEf k (bA m 0 r)),0):=by unfold aAh;rw [if_pos (zD aHa hon),h.ct.cat c];rfl
    rw [hrd,if_neg (by simp),if_pos (by simp),aVv ⟨k1,k8⟩ (aA4 hL h.ri) (by rw [fZ]; omega),Option.bind_some,if_neg (by simp)];exact hb1
end
def zL (k:Int) (m:List S61) (r:List Nat):List S98:=(if r=[] then [] else [aMy vE (aWk k m r)])++(bA m 0 r).map (aJz k m)
theorem aHy {m:List S61}:∀ {r:List Nat} {a n:Nat},RiseN a r n->n<=250->((bA m a r).map λe=>e.f0).Nodup
  | [],_,_,_,_=>List.nodup_nil
  | b::r,a,n,h,hn=>by have h1:=h.1;have h2:=RiseN.end_le h.2;refine List.nodup_cons.2 ⟨λhm=>?_,aHy h.2 hn⟩;obtain⟨e,he,q⟩:=List.mem_map.1 hm;obtain⟨x,y,g1,g2,g3,rfl⟩:=aAe h.2 e he;have:=(aMo (a:=x) (b:=y) (c:=a) (d:=b) (by omega) (by omega) (by omega) (by omega) q).1;omega
theorem zQ {α β:Type} (f:α->β):∀ {l:List α},(l.map f).Nodup->l.Nodup
  | [],_=>List.nodup_nil
  | x::l,h=>by obtain⟨h1,h2⟩:=List.nodup_cons.1 h;exact List.nodup_cons.2 ⟨λhm=>h1 (List.mem_map.2 ⟨x,hm,rfl⟩),zQ f h2⟩
section
variable {k:Int} {m:List S61} {r:List Nat} {kk:Nat} {s:S77}
theorem aKp (hL:Lg k m) (hr:RiseN 0 r m.length):(zL k m r).Nodup:=by
  refine zQ S98.f0 ?_;have h1:=aHy (m:=m) hr hL.le;have h2:((bA m 0 r).map (aJz k m)).map S98.f0=(bA m 0 r).map λe=>e.f0:=by rw [List.map_map]; rfl
  unfold zL;rw [List.map_append,h2];split
  · exact h1
  · refine List.nodup_cons.2 ⟨λhm=>?_,h1⟩
    obtain⟨e,he,q⟩:=List.mem_map.1 hm;exact (aEx (aCy hL hr he).1).2 q
theorem Cv.mem (h:Cv k m r kk s) (hL:Lg k m) (hcl:CleanC (bA m 0 r) s.f0) (x:S98):x∈s.f0↔x∈zL k m r:=by
  constructor
  · intro hx
    have hg:=aGj h.si.rise hx;have hgo:=hcl _ _ hg;unfold zL;rw [List.mem_append];rcases h.dom _ _ hg with e | e | e
    · by_cases c:r=[]
      · rw [e,h.ct.cat0 c] at hg; cases hg
      · rw [e,h.ct.cat c] at hg
        cases hg;rw [if_neg c];exact .inl List.mem_cons_self
    · rw [e,aHp] at hgo; cases hgo
    · unfold sZ at hgo
      rw [e] at hgo;simp only [Bool.or_eq_false_iff,Bool.true_and,Bool.not_eq_false'] at hgo;obtain⟨en,he,q⟩:=List.any_eq_true.1 hgo.2;have q':en.f0=x.f0:=by simpa using q
      rw [← q',h.ct.segs en he] at hg;cases hg;exact .inr (List.mem_map.2 ⟨en,he,rfl⟩)
  · intro hx
    unfold zL at hx;rw [List.mem_append] at hx;rcases hx with hx | hx
    · split at hx
      · cases hx
      · rename_i c
        obtain rfl:=List.mem_singleton.1 hx;exact (tI (h.ct.cat c)).1
    · obtain⟨e,he,rfl⟩:=List.mem_map.1 hx
      exact (tI (h.ct.segs e he)).1
theorem Cv.perm (h:Cv k m r kk s) (hL:Lg k m) (hcl:CleanC (bA m 0 r) s.f0):s.f0.Perm (zL k m r) :=
  (List.perm_ext_iff_of_nodup (zQ S98.f0 (aB1 h.si.rise)) (aKp hL h.ri)).2 λx=>h.mem hL hcl x
theorem Cv.count (h:Cv k m r kk s) (hL:Lg k m) (hcl:CleanC (bA m 0 r) s.f0):s.f0.length=(if r=[] then 0 else 1)+r.length:=by rw [(h.perm hL hcl).length_eq];unfold zL;rw [List.length_append,List.length_map,fZ];split <;> rfl
theorem aI7 (hL:Lg k m):∀ {r:List Nat} {a:Nat},RiseN a r m.length->used ((bA m a r).map (aJz k m))<=r.length * szB m.length
  | [],_,_=>Nat.zero_le _
  | b::r,a,h=>by
    have h1:=h.1;have h2:=RiseN.end_le h.2;have ih:=aI7 hL h.2;have hs:=(hL.seg h1 (show b<=m.length by omega)).size;have hm:=aD8 (a:=(pc m a b).length) (b:=m.length) (by rw [zJ (by omega)]; omega);show used (aJz k m (nB m a b)::(bA m b r).map (aJz k m))<=(r.length+1) * _;rw [xV,Nat.add_mul];have e:(aJz k m (nB m a b)).f1.length=(wZ (pc m a b) k.toNat).length:=by show (wZ (pc m ((a:Int)).toNat ((b:Int)).toNat) k.toNat).length=_;rw [Int.toNat_natCast,Int.toNat_natCast]
    rw [e];omega
theorem Cv.used (h:Cv k m r kk s) (hL:Lg k m) (hcl:CleanC (bA m 0 r) s.f0):used s.f0<=40 * r.length+40+r.length * szB m.length:=by
  have hf:=h.few hL;have hu:P.used s.f0=P.used (zL k m r):=by show (s.f0.map λx=>x.f1.length).sum=((zL k m r).map λx=>x.f1.length).sum;exact ((h.perm hL hcl).map _).sum_nat
  have h1:=aI7 hL h.ri;rw [hu];unfold zL;rw [uA];have h2:P.used (if r=[] then [] else [aMy vE (aWk k m r)])<=40 * r.length+40:=by
    split
    · exact Nat.zero_le _
    · have:=aLr ⟨hL.k1,hL.k8⟩ (aA4 hL h.ri) (by rw [fZ]; omega)
      rw [fZ] at this;show (aWk k m r).length+0<=_;exact this
  omega
theorem Cv.same {kk':Nat} {s':S77} (h:Cv k m r kk s) (h':Cv k m r kk' s') (hL:Lg k m) (hcl:CleanC (bA m 0 r) s.f0) (hcl':CleanC (bA m 0 r) s'.f0):s.f0=s'.f0:=by
  refine aPm h.si.rise h'.si.rise λf=>?_;have key:∀ {j j':Nat} {a b:S77},Cv k m r j a->Cv k m r j' b->CleanC (bA m 0 r) a.f0->CleanC (bA m 0 r) b.f0->∀ x,get a.f0 f=some x->get b.f0 f=some x:=λha hb ca cb x hx=>by obtain⟨mm,rfl⟩:=tI hx;exact aGj hb.si.rise ((hb.mem hL cb x).2 ((ha.mem hL ca x).1 mm))
  cases ha:get s.f0 f with
  | some x=>exact (key h h' hcl hcl' x ha).symm
  | none =>
    cases hb:get s'.f0 f with
    | none=>rfl
    | some y=>rw [key h' h hcl' hcl y hb] at ha; cases ha
structure Sv (k:Int) (m:List S61) (r:List Nat) (R:Int) (kk:Nat) (s:S77):Prop where
  ctv:Cv k m r kk s
  cl:CleanC (bA m 0 r) s.f0
  f1:s.f1=R
  f2:s.f2=0
  f3:s.f3=false
theorem Sv.mono {R:Int} {kk':Nat} (h:Sv k m r R kk s) (hk:kk<=kk'):Sv k m r R kk' s:=⟨h.ctv.mono hk,h.cl,h.f1,h.f2,h.f3⟩
theorem aS5 (k:Int) (m:List S61) {R:Int} (h:1<=R) (h':R<=16777216):Sv k m [] R 0 (onS [] R 0) :=
  ⟨⟨aZq h h',⟨λ_=>rfl,λh=>absurd rfl h,λe he=>(by cases he)⟩,λf x hx=>(by cases hx),Nat.zero_le _⟩,λf x hx=>(by cases hx),rfl,rfl,rfl⟩
theorem Sv.fit {R:Int} (h:Sv k m r R kk s) (hL:Lg k m) {c:Nat} (hc:c<=r.length+1) (hR:((r.length+1) * szB m.length+80 * (r.length+2):Nat)<=R):FitC s (szB m.length+(40 * c+40)) 2:=by
  have h1:=h.ctv.used hL h.cl;have h2:=h.ctv.count hL h.cl;have h3:=(h.ctv.few hL).1;refine⟨?_,?_⟩
  · rw [h.f1]
    rw [Nat.add_mul] at hR;omega
  · rw [h2]; split <;> omega
theorem aJ7 {R:Int} {b:Nat} (h:Sv k m r R kk s) (hL:Lg k m) (hk:kk+20000<4611686018427387904) (hr:r.length<200) (hab:eZ 0 r<b) (hb:b<=m.length) (hR:((r.length+1) * szB m.length+80 * (r.length+2):Nat)<=R) :
    ∃ s',bU (cI k m r) (pc m (eZ 0 r) b) s=some (0,cI k m (r++[b]),s')/\Sv k m (r++[b]) R (kk+1000) s':=by
  obtain⟨e,s',r',w,C,kp,o,ft⟩:=aQ1 h.ctv hL (by omega) h.f3 h.cl (by omega) hab hb;obtain⟨k2,k3⟩:=kp.2 h.f2 h.f3;rcases o with ⟨rfl,on,rfl,cl⟩ | ⟨rfl,off,_⟩ | ⟨rfl,_⟩
  · exact⟨s',w,C,cl,kp.1.trans h.f1,k2,on⟩
  · rw [k3] at off; cases off
  · refine absurd rfl (ft ((h.fit hL (c:=r.length+1) (Nat.le_refl _) hR).mono ?_ (Nat.le_refl _)))
    have:=aD8 (a:=b - eZ 0 r) (b:=m.length) (by omega);omega
theorem aLg {R:Int} (h:Sv k m r R kk s) (hL:Lg k m) (hk:kk+20000<4611686018427387904) (hr:r.length<200) :
    ∃ s',bU (cI k m r) [] s=some (1,cI k m r,s')/\Sv k m r R (kk+1000) s':=by
  obtain⟨e,s',w,C,kp,o⟩:=aQ5 h.ctv hL (by omega) h.f3 (by omega);obtain⟨k2,k3⟩:=kp.2 h.f2 h.f3;rcases o with ⟨rfl,on,cl⟩ | ⟨rfl,off⟩
  · exact⟨s',w,C,cl,kp.1.trans h.f1,k2,on⟩
  · rw [k3] at off; cases off
theorem aHr {R:Int} {x y:List Nat} {b d:Nat} (h:Sv k m (x++b::d::y) R kk s) (hL:Lg k m) (hk:kk+20000<4611686018427387904)
    (hR:(((x++b::d::y).length+1) * szB m.length+80 * ((x++b::d::y).length+2):Nat)<=R) :
    ∃ s',bO (cI k m (x++b::d::y)) (x.length:Int) s=some (0,cI k m (x++d::y),s')/\Sv k m (x++d::y) R (kk+2000) s':=by
  obtain⟨e,s',r',w,C,kp,o,ft⟩:=aLd h.ctv hL hk h.f3 h.cl;obtain⟨k2,k3⟩:=kp.2 h.f2 h.f3;rcases o with ⟨rfl,on,rfl,cl⟩ | ⟨rfl,off,_⟩ | ⟨rfl,_⟩
  · exact⟨s',w,C,cl,kp.1.trans h.f1,k2,on⟩
  · rw [k3] at off; cases off
  · exact absurd rfl (ft (h.fit hL (c:=(x++b::d::y).length) (by omega) hR))
theorem aPv {R:Int} (h:Sv k m r R kk s) (hL:Lg k m) (hk:kk+20000<4611686018427387904) :
    ∃ s',nI s k=some (some (cI k m r),0,s')/\Sv k m r R (kk+500) s':=by
  obtain⟨e,s',w,C,kp,_,o⟩:=aS0 h.ctv hL (by omega) h.f3;obtain⟨k2,k3⟩:=kp.2 h.f2 h.f3;rcases o with ⟨rfl,on,cl⟩ | ⟨rfl,off⟩
  · exact⟨s',w,C,cl,kp.1.trans h.f1,k2,on⟩
  · rw [k3] at off; cases off
theorem aS7 (r:List Nat) (i:Nat) (h:i+1<r.length):∃ x b d y,r=x++b::d::y/\x.length=i:=by refine⟨r.take i,r[i],r[i+1],r.drop (i+2),?_,by rw [List.length_take]; omega⟩;have h1:=List.take_append_drop i r;rw [List.drop_eq_getElem_cons (by omega),List.drop_eq_getElem_cons (by omega)] at h1;exact h1.symm
end
theorem aH0 (a0:List S61) (hg:∀ e∈a0,Gd e) (k:Int):∀ (n i:Nat) (out:List S61),i+n=min a0.length 250->Run k 0 out->out.length<=i ->
    ∃ m,loop (λs:List S61×Int=>nJ a0 k s.1 s.2) (out,(i:Int))=some m/\Run k 0 m/\m.length<=250
  | 0,i,out,hi,hr,hl=>by
    refine⟨out,bF ?_,hr,by omega⟩;show nJ a0 k out (i:Int)=_;unfold nJ sK;by_cases h:i<a0.length
    · rw [if_pos (by simp only [decide_eq_true_eq]; omega),show decide ((i:Int)<250)=false by simp only [decide_eq_false_iff_not]; omega]; rfl
    · rw [if_neg (by simp only [decide_eq_true_eq]; omega)]; rfl
  | n+1,i,out,hi,hr,hl=>by
    have hil:i<a0.length:=by omega
    have hx:=List.getElem?_eq_getElem (l:=a0) (i:=i) hil;obtain⟨g1,g2⟩:=hg _ (List.getElem_mem hil);generalize a0[i]=e at hx g1 g2;have hstep:nJ a0 k out (i:Int)=some (.inl (if qG ⟨out.length,e.f1,e.f2,e.f3,e.f4⟩ k=true then out++[⟨out.length,e.f1,e.f2,e.f3,e.f4⟩] else out,((i+1:Nat):Int))):=by
      unfold nJ sK;rw [if_pos (by simp only [decide_eq_true_eq]; omega),show decide ((i:Int)<250)=true by simp only [decide_eq_true_eq]; omega,if_pos rfl,bG rfl hx];simp only [Option.bind_some,lt_];rw [nO (n:=(out.length:Int)) (by omega) (by omega),aTy];simp only [Option.bind_some];split
      · rw [bM (by simp; omega)]
        unfold rV;rw [lt_,w64 (by omega) (by omega)]; rfl
      · unfold rV
        rw [lt_,w64 (by omega) (by omega)]; rfl
    by_cases hb:qG ⟨out.length,e.f1,e.f2,e.f3,e.f4⟩ k=true
    · rw [if_pos hb] at hstep
      have hr':Run k 0 (out++[⟨out.length,e.f1,e.f2,e.f3,e.f4⟩]):=by
        refine⟨λx hx=>?_,λx hx=>?_,λj x hx=>?_⟩
        · rcases List.mem_append.1 hx with h | h
          · exact hr.fm x h
          · simp at h; subst h; exact hb
        · rcases List.mem_append.1 hx with h | h
          · exact hr.gd x h
          · simp at h; subst h
            exact⟨⟨by show 0<=(out.length:Int); omega,by show (out.length:Int)<_; omega⟩,g2⟩
        · rw [List.getElem?_append] at hx
          split at hx
          · exact hr.of j x hx
          · rename_i hj
            have hj2:j=out.length:=by have:=(List.getElem?_eq_some_iff.1 hx).1;simp at this;omega
            subst hj2;rw [Nat.sub_self] at hx;cases hx;show (out.length:Int)=0+out.length;omega
      obtain⟨m,h1,h2,h3⟩:=aH0 a0 hg k n (i+1) _ (by omega) hr' (by simp; omega);exact⟨m,(cH hstep).trans h1,h2,h3⟩
    · rw [if_neg hb] at hstep
      obtain⟨m,h1,h2,h3⟩:=aH0 a0 hg k n (i+1) out (by omega) hr (by omega);exact⟨m,(cH hstep).trans h1,h2,h3⟩
theorem aZg {a0:List S61} (hg:∀ e∈a0,Gd e) {k:Int} (hk:1<=k/\k<=8):∃ m,aAn a0 k=some m/\Lg k m:=by obtain⟨m,h1,h2,h3⟩:=aH0 a0 hg k (min a0.length 250) 0 [] (by omega) ⟨λe he=>(by cases he),λe he=>(by cases he),λi x hx=>(by simp at hx)⟩ (Nat.le_refl _);refine⟨m,?_,h2,h3,hk.1,hk.2⟩;unfold aAn;rw [show (([]:List S61),(0:Int))=([],((0:Nat):Int)) from rfl,h1];rfl
section
variable {k:Int} {m:List S61} {r:List Nat} {kk:Nat} {s:S77}
end
def awakeL:List S61:=aB9 20
theorem aQv:Lg 1 awakeL:=by
  have hl:awakeL.length=20:=by simp [awakeL,aB9]
  refine⟨⟨λe he=>?_,λe he=>?_,λi x hx=>?_⟩,by omega,by omega,by omega⟩
  · obtain⟨i,hi⟩:=List.getElem?_of_mem he
    obtain⟨rfl,h⟩:=aH2 hi;unfold qG;simp only [Bool.and_eq_true,decide_eq_true_eq,List.length_nil];omega
  · obtain⟨i,hi⟩:=List.getElem?_of_mem he
    obtain⟨rfl,h⟩:=aH2 hi;exact⟨⟨by show (0:Int)<=i; omega,by show (i:Int)<_; omega⟩,by show 0<18446744073709551616; omega⟩
  · obtain⟨rfl,h⟩:=aH2 hx
    show (i:Int)=0+i;omega
theorem aLk:loop (λs:List S61×Int=>iY s.1 s.2) ([],0)=some awakeL:=by
  have h:=kD (b:=λs:List S61×Int=>iY s.1 s.2) (λk=>(aB9 k,(k:Int))) (t:=awakeL) 20 (λk hk=>by
    show iY (aB9 k) (k:Int)=_;have hl:(aB9 k).length=k:=by simp [aB9]
    unfold iY;rw [if_pos (by simp only [decide_eq_true_eq]; omega),lt_,nO (by omega) (by omega),bM (by rw [hl]; simp only [List.length_singleton]; omega),lt_,w64 (by omega) (by omega)];unfold aB9;rw [List.range_succ,List.map_append];rfl) (by
    show iY (aB9 20) _=_;unfold iY;rw [if_neg (by simp)];rfl)
  exact h
theorem aQh:wG=some true:=by
  have hl:awakeL.length=20:=by simp [awakeL,aB9]
  have hL:=aQv;have hz:szB awakeL.length=8522:=by rw [hl]; rfl
  have c1:kX awakeL 0 10=some (pc awakeL 0 10):=by have:=sE (xs:=awakeL) (l:=0) (u:=10) (by omega) (by omega);rw [List.drop_zero, ← aKy] at this;exact this
  have c2:kX awakeL 10 (awakeL.length:Int)=some (pc awakeL 10 20):=by have:=sE (xs:=awakeL) (l:=10) (u:=awakeL.length) (by omega) (by omega);refine this.trans ?_;unfold pc;rw [List.take_length,List.take_of_length_le (by simp; omega)]
  obtain⟨s0,w0,v0⟩:=aPv (aS5 1 awakeL (R:=65536) (by decide) (by decide)) hL (by omega);obtain⟨s1,w1,v1⟩:=aJ7 (b:=10) v0 hL (by omega) (by simp) (by show 0<10; omega) (by omega) (by rw [hz]; decide);obtain⟨s2,w2,v2⟩:=aJ7 (b:=20) v1 hL (by omega) (by simp) (by show 10<20; omega) (by omega) (by rw [hz]; decide);obtain⟨s3,w3,v3⟩:=aHr (x:=[]) (b:=10) (d:=20) (y:=[]) v2 hL (by omega) (by rw [hz]; decide);rw [show eZ 0 []=0 from rfl] at w1;rw [show eZ 0 ([]++[10])=10 from rfl] at w2;unfold wG;rw [aPt (by decide) (by decide),Option.bind_some,Option.bind_some,w0,Option.bind_some,Option.bind_some,if_neg (by simp),aLk,Option.bind_some];unfold rR vC;rw [c1,Option.bind_some,w1,Option.bind_some,if_neg (by simp),c2,Option.bind_some,w2,Option.bind_some,if_neg (by simp)];rw [show ([]++[10]++[20]:List Nat)=[]++10::20::[] from rfl,show (0:Int)=((([]:List Nat).length:Nat):Int) from rfl,w3,Option.bind_some];unfold oR;rw [if_neg (by simp),show (⟨(),(cI 1 awakeL ([]++20::[])).f1,(cI 1 awakeL ([]++20::[])).f2⟩:S79)=cI 1 awakeL [20] from rfl,aFu (by simp),Option.bind_some];rw [if_pos (by rfl),show at_ (bA awakeL 0 [20]) 0=some (nB awakeL 0 20) from rfl,Option.bind_some,if_pos (by rw [show (nB awakeL 0 20).f0=qH 0 20 from rfl]; decide +kernel),aOu (by simp),Option.bind_some];rfl
theorem aYm {m:List S61} {a b:Nat} (h:a<=b) (hb:b<=m.length):kX m (a:Int) (b:Int)=some (pc m a b):=by rw [sE h hb];unfold pc;rw [List.drop_take]
section
variable {k:Int} {m:List S61} {r:List Nat} {R:Int}
theorem aPc (hL:Lg k m) {n:Nat} (hn:n<=25) (hR:700000<=R):((n+1) * szB m.length+80 * (n+2):Nat)<=R:=by have h1:szB m.length<=26822:=aD8 (b:=250) hL.le;have h2:=Nat.mul_le_mul (show n+1<=26 by omega) h1;omega
theorem aT0 (hL:Lg k m) (hr:r.length<=25) (hri:RiseN 0 r m.length) (hR:700000<=R) {n:Nat} (hn:eZ 0 r+n<=m.length) :
    ∃ e r',((n=0/\e=1/\r'=r)\/(0<n/\e=0/\r'=r++[eZ 0 r+n]))/\∀ kk s,Sv k m r R kk s->kk<=1000000000->∃ s',bU (cI k m r) (pc m (eZ 0 r) (eZ 0 r+n)) s=some (e,cI k m r',s')/\Sv k m r' R (kk+2000) s':=by
  rcases Nat.eq_zero_or_pos n with h0 | h0
  · subst h0
    refine⟨1,r,.inl ⟨rfl,rfl,rfl⟩,λkk s h hk=>?_⟩;obtain⟨s',w,v⟩:=aLg h hL (by omega) (by omega);have:pc m (eZ 0 r) (eZ 0 r+0)=[]:=by unfold pc; rw [show eZ 0 r+0 - eZ 0 r=0 by omega,List.take_zero]
    rw [this];exact⟨s',w,v.mono (by omega)⟩
  · refine⟨0,r++[eZ 0 r+n],.inr ⟨h0,rfl,rfl⟩,λkk s h hk=>?_⟩
    obtain⟨s',w,v⟩:=aJ7 (b:=eZ 0 r+n) h hL (by omega) (by omega) (by omega) hn (aPc hL hr hR);exact⟨s',w,v.mono (by omega)⟩
theorem aLu (hL:Lg k m) (hr:r.length<=25) (hR:700000<=R) (i:Int) :
    ∃ e r',(((i<0\/(r.length:Int) - 1<=i)/\e=1/\r'=r)\/(∃ x b d y,r=x++b::d::y/\i=(x.length:Int)/\e=0/\r'=x++d::y))/\∀ kk s,Sv k m r R kk s->kk<=1000000000->∃ s',bO (cI k m r) i s=some (e,cI k m r',s')/\Sv k m r' R (kk+2000) s':=by
  by_cases c:i<0\/(r.length:Int) - 1<=i
  · exact⟨1,r,.inl ⟨c,rfl,rfl⟩,λkk s h hk=>⟨s,aM3 (by omega) c s,h.mono (by omega)⟩⟩
  · obtain⟨n,rfl⟩:∃ n:Nat,i=n:=⟨i.toNat,by omega⟩
    obtain⟨x,b,d,y,rfl,rfl⟩:=aS7 r n (by omega);refine⟨0,x++d::y,.inr ⟨x,b,d,y,rfl,rfl,rfl,rfl⟩,λkk s h hk=>?_⟩;obtain⟨s',w,v⟩:=aHr h hL (by omega) (aPc hL hr hR);exact⟨s',w,v.mono (by omega)⟩
end
theorem aR6 {k1 k2:Nat} {s t:S77} (hs:SI k1 s) (ht:SI k2 t) (s3:s.f3=false) (t3:t.f3=false) (e:s.f0=t.f0):∀ (m i:Nat),i+m=s.f0.length ->
    loop (λq:Int=>dX s.f0 s.f1 s.f2 s.f3 s.f4 t.f0 t.f1 t.f2 t.f3 t.f4 (s.f0.map S98.f0) (s.f0.map S98.f0) q) (i:Int)=some (.inl ())
  | 0,i,hi=>by refine bF ?_;unfold dX;rw [if_neg (by rw [List.length_map]; simp only [decide_eq_true_eq]; omega)]
  | m+1,i,hi=>by
    have hl:=hs.len;have hx:=List.getElem?_eq_getElem (l:=s.f0) (i:=i) (by omega);have hxm:s.f0[i]∈s.f0:=List.getElem_mem (by omega);have hf:=hs.form _ hxm;have h32:=aK6 hf;have hy:(s.f0.map S98.f0)[i]?=some (s.f0[i]).f0:=by rw [List.getElem?_map,hx]; rfl
    have hr:aAh s (s.f0[i]).f0=aAh t (s.f0[i]).f0:=by unfold aAh;rw [zD hf s3,zD hf t3, ← e]
    have hst:dX s.f0 s.f1 s.f2 s.f3 s.f4 t.f0 t.f1 t.f2 t.f3 t.f4 (s.f0.map S98.f0) (s.f0.map S98.f0) (i:Int)=some (.inl ((i+1:Nat):Int)):=by unfold dX;rw [if_pos (by rw [List.length_map]; simp only [decide_eq_true_eq]; omega),bG rfl hy,Option.bind_some,show (⟨s.f0,s.f1,s.f2,s.f3,s.f4⟩:S77)=s from rfl,show (⟨t.f0,t.f1,t.f2,t.f3,t.f4⟩:S77)=t from rfl,hs.Read (by omega),Option.bind_some,Option.bind_some,ht.Read (by omega),Option.bind_some];rw [if_neg (by simp),hr,show (!(bts (aAh t (s.f0[i]).f0).1==bts (aAh t (s.f0[i]).f0).1))=false by simp];unfold jO;rw [if_neg (by simp),lt_,w64 (by omega) (by omega)];rfl
    rw [cH (b:=λq:Int=>dX s.f0 s.f1 s.f2 s.f3 s.f4 t.f0 t.f1 t.f2 t.f3 t.f4 (s.f0.map S98.f0) (s.f0.map S98.f0) q) hst];exact aR6 hs ht s3 t3 e m (i+1) (by omega)
section
variable {m:List S61} {r:List Nat}
noncomputable abbrev twR (acts:List S52) (m:List S61) (s t:S77) (c:S79) (i:Int):=fI acts m s.f0 s.f1 s.f2 s.f3 s.f4 t.f0 t.f1 t.f2 t.f3 t.f4 c.f1 c.f2 c.f1 c.f2 i
theorem aTn {i K:Nat} {s t:S77} (hL:Lg 8 m) (hi:i<20) (hs:Sv 8 m r 1048576 K s) (ht:Sv 8 m r 1048576 K t) (e:Int) :
    gY (i:Int) s.f0 s.f1 s.f2 s.f3 s.f4 t.f0 t.f1 t.f2 t.f3 t.f4 (cI 8 m r).f1 (cI 8 m r).f2 e (cI 8 m r).f1 (cI 8 m r).f2 e =
      some (.inl (s.f0,s.f1,s.f2,s.f3,s.f4,t.f0,t.f1,t.f2,t.f3,t.f4,(cI 8 m r).f1,(cI 8 m r).f2,(cI 8 m r).f1,(cI 8 m r).f2,((i+1:Nat):Int))):=by
  have he:=hs.ctv.same ht.ctv hL hs.cl ht.cl;have hl2:=aR6 hs.ctv.si ht.ctv.si hs.f3 ht.f3 he s.f0.length 0 (by omega);unfold gY;rw [show (⟨s.f0,s.f1,s.f2,s.f3,s.f4⟩:S77)=s from rfl,show (⟨t.f0,t.f1,t.f2,t.f3,t.f4⟩:S77)=t from rfl,hs.ctv.si.Names,Option.bind_some,ht.ctv.si.Names,Option.bind_some, ← he,if_neg (by simp),show (((s.f0.map S98.f0).length:Int) != ((s.f0.map S98.f0).length:Int))=false by simp];unfold jR;rw [he] at hl2 ⊢;rw [if_neg (by simp),show (0:Int)=((0:Nat):Int) from rfl,hl2,Option.bind_some];unfold kY mK;rw [lt_,w64 (by omega) (by omega)];rfl
theorem aS8 {x:Int} (h:gI .u8 x) (n:Nat) (hn:0<n):∃ a:Nat,x.tmod (n:Int)=(a:Int)/\a<n/\a<256:=by obtain⟨h1,h2⟩:=bAa h;obtain⟨b,rfl⟩:=Int.eq_ofNat_of_zero_le h1;refine⟨b % n,rfl,Nat.mod_lt _ hn,Nat.lt_of_le_of_lt (Nat.mod_le _ _) (by omega)⟩
theorem aQc {acts:List S52} (hg:∀ a∈acts,g52 a) {i:Nat} {s t:S77} (hL:Lg 8 m) (hi:i<acts.length) (z:i<20) (hr:r.length<=i) (hs:Sv 8 m r 1048576 (3000 * i+1000) s) (ht:Sv 8 m r 1048576 (3000 * i+1000) t) :
    ∃ r' s' t',twR acts m s t (cI 8 m r) (i:Int)=some (.inl (s'.f0,s'.f1,s'.f2,s'.f3,s'.f4,t'.f0,t'.f1,t'.f2,t'.f3,t'.f4,(cI 8 m r').f1,(cI 8 m r').f2,(cI 8 m r').f1,(cI 8 m r').f2,((i+1:Nat):Int)))/\r'.length<=i+1/\Sv 8 m r' 1048576 (3000 * (i+1)+1000) s'/\Sv 8 m r' 1048576 (3000 * (i+1)+1000) t':=by
  have hf:=hs.ctv.few hL;have hm:=hL.le;have hx:=List.getElem?_eq_getElem hi;have hga:=hg _ (List.getElem_mem hi);unfold twR fI;rw [if_pos (by simp only [decide_eq_true_eq]; omega),show decide ((i:Int)<20)=true by simp only [decide_eq_true_eq]; omega];unfold gU;rw [if_pos rfl,bG rfl hx,Option.bind_some];generalize acts[i]=a at hx hga;obtain⟨g0,g1,g2⟩:=hga;obtain⟨n1,e1,b1,_⟩:=aS8 g1 30 (by decide);obtain⟨n2,e2,b2,_⟩:=aS8 g0 4 (by decide);obtain⟨n3,e3,b3,_⟩:=aS8 g1 4 (by decide);rw [show ((30:Nat):Int)=30 from rfl] at e1;rw [show ((4:Nat):Int)=4 from rfl] at e2 e3;rw [show (⟨(),(cI 8 m r).f1,(cI 8 m r).f2⟩:S79)=cI 8 m r from rfl,aOu (by omega),Option.bind_some,lt_,lt_,lt_,lt_,e1,nO (n:=(n1:Int)) (by omega) (by omega),nO (n:=(m.length:Int)) (by omega) (by omega),nO (n:=(m.length:Int) - (eZ 0 r:Int)) (by omega) (by omega)];have hj3:∀ n:Nat,eZ 0 r+n<=m.length->∃ r' s' t',gW m s.f0 s.f1 s.f2 s.f3 s.f4 t.f0 t.f1 t.f2 t.f3 t.f4 (cI 8 m r).f1 (cI 8 m r).f2 (i:Int) a ((eZ 0 r:Int),cI 8 m r) (n:Int)=some (.inl (s'.f0,s'.f1,s'.f2,s'.f3,s'.f4,t'.f0,t'.f1,t'.f2,t'.f3,t'.f4,(cI 8 m r').f1,(cI 8 m r').f2,(cI 8 m r').f1,(cI 8 m r').f2,((i+1:Nat):Int)))/\r'.length<=i+1/\Sv 8 m r' 1048576 (3000 * (i+1)+1000) s'/\Sv 8 m r' 1048576 (3000 * (i+1)+1000) t':=by
    intro n hn;unfold gW;rw [lt_,e2];by_cases c:n2<3
    · obtain⟨e,r',hc,hact⟩:=aT0 (R:=1048576) hL (by omega) hs.ctv.ri (by decide) hn
      obtain⟨s',ws,vs⟩:=hact _ s hs (by omega);obtain⟨t',wt,vt⟩:=hact _ t ht (by omega);have hcut:kX m ((eZ 0 r:Nat):Int) ((eZ 0 r:Int)+(n:Int))=some (pc m (eZ 0 r) (eZ 0 r+n)):=aYm (Nat.le_add_right _ _) hn;have hl':r'.length<=i+1:=by
        rcases hc with ⟨_,_,rfl⟩ | ⟨_,_,rfl⟩
        · omega
        · rw [List.length_append,List.length_singleton]; omega
      refine⟨r',s',t',?_,hl',vs.mono (by omega),vt.mono (by omega)⟩;rw [if_pos (by simp only [decide_eq_true_eq]; omega),lt_,nO (by omega) (by omega),hcut,Option.bind_some,show (⟨s.f0,s.f1,s.f2,s.f3,s.f4⟩:S77)=s from rfl,show (⟨t.f0,t.f1,t.f2,t.f3,t.f4⟩:S77)=t from rfl,show (⟨(),(cI 8 m r).f1,(cI 8 m r).f2⟩:S79)=cI 8 m r from rfl,ws,Option.bind_some,Option.bind_some,wt,Option.bind_some];exact aTn hL z vs vt e
    · obtain⟨e,r',hc,hact⟩:=aLu (r:=r) (R:=1048576) hL (by omega) (by decide) (n3:Int)
      obtain⟨s',ws,vs⟩:=hact _ s hs (by omega);obtain⟨t',wt,vt⟩:=hact _ t ht (by omega);have hl':r'.length<=i+1:=by
        rcases hc with ⟨_,_,rfl⟩ | ⟨x,b,d,y,rfl,_,_,rfl⟩
        · omega
        · simp only [List.length_append,List.length_cons] at hr ⊢; omega
      refine⟨r',s',t',?_,hl',vs.mono (by omega),vt.mono (by omega)⟩;rw [if_neg (by simp only [decide_eq_true_eq]; omega),lt_,lt_,e3,w64 (by omega) (by omega),show (⟨s.f0,s.f1,s.f2,s.f3,s.f4⟩:S77)=s from rfl,show (⟨t.f0,t.f1,t.f2,t.f3,t.f4⟩:S77)=t from rfl,show (⟨(),(cI 8 m r).f1,(cI 8 m r).f2⟩:S79)=cI 8 m r from rfl,ws,Option.bind_some,wt,Option.bind_some];exact aTn hL z vs vt e
  by_cases c:(m.length:Int) - (eZ 0 r:Int)<(n1:Int)
  · rw [if_pos (by simpa using c)]
    have:=hj3 (m.length - eZ 0 r) (by omega);rw [show ((m.length - eZ 0 r:Nat):Int)=(m.length:Int) - (eZ 0 r:Int) by omega] at this;exact this
  · rw [if_neg (by simpa using c)]
    exact hj3 n1 (by omega)
noncomputable abbrev twL (acts:List S52) (m:List S61) (s t:S77) (c:S79) (i:Int) :=
  loop (λs=>fI acts m s.1 s.2.1 s.2.2.1 s.2.2.2.1 s.2.2.2.2.1 s.2.2.2.2.2.1 s.2.2.2.2.2.2.1 s.2.2.2.2.2.2.2.1 s.2.2.2.2.2.2.2.2.1 s.2.2.2.2.2.2.2.2.2.1 s.2.2.2.2.2.2.2.2.2.2.1 s.2.2.2.2.2.2.2.2.2.2.2.1 s.2.2.2.2.2.2.2.2.2.2.2.2.1 s.2.2.2.2.2.2.2.2.2.2.2.2.2.1 s.2.2.2.2.2.2.2.2.2.2.2.2.2.2) (s.f0,s.f1,s.f2,s.f3,s.f4,t.f0,t.f1,t.f2,t.f3,t.f4,c.f1,c.f2,c.f1,c.f2,i)
theorem aNb {acts:List S52} (hg:∀ a∈acts,g52 a) (hL:Lg 8 m):∀ (n i:Nat) (r:List Nat) (s t:S77),i+n=min acts.length 20->r.length<=i->Sv 8 m r 1048576 (3000 * i+1000) s->Sv 8 m r 1048576 (3000 * i+1000) t ->
    twL acts m s t (cI 8 m r) (i:Int)=some (.inl ())
  | 0,i,r,s,t,hi,hr,hs,ht=>by
    refine bF ?_;show twR acts m s t (cI 8 m r) (i:Int)=_;unfold twR fI gU;by_cases c:i<acts.length
    · rw [if_pos (by simp only [decide_eq_true_eq]; omega),if_neg (by simp only [decide_eq_true_eq]; omega)]
    · rw [if_neg (by simp only [decide_eq_true_eq]; omega),if_neg (by simp)]
  | n+1,i,r,s,t,hi,hr,hs,ht=>by obtain⟨r',s',t',w,l',vs,vt⟩:=aQc hg hL (i:=i) (by omega) (by omega) hr hs ht;exact (cH w).trans (aNb hg hL n (i+1) r' s' t' (by omega) l' vs vt)
end
theorem CatalogTwins (a0:List S61) (a1:List S52) (h0:gL 48 g61 a0) (h1:gL 32 g52 a1):mA a0 a1=some true:=by obtain⟨m,hm,hL⟩:=aZg (bCw h0) (k:=8) (by decide);obtain⟨s0,w0,v0⟩:=aPv (aS5 8 m (R:=1048576) (by decide) (by decide)) hL (by omega);have hy:=aNb h1.2 hL (min a1.length 20) 0 [] s0 s0 (by omega) (Nat.le_refl _) (v0.mono (by omega)) (v0.mono (by omega));unfold mA;rw [aQh,Option.bind_some,if_neg (by simp),hm,Option.bind_some,aPt (by decide) (by decide),Option.bind_some,Option.bind_some,Option.bind_some,Option.bind_some,w0,Option.bind_some,Option.bind_some,Option.bind_some,Option.bind_some,if_neg (by simp)];unfold jN;rw [if_neg (by simp)];unfold twL at hy;rw [show ((0:Nat):Int)=0 from rfl] at hy;rw [hy];rfl
end Go.Proofs.YtdkpjpoajlmmfaaGreatDoor.P
