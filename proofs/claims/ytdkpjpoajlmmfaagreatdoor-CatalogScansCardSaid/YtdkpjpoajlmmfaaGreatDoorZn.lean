/- Texts of the claim, joined: what it uses of Wg, Wh, Wi, Wj, Wk, Wl, Wm. -/
import Derived.Test.YtdkpjpoajlmmfaaGreatDoorZm
namespace Go.Proofs.YtdkpjpoajlmmfaaGreatDoor.P
open Go Go.RowKit Go.Proofs.YtdkpjpoajlmmfaaGreatDoor.E Go.Proofs.YtdkpjpoajlmmfaaGreatDoor.M
set_option linter.unusedVariables false
set_option linter.unusedSectionVars false
def dC (k:Int) (m:List S61) (r:List Nat):S79:=⟨(),k,bA m 0 r⟩
structure Cv (k:Int) (m:List S61) (r:List Nat) (kk:Nat) (s:S77):Prop where
  si:SI kk s
  ct:Ct k m r s.f0
  dom:aYp s.f0
  ri:RiseN 0 r m.length
theorem Cv.mono {k:Int} {m:List S61} {r:List Nat} {kk a:Nat} {s:S77} (h:Cv k m r kk s) (hk:kk<=a):Cv k m r a s:=⟨h.si.mono hk,h.ct,h.dom,h.ri⟩
section
variable {k:Int} {m:List S61} {r:List Nat} {kk:Nat} {s:S77}
theorem Cv.few (h:Cv k m r kk s) (hL:Lg k m):r.length<=250/\eL 0 r<=250/\r.length<=eL 0 r/\eL 0 r<=m.length:=by have a:=RiseN.len h.ri;have b:=RiseN.end_le h.ri;have:=hL.le;omega
theorem aI0 (h:Cv k m r kk s) (hL:Lg k m) (hk:kk+5000<4611686018427387904) (a:s.f3=false) :
    ∃ e s',cX (dC k m r) s=some (e,dC k m r,s')/\Cv k m r (kk+500) s'/\Kp s s'/\(∀ f x,get s'.f0 f=some x->get s.f0 f=some x)/\((e=0/\s'.f3=false/\CleanC (bA m 0 r) s'.f0)\/(e=9/\s'.f3=true)):=by
  have hf:=h.few hL;obtain⟨e,s',w,i,kp,g,d,u,o⟩:=aNy h.si (by omega) a (dC k m r) (by show (bA m 0 r).length<=1000000;rw [eM];omega);exact⟨e,s',w,⟨i,h.ct.of λf hf=>g f (aCe hL h.ri hf),λf x hx=>h.dom f x (d f x hx),h.ri⟩,kp,d,o⟩
theorem aAs (h:Cv k m r kk s) (hL:Lg k m) (hk:kk+5000<4611686018427387904) (c:s.f3=false) {e:Int} (h0:e≠0) (g:e≠9) :
    ∃ e' s',dE (dC k m r) e s=some (e',dC k m r,s')/\Cv k m r (kk+500) s'/\Kp s s'/\((e'=e/\s'.f3=false/\CleanC (bA m 0 r) s'.f0)\/(e'=9/\s'.f3=true)):=by
  obtain⟨f,s',w,i,kp,d,o⟩:=aI0 h hL hk c;refine⟨_,s',aPc h0 g w,i,kp,?_⟩;rcases o with ⟨rfl,a,b⟩ | ⟨rfl,a⟩
  · exact .inl ⟨rfl,a,b⟩
  · exact .inr ⟨rfl,a⟩
theorem aP1 {r':List Nat} {a b:Nat} {l:List S61} (h:Cv k m r kk s) (hL:Lg k m) (hk:kk+5000<4611686018427387904) (B:s.f3=false) (u:CleanC (bA m 0 r) s.f0)
    (C:a<b) (hb:b<=m.length) (hl:l=pc m a b\/l=(pc m a b).map dB) (n:RiseN 0 r' m.length) (R:r'≠[]) (S:lM m a b∉bA m 0 r) (T:∀ e∈bA m 0 r',e=lM m a b\/e∈bA m 0 r) :
    ∃ i s1,dJ (dC k m r) l s=some (lM m a b,i,dC k m r,s1) /\
      ((i≠0/\Cv k m r (kk+10) s1/\Kp s s1/\(i=9/\s1.f3=true\/i=10/\s1.f3=false)/\(FitC s (szB (b - a)+(40 * r'.length+40)) 2->i≠10)) \/
        (i=0/\∃ j g o,cO (dC k m r) (bA m 0 r') s1=some (j,dC k m o,g)/\Cv k m o (kk+10) g/\Kp s g /\
          ((j=0/\g.f3=false/\o=r'/\∀ f x,get g.f0 f=some x->f=vF\/f=pX a b\/sZ (bA m 0 r) f=false)\/(j=9/\g.f3=true/\o=r)\/(j=10/\g.f3=false/\o=r))/\(FitC s (szB (b - a)+(40 * r'.length+40)) 2->j≠10))):=by
  have hf:=h.few hL;have hle:=hL.le;have v:Seg k l:=hl.elim (λe=>by rw [e];exact hL.seg C hb) (λe=>by rw [e];exact (hL.seg C hb).back);have U:Run k a l:=hl.elim (λe=>by rw [e];exact aCd hL.run a b) (λe=>by rw [e];exact (aCd hL.run a b).back);have hlen:l.length=b - a:=hl.elim (λe=>(congrArg List.length e).trans (zW hb)) (λe=>(congrArg List.length e).trans ((List.length_map ..).trans (zW hb)));have W:xC l k.toNat=xC (pc m a b) k.toNat:=hl.elim (λe=>by rw [e]) (λe=>by rw [e];exact aRt _ _);have X:(⟨pX a b,(a:Int),(b:Int),aGv l,aBj l⟩:S46)=lM m a b:=by
    rcases hl with rfl | rfl
    · rfl
    · unfold aGv aBj lM;rw [aHo];rfl
  have Y:=v.size;rw [hlen] at Y;have D:=aTc h.ri hle (show a<1000 by omega) (show b<1000 by omega) S;have gN:get s.f0 (pX a b)=none:=u.none D;have gT:get s.f0 qW=none:=u.none (aH5 _);have Z:sY (pX a b)=true:=aFz (by omega) (by omega);have E:=aE8 (aC3 a b);have F:∀ e∈bA m 0 r,e.f0≠pX a b:=λe he q=>by have:=aCe hL h.ri (.inr ⟨e,he,rfl⟩);rw [q,D] at this;cases this
  obtain⟨i,s1,w1,G,w,p,H,t1⟩:=aJ6 h.si (by omega) B (dC k m r) Z gN v.bytes.1;have pr:∀ f,aSb m r f->f≠pX a b:=λf hf=>by
    rcases hf with rfl | ⟨e,he,rfl⟩
    · exact E.2.symm
    · exact F e he
  have I:aYp s1.f0:=λf x hx=>by
    by_cases c:f=pX a b
    · exact .inr (.inr (by rw [c];exact aC3 a b))
    · rw [p f c] at hx
      exact h.dom f x hx
  refine⟨i,s1,?_,?_⟩
  · have:=aS2 v U (b:=b) (by omega) (by omega) (bA m 0 r) s
    rw [show (⟨(),k,bA m 0 r⟩:S79)=dC k m r from rfl,w1] at this;rw [this];simp only [Option.bind_some];rw [X]
  have J:Cv k m r (kk+10) s1:=⟨G.mono (by omega),h.ct.of λf hf=>p f (pr f hf),I,h.ri⟩;have K:FitC s (szB (b - a)+(40 * r'.length+40)) 2->i≠10/\(i=0->FitC s1 (40 * r'.length+40) 1):=λhf=>t1 _ 1 (hf.mono (by omega) (by omega));by_cases c1:i=0
  rotate_left
  · refine .inl ⟨c1,J,w,?_,λhf=>(K hf).1⟩
    rcases H with ⟨a,_⟩ | a | ⟨a,b⟩
    · exact absurd a c1
    · exact .inl a
    · exact .inr ⟨a,by rw [b];exact B⟩
  refine .inr ⟨c1,?_⟩;obtain⟨a2,v1⟩:s1.f3=false/\get s1.f0 (pX a b)=some (aM9 (pX a b) (xC l k.toNat)):=by
    rcases H with ⟨_,a,b⟩ | ⟨a,_⟩ | ⟨a,_⟩
    · exact⟨a,b⟩
    · rw [c1] at a;cases a
    · rw [c1] at a;cases a
  have a4:r'.length<=250:=by have h1:=RiseN.len n;have h2:=RiseN.end_le n;omega
  obtain⟨j,g,y,L,M,z,t,t2⟩:=aLt G (by omega) a2 ⟨hL.k1,hL.k8⟩ (old:=bA m 0 r) (aA1 hL n) (by rw [eM];exact a4) ((p _ E.1.symm).trans gT);rw [eM] at t2;have N:aYp g.f0:=λf x hx=>by
    by_cases c:f=vF
    · exact .inl c
    by_cases d:f=qW
    · exact .inr (.inl d)
    rw [z f d c] at hx;exact I f x hx
  have O:∀ f,xA f=true->get g.f0 f=get s1.f0 f:=λf hf=>z f (aE8 hf).1 (aE8 hf).2;have P:FitC s (szB (b - a)+(40 * r'.length+40)) 2->j≠10:=λhf=>t2 ((K hf).2 c1);rcases t with ⟨rfl,a5,A,n2⟩ | ⟨t,A⟩
  · refine⟨0,g,r',y,⟨L.mono (by omega),⟨λe=>absurd e R,λ_=>A,λe he=>?_⟩,N,n⟩,Kp.trans w M,.inl ⟨rfl,a5,rfl,λf x hx=>?_⟩,P⟩
    · rw [O _ (aCy hL n he).1]
      rcases T e he with rfl | Q
      · rw [show (lM m a b).f0=pX a b from rfl,v1,W]
        rfl
      · rw [p _ (F e Q)]
        exact h.ct.segs e Q
    · by_cases c:f=vF
      · exact .inl c
      by_cases d:f=qW
      · rw [d,n2] at hx;cases hx
      by_cases e:f=pX a b
      · exact .inr (.inl e)
      rw [z f d c,p f e] at hx;exact .inr (.inr (u f x hx))
  · have hz:j≠0:=by rcases t with ⟨a,_⟩ | ⟨a,_⟩ <;> rw [a] <;> decide
    rw [if_neg hz] at y;refine⟨j,g,r,y,⟨L.mono (by omega),J.ct.of λf hf=>?_,N,h.ri⟩,Kp.trans w M,.inr ?_,P⟩
    · rcases hf with rfl | ⟨e,he,rfl⟩
      · exact A
      · exact O _ (aCy hL h.ri he).1
    · rcases t with ⟨a,b⟩ | ⟨a,b⟩
      · exact .inl ⟨a,b,rfl⟩
      · exact .inr ⟨a,b,rfl⟩
theorem aK0 (h:r.length<=250):dY (dC k m r)=some ((eL 0 r:Int),dC k m r):=by rw [aXg _ (by show (bA m 0 r).length<_;rw [eM];omega)];rw [show aBi (dC k m r).f2=aBi (bA m 0 r) from rfl,aRe]
theorem wE (h:r.length<=250):cF (dC k m r)=some (bA m 0 r,dC k m r):=aN7 _ (by show (bA m 0 r).length<=_;rw [eM];omega)
theorem aOp {x y:Nat} (hr:RiseN 0 r m.length) (he:lM m x y∈bA m 0 r):y<=eL 0 r:=by
  have key:∀ (r:List Nat) (a:Nat),RiseN a r (eL a r)->∀ e∈bA m a r,e.f2<=(eL a r:Int):=by intro r a h e he;obtain⟨x,y,_,_,b,rfl⟩:=aAc h e he;show (y:Int)<=_;omega
  have c:RiseN 0 r (eL 0 r):=by have:=(RiseN.app (r:=r) (s:=[]) (a:=0) (n:=m.length)).1 (by rw [List.append_nil];exact hr);exact this.1
  have:=key r 0 c _ he;have b:(lM m x y).f2=(y:Int):=rfl;omega
theorem aQ3 {b:Nat} (h:Cv k m r kk s) (hL:Lg k m) (hk:kk+10000<4611686018427387904) (B:s.f3=false) (C:CleanC (bA m 0 r) s.f0) (hr:r.length<250) (u:eL 0 r<b) (hb:b<=m.length) :
    ∃ e s' r',bT (dC k m r) (pc m (eL 0 r) b) s=some (e,dC k m r',s')/\Cv k m r' (kk+1000) s'/\Kp s s' /\
      ((e=0/\s'.f3=false/\r'=r++[b]/\CleanC (bA m 0 r') s'.f0)\/(e=9/\s'.f3=true/\r'=r)\/(e=10/\s'.f3=false/\r'=r/\CleanC (bA m 0 r) s'.f0)) /\
      (FitC s (szB (b - eL 0 r)+(40 * (r.length+1)+40)) 2->e≠10):=by
  have hf:=h.few hL;have hle:=hL.le;have M:(pc m (eL 0 r) b).length=b - eL 0 r:=zW hb;have hx:=List.getElem?_eq_getElem (l:=pc m (eL 0 r) b) (i:=0) (by omega);have N:=(aCd hL.run (eL 0 r) b).of 0 _ hx;have D:lM m (eL 0 r) b∉bA m 0 r:=λhe=>by have:=aOp h.ri he;omega
  have v:RiseN 0 (r++[b]) m.length:=RiseN.app.2 ⟨((RiseN.app (s:=[])).1 (by rw [List.append_nil];exact h.ri)).1,u,hb⟩;have j:bA m 0 (r++[b])=bA m 0 r++[lM m (eL 0 r) b]:=by rw [aCx];rfl
  obtain⟨O,s1,E,n⟩:=aP1 (r':=r++[b]) h hL (by omega) B C u hb (.inl rfl) v (by simp) D (λe he=>by
    rw [j] at he;rcases List.mem_append.1 he with he | he
    · exact .inr he
    · exact .inl (List.mem_singleton.1 he))
  rw [List.length_append,List.length_singleton] at n;have F:bT (dC k m r) (pc m (eL 0 r) b) s=eJ (pc m (eL 0 r) b) s k (bA m 0 r) false:=by unfold bT;rw [if_pos (by simp only [decide_eq_true_eq];omega),show at_ (pc m (eL 0 r) b) 0=_ from hx];simp only [Option.bind_some];rw [aK0 (by omega)];simp only [Option.bind_some];rw [show ((pc m (eL 0 r) b)[0].f0 != (eL 0 r:Int))=false by simp only [bne_eq_false_iff_eq];omega];rfl
  rw [F];unfold eJ;rw [if_neg (by simp),if_neg (by rw [eM];simp only [decide_eq_true_eq];omega),show (⟨(),k,bA m 0 r⟩:S79)=dC k m r from rfl,E];simp only [Option.bind_some];rcases n with ⟨c1,y,A,n,G⟩ | ⟨c1,P,d,g,H,p,q,I,t2⟩
  · rw [if_neg (by simpa using c1)]
    unfold eK;rw [show (⟨(),(dC k m r).f1,(dC k m r).f2⟩:S79)=dC k m r from rfl,show (⟨s1.f0,s1.f1,s1.f2,s1.f3,s1.f4⟩:S77)=s1 from rfl];rcases n with ⟨rfl,off⟩ | ⟨rfl,J⟩
    · rw [wR (.inr rfl)]
      exact⟨9,s1,r,rfl,y.mono (by omega),A,.inr (.inl ⟨rfl,off,rfl⟩),λ_=>by decide⟩
    · obtain⟨e',s',w,i,kp,o⟩:=aAs y hL (by omega) J (e:=10) (by decide) (by decide)
      rw [w];refine⟨e',s',r,rfl,i.mono (by omega),Kp.trans A kp,?_,λhf=>absurd rfl (G hf)⟩;rcases o with ⟨a,b,c⟩ | ⟨a,b⟩
      · exact .inr (.inr ⟨a,b,rfl,c⟩)
      · exact .inr (.inl ⟨a,b,rfl⟩)
  · rw [if_pos (by simpa using c1)]
    have K:bJ (dC k m r).f2=some (bA m 0 r):=by
      have:=wE (k:=k) (m:=m) (r:=r) (by omega);unfold cF at this;cases hq:bJ (dC k m r).f2 with
      | none=>rw [hq] at this;cases this
      | some z=>rw [hq] at this;simp only [Option.bind_some,Option.some.injEq,Prod.mk.injEq] at this;rw [this.1]
    rw [K];simp only [Option.bind_some];rw [bN (by rw [eM];simp only [List.length_singleton];omega), ← j,H];simp only [Option.bind_some];unfold eK;rw [show (⟨(),(dC k m g).f1,(dC k m g).f2⟩:S79)=dC k m g from rfl,show (⟨d.f0,d.f1,d.f2,d.f3,d.f4⟩:S77)=d from rfl];rcases I with ⟨rfl,t,rfl,L⟩ | ⟨rfl,off,rfl⟩ | ⟨rfl,t,rfl⟩
    · rw [wR (.inl rfl)]
      refine⟨0,d,r++[b],rfl,p.mono (by omega),q,.inl ⟨rfl,t,rfl,λf x hx=>?_⟩,λ_=>by decide⟩;rcases L f x hx with rfl | rfl | hg
      · exact aJo _
      · exact aCe hL v (.inr ⟨lM m (eL 0 r) b,by rw [j];simp,rfl⟩)
      · rw [j]
        unfold sZ at hg ⊢;rw [List.any_append];cases hq:(f==qW) with
        | true=>rw [hq] at hg;cases hg
        | false =>
          rw [hq] at hg;cases hs:xA f with
          | false=>rfl
          | true =>
            rw [hs] at hg;simp only [Bool.false_or,Bool.true_and,Bool.not_eq_false'] at hg ⊢;rw [hg,Bool.true_or]
    · rw [wR (.inr rfl)]
      exact⟨9,d,g,rfl,p.mono (by omega),q,.inr (.inl ⟨rfl,off,rfl⟩),λ_=>by decide⟩
    · obtain⟨e',s',w,i,kp,o⟩:=aAs p hL (by omega) t (e:=10) (by decide) (by decide)
      rw [w];refine⟨e',s',g,rfl,i.mono (by omega),Kp.trans q kp,?_,λhf=>absurd rfl (t2 hf)⟩;rcases o with ⟨a,b,c⟩ | ⟨a,b⟩
      · exact .inr (.inr ⟨a,b,rfl,c⟩)
      · exact .inr (.inl ⟨a,b,rfl⟩)
theorem aQ2 (h:Cv k m r kk s) (hL:Lg k m) (hk:kk+5000<4611686018427387904) (a:s.f3=false) (hr:r.length<250) :
    ∃ e s',bT (dC k m r) [] s=some (e,dC k m r,s')/\Cv k m r (kk+1000) s'/\Kp s s'/\((e=1/\s'.f3=false/\CleanC (bA m 0 r) s'.f0)\/(e=9/\s'.f3=true)):=by
  obtain⟨e',s',w,i,kp,o⟩:=aAs h hL hk a (e:=1) (by decide) (by decide);refine⟨e',s',?_,i.mono (by omega),kp,o⟩;unfold bT;rw [if_neg (by simp)];unfold eJ;rw [if_neg (by simp),if_neg (by show ¬ decide ((250:Int)<=((bA m 0 r).length:Int))=true;rw [eM];simp only [decide_eq_true_eq];omega)];unfold dJ;rw [aMi (λe he=>by cases he) _ (by simp),show WL (⟨(),(dC k m r).f1,(dC k m r).f2⟩:S79).f1 []=([],1) from rfl];simp only [Option.bind_some];rw [if_pos (by decide)];simp only [Option.bind_some];rw [if_neg (by decide)];unfold eK;rw [show (⟨(),(⟨(),(dC k m r).f1,(dC k m r).f2⟩:S79).f1,(⟨(),(dC k m r).f1,(dC k m r).f2⟩:S79).f2⟩:S79)=dC k m r from rfl,show (⟨s.f0,s.f1,s.f2,s.f3,s.f4⟩:S77)=s from rfl,w];rfl
def aMs (f:S26) (m:List S61):Nat->List Nat->Nat
  | _,[]=>0
  | a,b::r=>(if nH f (ckL (pc m a b) 0)=true then (dM (pcs 64 (pc m a b)) 0).countP (nH f) else 0)+aMs f m b r
theorem aRs {f:S26} {es:List S46} {i a b q:Nat} {acc:List S61} (hi:i<es.length) (t:es.length<=250) (hL:Lg k m) (h:s.f3=false) (hs:SI kk s) (hx:es[i]?=some (lM m a b)) (hg:get s.f0 (pX a b)=some (aL1 k m (lM m a b))) (j:a<b) (hb:b<=m.length) (u:acc.length<=a) (v:q<=16 * i) :
    cN ⟨(),k,es⟩ f s acc (q:Int) (i:Int)=some (.inl (acc++((pc m a b).filter (dX f)).map dB,((q+(if nH f (ckL (pc m a b) 0)=true then (dM (pcs 64 (pc m a b)) 0).countP (nH f) else 0):Nat):Int),((i+1:Nat):Int))):=by
  have hm:=hL.le;have d:=hL.seg j hb;have e:=aCd hL.run a b;have hlen:=zW (m:=m) (a:=a) (b:=b) hb;obtain⟨c2,c3⟩:=aGy e (by omega) 0;have o:nH f ⟨0,0,(a:Int),(b:Int) - 1,aGv (pc m a b),aBj (pc m a b),[],[]⟩=nH f (ckL (pc m a b) 0):=by unfold nH aGv aBj;rw [c2,c3,hlen];simp only;rw [show (a:Int)+((b - a:Nat):Int) - 1=(b:Int) - 1 by omega]
  have w:=List.length_filter_le (dX f) (pc m a b);have x:=List.countP_le_length (p:=nH f) (l:=dM (pcs 64 (pc m a b)) 0);have y:=d.cks.2.1;have g:∀ (l:List S61) (n:Int),fM (i:Int) l n=some (.inl (l,n,((i+1:Nat):Int))):=λl n=>by unfold fM;rw [lt_,w64 (by omega) (by omega)];rfl
  unfold cN;rw [if_pos (by simp only [decide_eq_true_eq];omega),bG rfl hx];simp only [Option.bind_some];rw [show (lM m a b).f1=(a:Int) from rfl,show (lM m a b).f2=(b:Int) from rfl,show (lM m a b).f3=aGv (pc m a b) from rfl,show (lM m a b).f4=aBj (pc m a b) from rfl,show (lM m a b).f0=pX a b from rfl,lt_,nN (n:=(b:Int) - 1) (by omega) (by omega),aR9,o];simp only [Option.bind_some];by_cases c:nH f (ckL (pc m a b) 0)=true
  · have z:=aNv a b
    have r:aGm s (pX a b)=(xC (pc m a b) k.toNat,0):=by unfold aGm;rw [if_pos (aC5 (aFz (by omega) (by omega)) h),hg];show ((xC (pc m ((a:Int)).toNat ((b:Int)).toNat) k.toNat),(0:Int))=_;rw [Int.toNat_natCast,Int.toNat_natCast]
    rw [if_pos c,if_neg (by simp [c]),hs.Read (by omega),r];simp only [Option.bind_some];rw [if_neg (by simp),aPl d];simp only [Option.bind_some];rw [if_neg (by simp),aMf d e (by omega)];simp only [Option.bind_some];rw [if_neg (by simp),if_neg (by simp only [bne_iff_ne,ne_eq,Decidable.not_not];omega),show mC (some (yW (pc m a b) k))=some k from rfl];simp only [Option.bind_some];unfold fN;rw [if_neg (by simp),aU7 d];simp only [Option.bind_some];rw [if_neg (by simp),bN (by rw [List.length_map];omega),lt_,w64 (by omega) (by omega),g];rfl
  · rw [if_neg c,if_pos (by simp [c]),g,aN3 (by simpa using c)]
    simp
theorem aKg (f:S26) {es:List S46} (d:es.length<=250) (hL:Lg k m) (g:s.f3=false) (hs:SI kk s) (h:∀ e∈es,get s.f0 e.f0=some (aL1 k m e)):∀ (y:List Nat) (i a q:Nat) (acc:List S61),es.drop i=bA m a y->RiseN a y m.length->acc.length<=a->q<=16 * i->i+y.length=es.length ->
    loop (λt:List S61×Int×Int=>cN ⟨(),k,es⟩ f s t.1 t.2.1 t.2.2) (acc,(q:Int),(i:Int))=some (.inl (acc++((pc m a (eL a y)).filter (dX f)).map dB,((q+aMs f m a y:Nat):Int)))
  | [],i,a,q,acc,hd,hr,ha,hq,hi=>by
    refine bC ?_;show cN ⟨(),k,es⟩ f s acc (q:Int) (i:Int)=_;unfold cN;rw [if_neg (by simp only [decide_eq_true_eq];simp only [List.length_nil] at hi;omega)];have:pc m a (eL a [])=[]:=by unfold pc;rw [show eL a [] - a=0 by show a - a=0;omega,List.take_zero]
    rw [this];simp [aMs]
  | b::y,i,a,q,acc,hd,hr,ha,hq,hi=>by
    rw [List.length_cons] at hi;have hm:=hL.le;have j:=hr.1;have n:=RiseN.end_le hr.2;have hx:es[i]?=some (lM m a b):=by have:=congrArg (λl=>l[0]?) hd;simpa [bA] using this
    have hd':es.drop (i+1)=bA m b y:=by have:=congrArg (List.drop 1) hd;rw [List.drop_drop] at this;simpa [bA] using this
    have o:=(hL.seg j (show b<=m.length by omega)).cks.2.1;have r:=List.countP_le_length (p:=nH f) (l:=dM (pcs 64 (pc m a b)) 0);have u:=List.length_filter_le (dX f) (pc m a b);have hlen:=zW (m:=m) (a:=a) (b:=b) (by omega);rw [cH (b:=λt:List S61×Int×Int=>cN ⟨(),k,es⟩ f s t.1 t.2.1 t.2.2) (aRs (by omega) d hL g hs hx (h _ (List.mem_of_getElem? hx)) j (by omega) ha hq)];rw [aKg f d hL g hs h y (i+1) b _ _ hd' hr.2 (by rw [List.length_append,List.length_map];omega) (by split <;> omega) (by omega)];rw [show eL a (b::y)=eL b y from rfl, ← aO2 (m:=m) (a:=a) (b:=b) (c:=eL b y) (by omega) n.1,List.filter_append,List.map_append,List.append_assoc];rw [show aMs f m a (b::y)=(if nH f (ckL (pc m a b) 0)=true then (dM (pcs 64 (pc m a b)) 0).countP (nH f) else 0)+aMs f m b y from rfl,Nat.add_assoc]
theorem aMh (f:S26) (h:Cv k m r kk s) (hL:Lg k m) (a:s.f3=false):hO (dC k m r) f s=some (((m.take (eL 0 r)).filter (dX f)).map dB,(aMs f m 0 r:Int),0,dC k m r,s):=by have hf:=h.few hL;have:=aKg f (es:=bA m 0 r) (by rw [eM];omega) hL a h.si h.ct.segs r 0 0 0 [] (by rw [List.drop_zero]) h.ri (Nat.le_refl _) (Nat.le_refl _) (by rw [eM];omega);rw [List.nil_append,aG6,Nat.zero_add] at this;unfold hO dC;rw [show (([]:List S61),(0:Int),(0:Int))=([],((0:Nat):Int),((0:Nat):Int)) from rfl,this];rfl
end
section
variable {k:Int} {m:List S61} {r:List Nat} {kk:Nat} {s:S77}
theorem aO3 (hL:Lg k m) {a b:Nat}:∀ e∈pc m a b,(a:Int)<=e.f0/\e.f0<(b:Int) /\ -1099511627776<=e.f2/\e.f2<=1099511627776:=λe he=>by
  obtain⟨i,hi⟩:=List.getElem?_of_mem he;have c:=(aCd hL.run a b).of i e hi;have d:=(List.getElem?_eq_some_iff.1 hi).1;have f:=xS ((aCd hL.run a b).fm e he);have g:(pc m a b).length<=b - a:=by unfold pc;simp;omega
  omega
theorem aVx (hL:Lg k m) {a d n:Nat} (f:a<=d) (g:d<=n):(m.take n).filter (dX ⟨(a:Int),(d:Int),-1099511627776,1099511627776⟩)=pc m a d:=by
  rw [← aG6, ← aO2 (m:=m) (a:=0) (b:=a) (c:=n) (by omega) (by omega), ← aO2 (m:=m) (a:=a) (b:=d) (c:=n) f g,List.filter_append,List.filter_append];rw [aJy (l:=pc m 0 a) (λe he=>by
    have:=aO3 hL e he;unfold dX;simp only [Bool.and_eq_false_iff,decide_eq_false_iff_not];omega)]
  rw [aJy (l:=pc m d n) (λe he=>by
    have:=aO3 hL e he;unfold dX;simp only [Bool.and_eq_false_iff,decide_eq_false_iff_not];omega)]
  rw [List.nil_append,List.append_nil,List.filter_eq_self];intro e he;have:=aO3 hL e he;unfold dX;simp only [Bool.and_eq_true,decide_eq_true_eq];omega
theorem aMa (hr:r.length<=250) {i:Int} (hi:i<0\/(r.length:Int) - 1<=i) (s:S77):bZ (dC k m r) i s=some (1,dC k m r,s):=by
  unfold bZ eI;by_cases c:i<0
  · rw [if_pos (by simpa using c),if_pos rfl]
  · rw [if_neg (by simpa using c),lt_,show ((dC k m r).f2.length:Int)=(r.length:Int) by show ((bA m 0 r).length:Int)=_;rw [eM],w64 (by omega) (by omega),if_pos (by simp only [decide_eq_true_eq];omega)]
theorem aKr {x y:List Nat} {b d:Nat} (h:Cv k m (x++b::d::y) kk s) (hL:Lg k m) (hk:kk+20000<4611686018427387904) (M:s.f3=false) (N:CleanC (bA m 0 (x++b::d::y)) s.f0) :
    ∃ e s' r',bZ (dC k m (x++b::d::y)) (x.length:Int) s=some (e,dC k m r',s')/\Cv k m r' (kk+2000) s'/\Kp s s' /\
      ((e=0/\s'.f3=false/\r'=x++d::y/\CleanC (bA m 0 r') s'.f0)\/(e=9/\s'.f3=true/\(r'=x++b::d::y\/r'=x++d::y))\/(e=10/\s'.f3=false/\r'=x++b::d::y/\CleanC (bA m 0 r') s'.f0)) /\
      (FitC s (szB m.length+(40 * (x++b::d::y).length+40)) 2->e≠10):=by
  obtain⟨r,hr⟩:∃ r,r=x++b::d::y:=⟨_,rfl⟩;obtain⟨r',B⟩:∃ r',r'=x++d::y:=⟨_,rfl⟩;obtain⟨a,C⟩:∃ a,a=eL 0 x:=⟨_,rfl⟩;have hlen:r.length=x.length+(y.length+2):=by rw [hr];simp
  have d0:r'.length=x.length+(y.length+1):=by rw [B];simp
  have hf:=h.few hL;have hle:=hL.le;have O:=h.ri;obtain⟨rx,rb,rd,ry⟩:=RiseN.app.1 O;rw [← C] at rx rb;have a2:RiseN 0 r' m.length:=by rw [B];exact RiseN.app.2 ⟨by rw [← C];exact rx,by rw [← C];omega,ry⟩
  have A:bA m 0 r=bA m 0 x++lM m a b::lM m b d::bA m d y:=by rw [hr,aCx, ← C];rfl
  have P:bA m 0 r'=bA m 0 x++lM m a d::bA m d y:=by rw [B,aCx, ← C];rfl
  have d1:eL 0 r=eL d y:=by rw [hr,aM4];rfl
  have d2:=RiseN.end_le ry;rw [← hr] at h hf N O ⊢;rw [← B];have a3:lM m a d∉bA m 0 r:=λhe=>by
    rw [A] at he;rcases List.mem_append.1 he with he | he
    · obtain⟨u,v,h1,h2,h3,G⟩:=aAc rx _ he
      have h5:=congrArg S46.f2 G;have H:(d:Int)=(v:Int):=h5;omega
    · rcases List.mem_cons.1 he with he | he
      · have H:(d:Int)=(b:Int):=congrArg S46.f2 he
        omega
      · rcases List.mem_cons.1 he with he | he
        · have H:(a:Int)=(b:Int):=congrArg S46.f1 he
          omega
        · obtain⟨u,v,h1,h2,h3,G⟩:=aAc ry _ he
          have H:(a:Int)=(u:Int):=congrArg S46.f1 G;omega
  have a8:∀ e∈bA m 0 r',e=lM m a d\/e∈bA m 0 r:=λe he=>by
    rw [P] at he;rw [A];rcases List.mem_append.1 he with he | he
    · exact .inr (List.mem_append.2 (.inl he))
    · rcases List.mem_cons.1 he with he | he
      · exact .inl he
      · exact .inr (List.mem_append.2 (.inr (List.mem_cons_of_mem _ (List.mem_cons_of_mem _ he))))
  have D:(bA m 0 x).length=x.length:=eM ..;have a9:(bA m d y).length=y.length:=eM ..;have b1:(bA m 0 r).length=r.length:=eM ..;have b2:(bA m 0 r)[x.length]?=some (lM m a b):=by rw [A,List.getElem?_append_right (by omega),D,Nat.sub_self];rfl
  have b3:(bA m 0 r)[x.length+1]?=some (lM m b d):=by rw [A,List.getElem?_append_right (by omega),D,show x.length+1 - x.length=1 by omega];rfl
  have b4:d<=m.length:=by omega
  obtain⟨e1,s1,w1,I⟩:=aP1 (r':=r') (a:=a) (b:=d) (l:=(pc m a d).map dB) h hL (by omega) M N (by omega) b4 (.inr rfl) a2 (by rw [B];simp) a3 a8;have Q:FitC s (szB m.length+(40 * r.length+40)) 2->FitC s (szB (d - a)+(40 * r'.length+40)) 2:=λE=>E.mono (by have:=aFb (a:=d - a) (b:=m.length) (by omega);omega) (Nat.le_refl _);have b6:bZ (dC k m r) (x.length:Int) s=(dJ (dC k m r) ((pc m a d).map dB) s).bind λf=>(if (f.2.1==0)=true then ((jX f.2.2.1.f2 0 (x.length:Int)).bind λY=>(ltt (IntKind.i64.wrap ((x.length:Int)+2)) λZ=>((jX f.2.2.1.f2 Z (f.2.2.1.f2.length:Int)).bind λa0=>((aEn Y [f.1] a0).bind λa1=>((cO f.2.2.1 a1 f.2.2.2).bind λz=>(cL z.2.2.f0 z.2.2.f1 z.2.2.f2 z.2.2.f3 z.2.2.f4 z.2.1.f1 z.2.1.f2 z.1)))))) else (cL f.2.2.2.f0 f.2.2.2.f1 f.2.2.2.f2 f.2.2.2.f3 f.2.2.2.f4 f.2.2.1.f1 f.2.2.1.f2 f.2.1)):=by have R:=aMh (⟨(a:Int),(d:Int),-1099511627776,1099511627776⟩:S26) h hL M;rw [aVx hL (by omega) (by omega)] at R;unfold bZ;rw [if_neg (by simp only [decide_eq_true_eq];omega),lt_,show ((dC k m r).f2.length:Int)=(r.length:Int) by show ((bA m 0 r).length:Int)=_;rw [b1],w64 (by omega) (by omega),show decide ((r.length:Int) - 1<=(x.length:Int))=false by simp only [decide_eq_false_iff_not];omega];unfold eI;rw [if_neg (by simp),show at_ (dC k m r).f2 (x.length:Int)=some (lM m a b) from bG rfl b2,Option.bind_some,lt_,w64 (by omega) (by omega),show at_ (dC k m r).f2 ((x.length:Int)+1)=some (lM m b d) from bG (n:=x.length+1) (by omega) b3,Option.bind_some];unfold iH;rw [show (lM m b d).f2=(d:Int) from rfl,show (lM m a b).f1=(a:Int) from rfl,lt_,nN (by omega) (by omega),if_neg (by simp only [decide_eq_true_eq];omega),R,Option.bind_some,if_neg (by simp)]
  rw [b6,w1,Option.bind_some];rcases I with ⟨c1,S,T,I,t1⟩ | ⟨c1,e2,g,j,w2,J,F,o2,t2⟩
  · rw [if_neg (by simpa using c1)]
    unfold cL;rw [if_neg (by simpa using c1)];unfold cM;rw [show (⟨(),(dC k m r).f1,(dC k m r).f2⟩:S79)=dC k m r from rfl,show (⟨s1.f0,s1.f1,s1.f2,s1.f3,s1.f4⟩:S77)=s1 from rfl];rcases I with ⟨rfl,off⟩ | ⟨rfl,c0⟩
    · rw [wR (.inr rfl)]
      exact⟨9,s1,r,rfl,S.mono (by omega),T,.inr (.inl ⟨rfl,off,.inl rfl⟩),λ_=>by decide⟩
    · obtain⟨e',s',w,i,kp,o⟩:=aAs S hL (by omega) c0 (e:=10) (by decide) (by decide)
      rw [w];refine⟨e',s',r,rfl,i.mono (by omega),Kp.trans T kp,?_,λE=>absurd rfl (t1 (Q E))⟩;rcases o with ⟨p,q,c⟩ | ⟨p,q⟩
      · exact .inr (.inr ⟨p,q,rfl,c⟩)
      · exact .inr (.inl ⟨p,q,.inl rfl⟩)
  · have c2:jX (dC k m r).f2 0 (x.length:Int)=some (bA m 0 x):=by have:=qV (xs:=bA m 0 r) (l:=0) (u:=x.length) (by omega) (by omega);rw [List.drop_zero,A,List.take_left' D, ← A] at this;exact this
    have c3:jX (dC k m r).f2 ((x.length:Int)+2) ((dC k m r).f2.length:Int)=some (bA m d y):=by have:=qV (xs:=bA m 0 r) (l:=x.length+2) (u:=(bA m 0 r).length) (by omega) (by omega);rw [List.take_length] at this;rw [show ((x.length:Int)+2)=((x.length+2:Nat):Int) by omega];refine this.trans ?_;rw [A, ← List.drop_drop,List.drop_left' D];rfl
    have c4:aEn (bA m 0 x) [lM m a d] (bA m d y)=some (bA m 0 r'):=by unfold aEn;rw [bN ⟨by simp,by rw [D,a9];simp only [List.length_singleton];omega⟩,P,List.append_assoc];rfl
    rw [if_pos (by simpa using c1),c2,Option.bind_some,lt_,w64 (by omega) (by omega),c3,Option.bind_some,c4,Option.bind_some,w2,Option.bind_some];have K:∀ e:Int,(e=0\/e=9)->∀ (c:S79) (t:S77),cM t.f0 t.f1 t.f2 t.f3 t.f4 c.f1 c.f2 e=some (e,c,t):=λe he c t=>by unfold cM;rw [show (⟨(),c.f1,c.f2⟩:S79)=c from rfl,show (⟨t.f0,t.f1,t.f2,t.f3,t.f4⟩:S77)=t from rfl,wR he];rfl
    unfold cL;rcases o2 with ⟨rfl,L,rfl,d5⟩ | ⟨rfl,off,rfl⟩ | ⟨rfl,L,rfl⟩
    · obtain⟨e3,U,w3,W,X,_,o3⟩:=aI0 J hL (by omega) L
      rw [if_pos (by simp),show (⟨(),(dC k m j).f1,(dC k m j).f2⟩:S79)=dC k m j from rfl,show (⟨g.f0,g.f1,g.f2,g.f3,g.f4⟩:S77)=g from rfl,w3,Option.bind_some];rcases o3 with ⟨rfl,c7,c8⟩ | ⟨rfl,c9⟩
      · rw [K 0 (.inl rfl)]
        exact⟨0,U,j,rfl,W.mono (by omega),Kp.trans F X,.inl ⟨rfl,c7,rfl,c8⟩,λ_=>by decide⟩
      · rw [K 9 (.inr rfl)]
        exact⟨9,U,j,rfl,W.mono (by omega),Kp.trans F X,.inr (.inl ⟨rfl,c9,.inr rfl⟩),λ_=>by decide⟩
    · rw [if_neg (by simp),K 9 (.inr rfl)]
      exact⟨9,g,j,rfl,J.mono (by omega),F,.inr (.inl ⟨rfl,off,.inl rfl⟩),λ_=>by decide⟩
    · rw [if_neg (by simp)]
      unfold cM;rw [show (⟨(),(dC k m j).f1,(dC k m j).f2⟩:S79)=dC k m j from rfl,show (⟨g.f0,g.f1,g.f2,g.f3,g.f4⟩:S77)=g from rfl];obtain⟨e',s',w,i,kp,o⟩:=aAs J hL (by omega) L (e:=10) (by decide) (by decide);rw [w];refine⟨e',s',j,rfl,i.mono (by omega),Kp.trans F kp,?_,λE=>absurd rfl (t2 (Q E))⟩;rcases o with ⟨p,q,c⟩ | ⟨p,q⟩
      · exact .inr (.inr ⟨p,q,rfl,c⟩)
      · exact .inr (.inl ⟨p,q,.inl rfl⟩)
theorem aSa (h:Cv k m r kk s) (hL:Lg k m) (hk:kk+5000<4611686018427387904) (a:s.f3=false) :
    ∃ e s',pC s k=some (if e=0 then some (dC k m r) else none,e,s')/\Cv k m r (kk+500) s'/\Kp s s'/\(∀ f x,get s'.f0 f=some x->get s.f0 f=some x)/\((e=0/\s'.f3=false/\CleanC (bA m 0 r) s'.f0)\/(e=9/\s'.f3=true)):=by
  have hf:=h.few hL;obtain⟨g,j⟩:1<=k/\k<=8:=⟨hL.k1,hL.k8⟩;obtain⟨e,s',w,i,kp,dd,o⟩:=aI0 h hL hk a;refine⟨e,s',?_,i,kp,dd,o⟩;have d:mO s k (bA m 0 r)=some (if e=0 then some (dC k m r) else none,e,s'):=by
    unfold mO;rw [show (⟨(),k,bA m 0 r⟩:S79)=dC k m r from rfl,w,Option.bind_some];by_cases c:e=0
    · rw [if_neg (by simp [c]),if_pos c,c]
    · rw [if_pos (by simpa using c),if_neg c]
  unfold pC;rw [if_neg (by simp only [decide_eq_true_eq];omega),show decide (8<k)=false by simp only [decide_eq_false_iff_not];omega];unfold pO;rw [if_neg (by simp),show ([99,97,116]:List UInt8)=vF from rfl,h.si.Read (by decide),Option.bind_some];by_cases c:r=[]
  · have b:aGm s vF=([],5):=by unfold aGm;rw [if_pos (aC5 aHl a),h.ct.cat0 c]
    rw [b];subst c;rw [if_pos (by rfl)];exact d
  · have b:aGm s vF=(jK 99 (aEm k (bA m 0 r)),0):=by unfold aGm;rw [if_pos (aC5 aHl a),h.ct.cat c];rfl
    rw [b,if_neg (by simp),if_pos (by simp),aV6 ⟨g,j⟩ (aA1 hL h.ri) (by rw [eM];omega),Option.bind_some,if_neg (by simp)];exact d
end
def zT (k:Int) (m:List S61) (r:List Nat):List S98:=(if r=[] then [] else [aM9 vF (aVf k m r)])++(bA m 0 r).map (aL1 k m)
theorem aHv {m:List S61}:∀ {r:List Nat} {a n:Nat},RiseN a r n->n<=250->((bA m a r).map λe=>e.f0).Nodup
  | [],_,_,_,_=>List.nodup_nil
  | b::r,a,n,h,hn=>by have f:=h.1;have g:=RiseN.end_le h.2;refine List.nodup_cons.2 ⟨λhm=>?_,aHv h.2 hn⟩;obtain⟨e,he,q⟩:=List.mem_map.1 hm;obtain⟨x,y,i,j,k,rfl⟩:=aAc h.2 e he;have:=(aNu (a:=x) (b:=y) (c:=a) (d:=b) (by omega) (by omega) (by omega) (by omega) q).1;omega
theorem zU {α β:Type} (f:α->β):∀ {l:List α},(l.map f).Nodup->l.Nodup
  | [],_=>List.nodup_nil
  | x::l,h=>by obtain⟨a,b⟩:=List.nodup_cons.1 h;exact List.nodup_cons.2 ⟨λhm=>a (List.mem_map.2 ⟨x,hm,rfl⟩),zU f b⟩
section
variable {k:Int} {m:List S61} {r:List Nat} {kk:Nat} {s:S77}
theorem aLd (hL:Lg k m) (hr:RiseN 0 r m.length):(zT k m r).Nodup:=by
  refine zU S98.f0 ?_;have a:=aHv (m:=m) hr hL.le;have b:((bA m 0 r).map (aL1 k m)).map S98.f0=(bA m 0 r).map λe=>e.f0:=by rw [List.map_map];rfl
  unfold zT;rw [List.map_append,b];split
  · exact a
  · refine List.nodup_cons.2 ⟨λhm=>?_,a⟩
    obtain⟨e,he,q⟩:=List.mem_map.1 hm;exact (aE8 (aCy hL hr he).1).2 q
theorem Cv.mem (h:Cv k m r kk s) (hL:Lg k m) (b:CleanC (bA m 0 r) s.f0) (x:S98):x∈s.f0↔x∈zT k m r:=by
  constructor
  · intro hx
    have hg:=aLl h.si.rise hx;have a:=b _ _ hg;unfold zT;rw [List.mem_append];rcases h.dom _ _ hg with e | e | e
    · by_cases c:r=[]
      · rw [e,h.ct.cat0 c] at hg;cases hg
      · rw [e,h.ct.cat c] at hg
        cases hg;rw [if_neg c];exact .inl List.mem_cons_self
    · rw [e,aH5] at a;cases a
    · unfold sZ at a
      rw [e] at a;simp only [Bool.or_eq_false_iff,Bool.true_and,Bool.not_eq_false'] at a;obtain⟨en,he,q⟩:=List.any_eq_true.1 a.2;have d:en.f0=x.f0:=by simpa using q
      rw [← d,h.ct.segs en he] at hg;cases hg;exact .inr (List.mem_map.2 ⟨en,he,rfl⟩)
  · intro hx
    unfold zT at hx;rw [List.mem_append] at hx;rcases hx with hx | hx
    · split at hx
      · cases hx
      · rename_i c
        obtain rfl:=List.mem_singleton.1 hx;exact (xU (h.ct.cat c)).1
    · obtain⟨e,he,rfl⟩:=List.mem_map.1 hx
      exact (xU (h.ct.segs e he)).1
theorem Cv.perm (h:Cv k m r kk s) (hL:Lg k m) (a:CleanC (bA m 0 r) s.f0):s.f0.Perm (zT k m r) :=
  (List.perm_ext_iff_of_nodup (zU S98.f0 (aB7 h.si.rise)) (aLd hL h.ri)).2 λx=>h.mem hL a x
theorem Cv.count (h:Cv k m r kk s) (hL:Lg k m) (a:CleanC (bA m 0 r) s.f0):s.f0.length=(if r=[] then 0 else 1)+r.length:=by rw [(h.perm hL a).length_eq];unfold zT;rw [List.length_append,List.length_map,eM];split <;> rfl
theorem aKh (hL:Lg k m):∀ {r:List Nat} {a:Nat},RiseN a r m.length->used ((bA m a r).map (aL1 k m))<=r.length * szB m.length
  | [],_,_=>Nat.zero_le _
  | b::r,a,h=>by
    have c:=h.1;have d:=RiseN.end_le h.2;have ih:=aKh hL h.2;have hs:=(hL.seg c (show b<=m.length by omega)).size;have hm:=aFb (a:=(pc m a b).length) (b:=m.length) (by rw [zW (by omega)];omega);show used (aL1 k m (lM m a b)::(bA m b r).map (aL1 k m))<=(r.length+1) * _;rw [yD,Nat.add_mul];have e:(aL1 k m (lM m a b)).f1.length=(xC (pc m a b) k.toNat).length:=by show (xC (pc m ((a:Int)).toNat ((b:Int)).toNat) k.toNat).length=_;rw [Int.toNat_natCast,Int.toNat_natCast]
    rw [e];omega
theorem Cv.used (h:Cv k m r kk s) (hL:Lg k m) (a:CleanC (bA m 0 r) s.f0):used s.f0<=40 * r.length+40+r.length * szB m.length:=by
  have hf:=h.few hL;have hu:P.used s.f0=P.used (zT k m r):=by show (s.f0.map λx=>x.f1.length).sum=((zT k m r).map λx=>x.f1.length).sum;exact ((h.perm hL a).map _).sum_nat
  have b:=aKh hL h.ri;rw [hu];unfold zT;rw [uE];have c:P.used (if r=[] then [] else [aM9 vF (aVf k m r)])<=40 * r.length+40:=by
    split
    · exact Nat.zero_le _
    · have:=aMo ⟨hL.k1,hL.k8⟩ (aA1 hL h.ri) (by rw [eM];omega)
      rw [eM] at this;show (aVf k m r).length+0<=_;exact this
  omega
structure Sv (k:Int) (m:List S61) (r:List Nat) (R:Int) (kk:Nat) (s:S77):Prop where
  ctv:Cv k m r kk s
  cl:CleanC (bA m 0 r) s.f0
  f1:s.f1=R
  f2:s.f2=0
  f3:s.f3=false
theorem Sv.mono {R:Int} {a:Nat} (h:Sv k m r R kk s) (hk:kk<=a):Sv k m r R a s:=⟨h.ctv.mono hk,h.cl,h.f1,h.f2,h.f3⟩
theorem aR5 (k:Int) (m:List S61) {R:Int} (h:1<=R) (a:R<=16777216):Sv k m [] R 0 (onS [] R 0) :=
  ⟨⟨aYu h a,⟨λ_=>rfl,λh=>absurd rfl h,λe he=>(by cases he)⟩,λf x hx=>(by cases hx),Nat.zero_le _⟩,λf x hx=>(by cases hx),rfl,rfl,rfl⟩
theorem Sv.fit {R:Int} (h:Sv k m r R kk s) (hL:Lg k m) {c:Nat} (hc:c<=r.length+1) (a:((r.length+1) * szB m.length+80 * (r.length+2):Nat)<=R):FitC s (szB m.length+(40 * c+40)) 2:=by
  have d:=h.ctv.used hL h.cl;have b:=h.ctv.count hL h.cl;have e:=(h.ctv.few hL).1;refine⟨?_,?_⟩
  · rw [h.f1]
    rw [Nat.add_mul] at a;omega
  · rw [b];split <;> omega
theorem aKy {R:Int} {b:Nat} (h:Sv k m r R kk s) (hL:Lg k m) (hk:kk+20000<4611686018427387904) (hr:r.length<200) (d:eL 0 r<b) (hb:b<=m.length) (f:((r.length+1) * szB m.length+80 * (r.length+2):Nat)<=R) :
    ∃ s',bT (dC k m r) (pc m (eL 0 r) b) s=some (0,dC k m (r++[b]),s')/\Sv k m (r++[b]) R (kk+1000) s':=by
  obtain⟨e,s',r',w,C,kp,o,ft⟩:=aQ3 h.ctv hL (by omega) h.f3 h.cl (by omega) d hb;obtain⟨g,i⟩:=kp.2 h.f2 h.f3;rcases o with ⟨rfl,on,rfl,cl⟩ | ⟨rfl,off,_⟩ | ⟨rfl,_⟩
  · exact⟨s',w,C,cl,kp.1.trans h.f1,g,on⟩
  · rw [i] at off;cases off
  · refine absurd rfl (ft ((h.fit hL (c:=r.length+1) (Nat.le_refl _) f).mono ?_ (Nat.le_refl _)))
    have:=aFb (a:=b - eL 0 r) (b:=m.length) (by omega);omega
theorem aKx {R:Int} (h:Sv k m r R kk s) (hL:Lg k m) (hk:kk+20000<4611686018427387904) (hr:r.length<200) :
    ∃ s',bT (dC k m r) [] s=some (1,dC k m r,s')/\Sv k m r R (kk+1000) s':=by
  obtain⟨e,s',w,C,kp,o⟩:=aQ2 h.ctv hL (by omega) h.f3 (by omega);obtain⟨a,b⟩:=kp.2 h.f2 h.f3;rcases o with ⟨rfl,on,cl⟩ | ⟨rfl,off⟩
  · exact⟨s',w,C,cl,kp.1.trans h.f1,a,on⟩
  · rw [b] at off;cases off
theorem aHa {R:Int} {x y:List Nat} {b d:Nat} (h:Sv k m (x++b::d::y) R kk s) (hL:Lg k m) (hk:kk+20000<4611686018427387904)
    (a:(((x++b::d::y).length+1) * szB m.length+80 * ((x++b::d::y).length+2):Nat)<=R) :
    ∃ s',bZ (dC k m (x++b::d::y)) (x.length:Int) s=some (0,dC k m (x++d::y),s')/\Sv k m (x++d::y) R (kk+2000) s':=by
  obtain⟨e,s',r',w,C,kp,o,ft⟩:=aKr h.ctv hL hk h.f3 h.cl;obtain⟨f,g⟩:=kp.2 h.f2 h.f3;rcases o with ⟨rfl,on,rfl,cl⟩ | ⟨rfl,off,_⟩ | ⟨rfl,_⟩
  · exact⟨s',w,C,cl,kp.1.trans h.f1,f,on⟩
  · rw [g] at off;cases off
  · exact absurd rfl (ft (h.fit hL (c:=(x++b::d::y).length) (by omega) a))
theorem aPm {R:Int} (h:Sv k m r R kk s) (hL:Lg k m) (hk:kk+20000<4611686018427387904) :
    ∃ s',pC s k=some (some (dC k m r),0,s')/\Sv k m r R (kk+500) s':=by
  obtain⟨e,s',w,C,kp,_,o⟩:=aSa h.ctv hL (by omega) h.f3;obtain⟨a,b⟩:=kp.2 h.f2 h.f3;rcases o with ⟨rfl,on,cl⟩ | ⟨rfl,off⟩
  · exact⟨s',w,C,cl,kp.1.trans h.f1,a,on⟩
  · rw [b] at off;cases off
theorem aSj (r:List Nat) (i:Nat) (h:i+1<r.length):∃ x b d y,r=x++b::d::y/\x.length=i:=by refine⟨r.take i,r[i],r[i+1],r.drop (i+2),?_,by rw [List.length_take];omega⟩;have a:=List.take_append_drop i r;rw [List.drop_eq_getElem_cons (by omega),List.drop_eq_getElem_cons (by omega)] at a;exact a.symm
end
theorem aIe (a0:List S61) (hg:∀ e∈a0,Gd e) (k:Int):∀ (n i:Nat) (out:List S61),i+n=min a0.length 250->Run k 0 out->out.length<=i ->
    ∃ m,loop (λs:List S61×Int=>nG a0 k s.1 s.2) (out,(i:Int))=some m/\Run k 0 m/\m.length<=250
  | 0,i,out,hi,hr,hl=>by
    refine⟨out,bC ?_,hr,by omega⟩;show nG a0 k out (i:Int)=_;unfold nG rX;by_cases h:i<a0.length
    · rw [if_pos (by simp only [decide_eq_true_eq];omega),show decide ((i:Int)<250)=false by simp only [decide_eq_false_iff_not];omega];rfl
    · rw [if_neg (by simp only [decide_eq_true_eq];omega)];rfl
  | n+1,i,out,hi,hr,hl=>by
    have f:i<a0.length:=by omega
    have hx:=List.getElem?_eq_getElem (l:=a0) (i:=i) f;obtain⟨o,g⟩:=hg _ (List.getElem_mem f);generalize a0[i]=e at hx o g;have a:nG a0 k out (i:Int)=some (.inl (if pW ⟨out.length,e.f1,e.f2,e.f3,e.f4⟩ k=true then out++[⟨out.length,e.f1,e.f2,e.f3,e.f4⟩] else out,((i+1:Nat):Int))):=by
      unfold nG rX;rw [if_pos (by simp only [decide_eq_true_eq];omega),show decide ((i:Int)<250)=true by simp only [decide_eq_true_eq];omega,if_pos rfl,bG rfl hx];simp only [Option.bind_some,lt_];rw [nN (n:=(out.length:Int)) (by omega) (by omega),aT5];simp only [Option.bind_some];split
      · rw [bN (by simp;omega)]
        unfold rW;rw [lt_,w64 (by omega) (by omega)];rfl
      · unfold rW
        rw [lt_,w64 (by omega) (by omega)];rfl
    by_cases hb:pW ⟨out.length,e.f1,e.f2,e.f3,e.f4⟩ k=true
    · rw [if_pos hb] at a
      have p:Run k 0 (out++[⟨out.length,e.f1,e.f2,e.f3,e.f4⟩]):=by
        refine⟨λx hx=>?_,λx hx=>?_,λj x hx=>?_⟩
        · rcases List.mem_append.1 hx with h | h
          · exact hr.fm x h
          · simp at h;subst h;exact hb
        · rcases List.mem_append.1 hx with h | h
          · exact hr.gd x h
          · simp at h;subst h
            exact⟨⟨by show 0<=(out.length:Int);omega,by show (out.length:Int)<_;omega⟩,g⟩
        · rw [List.getElem?_append] at hx
          split at hx
          · exact hr.of j x hx
          · rename_i r
            have q:j=out.length:=by have:=(List.getElem?_eq_some_iff.1 hx).1;simp at this;omega
            subst q;rw [Nat.sub_self] at hx;cases hx;show (out.length:Int)=0+out.length;omega
      obtain⟨m,b,c,d⟩:=aIe a0 hg k n (i+1) _ (by omega) p (by simp;omega);exact⟨m,(cH a).trans b,c,d⟩
    · rw [if_neg hb] at a
      obtain⟨m,b,c,d⟩:=aIe a0 hg k n (i+1) out (by omega) hr (by omega);exact⟨m,(cH a).trans b,c,d⟩
theorem aZk {a0:List S61} (hg:∀ e∈a0,Gd e) {k:Int} (hk:1<=k/\k<=8):∃ m,aAg a0 k=some m/\Lg k m:=by obtain⟨m,a,b,c⟩:=aIe a0 hg k (min a0.length 250) 0 [] (by omega) ⟨λe he=>(by cases he),λe he=>(by cases he),λi x hx=>(by simp at hx)⟩ (Nat.le_refl _);refine⟨m,?_,b,c,hk.1,hk.2⟩;unfold aAg;rw [show (([]:List S61),(0:Int))=([],((0:Nat):Int)) from rfl,a];rfl
section
variable {k:Int} {m:List S61} {r:List Nat} {kk:Nat} {s:S77}
end
def awakeL:List S61:=aCr 20
theorem aQ7:Lg 1 awakeL:=by
  have hl:awakeL.length=20:=by simp [awakeL,aCr]
  refine⟨⟨λe he=>?_,λe he=>?_,λi x hx=>?_⟩,by omega,by omega,by omega⟩
  · obtain⟨i,hi⟩:=List.getElem?_of_mem he
    obtain⟨rfl,h⟩:=aI4 hi;unfold pW;simp only [Bool.and_eq_true,decide_eq_true_eq,List.length_nil];omega
  · obtain⟨i,hi⟩:=List.getElem?_of_mem he
    obtain⟨rfl,h⟩:=aI4 hi;exact⟨⟨by show (0:Int)<=i;omega,by show (i:Int)<_;omega⟩,by show 0<18446744073709551616;omega⟩
  · obtain⟨rfl,h⟩:=aI4 hx
    show (i:Int)=0+i;omega
theorem aMk:loop (λs:List S61×Int=>iP s.1 s.2) ([],0)=some awakeL:=by
  have h:=iC (b:=λs:List S61×Int=>iP s.1 s.2) (λk=>(aCr k,(k:Int))) (t:=awakeL) 20 (λk hk=>by
    show iP (aCr k) (k:Int)=_;have hl:(aCr k).length=k:=by simp [aCr]
    unfold iP;rw [if_pos (by simp only [decide_eq_true_eq];omega),lt_,nN (by omega) (by omega),bN (by rw [hl];simp only [List.length_singleton];omega),lt_,w64 (by omega) (by omega)];unfold aCr;rw [List.range_succ,List.map_append];rfl) (by
    show iP (aCr 20) _=_;unfold iP;rw [if_neg (by simp)];rfl)
  exact h
theorem aQ6:tX=some true:=by
  have hl:awakeL.length=20:=by simp [awakeL,aCr]
  have hL:=aQ7;have hz:szB awakeL.length=8522:=by rw [hl];rfl
  have c1:jX awakeL 0 10=some (pc awakeL 0 10):=by have:=qV (xs:=awakeL) (l:=0) (u:=10) (by omega) (by omega);rw [List.drop_zero, ← aG6] at this;exact this
  have c2:jX awakeL 10 (awakeL.length:Int)=some (pc awakeL 10 20):=by have:=qV (xs:=awakeL) (l:=10) (u:=awakeL.length) (by omega) (by omega);refine this.trans ?_;unfold pc;rw [List.take_length,List.take_of_length_le (by simp;omega)]
  obtain⟨s0,e,v0⟩:=aPm (aR5 1 awakeL (R:=65536) (by decide) (by decide)) hL (by omega);obtain⟨s1,a,f⟩:=aKy (b:=10) v0 hL (by omega) (by simp) (by show 0<10;omega) (by omega) (by rw [hz];decide);obtain⟨i,c,g⟩:=aKy (b:=20) f hL (by omega) (by simp) (by show 10<20;omega) (by omega) (by rw [hz];decide);obtain⟨j,h,v3⟩:=aHa (x:=[]) (b:=10) (d:=20) (y:=[]) g hL (by omega) (by rw [hz];decide);rw [show eL 0 []=0 from rfl] at a;rw [show eL 0 ([]++[10])=10 from rfl] at c;unfold tX;rw [aPj (by decide) (by decide),Option.bind_some,Option.bind_some,e,Option.bind_some,Option.bind_some,if_neg (by simp),aMk,Option.bind_some];unfold rV uZ;rw [c1,Option.bind_some,a,Option.bind_some,if_neg (by simp),c2,Option.bind_some,c,Option.bind_some,if_neg (by simp)];rw [show ([]++[10]++[20]:List Nat)=[]++10::20::[] from rfl,show (0:Int)=((([]:List Nat).length:Nat):Int) from rfl,h,Option.bind_some];unfold oP;rw [if_neg (by simp),show (⟨(),(dC 1 awakeL ([]++20::[])).f1,(dC 1 awakeL ([]++20::[])).f2⟩:S79)=dC 1 awakeL [20] from rfl,wE (by simp),Option.bind_some];rw [if_pos (by rfl),show at_ (bA awakeL 0 [20]) 0=some (lM awakeL 0 20) from rfl,Option.bind_some,if_pos (by rw [show (lM awakeL 0 20).f0=pX 0 20 from rfl];decide +kernel),aK0 (by simp),Option.bind_some];rfl
theorem aT1 {m:List S61} {a b:Nat} (h:a<=b) (hb:b<=m.length):jX m (a:Int) (b:Int)=some (pc m a b):=by rw [qV h hb];unfold pc;rw [List.drop_take]
section
variable {k:Int} {m:List S61} {r:List Nat} {R:Int}
theorem aQl (hL:Lg k m) {n:Nat} (hn:n<=25) (c:700000<=R):((n+1) * szB m.length+80 * (n+2):Nat)<=R:=by have a:szB m.length<=26822:=aFb (b:=250) hL.le;have d:=Nat.mul_le_mul (show n+1<=26 by omega) a;omega
theorem aUj (hL:Lg k m) (hr:r.length<=25) (c:RiseN 0 r m.length) (a:700000<=R) {n:Nat} (hn:eL 0 r+n<=m.length) :
    ∃ e r',((n=0/\e=1/\r'=r)\/(0<n/\e=0/\r'=r++[eL 0 r+n]))/\∀ kk s,Sv k m r R kk s->kk<=1000000000->∃ s',bT (dC k m r) (pc m (eL 0 r) (eL 0 r+n)) s=some (e,dC k m r',s')/\Sv k m r' R (kk+2000) s':=by
  rcases Nat.eq_zero_or_pos n with h0 | h0
  · subst h0
    refine⟨1,r,.inl ⟨rfl,rfl,rfl⟩,λkk s h hk=>?_⟩;obtain⟨s',w,v⟩:=aKx h hL (by omega) (by omega);have:pc m (eL 0 r) (eL 0 r+0)=[]:=by unfold pc;rw [show eL 0 r+0 - eL 0 r=0 by omega,List.take_zero]
    rw [this];exact⟨s',w,v.mono (by omega)⟩
  · refine⟨0,r++[eL 0 r+n],.inr ⟨h0,rfl,rfl⟩,λkk s h hk=>?_⟩
    obtain⟨s',w,v⟩:=aKy (b:=eL 0 r+n) h hL (by omega) (by omega) (by omega) hn (aQl hL hr a);exact⟨s',w,v.mono (by omega)⟩
theorem aMu (hL:Lg k m) (hr:r.length<=25) (a:700000<=R) (i:Int) :
    ∃ e r',(((i<0\/(r.length:Int) - 1<=i)/\e=1/\r'=r)\/(∃ x b d y,r=x++b::d::y/\i=(x.length:Int)/\e=0/\r'=x++d::y))/\∀ kk s,Sv k m r R kk s->kk<=1000000000->∃ s',bZ (dC k m r) i s=some (e,dC k m r',s')/\Sv k m r' R (kk+2000) s':=by
  by_cases c:i<0\/(r.length:Int) - 1<=i
  · exact⟨1,r,.inl ⟨c,rfl,rfl⟩,λkk s h hk=>⟨s,aMa (by omega) c s,h.mono (by omega)⟩⟩
  · obtain⟨n,rfl⟩:∃ n:Nat,i=n:=⟨i.toNat,by omega⟩
    obtain⟨x,b,d,y,rfl,rfl⟩:=aSj r n (by omega);refine⟨0,x++d::y,.inr ⟨x,b,d,y,rfl,rfl,rfl,rfl⟩,λkk s h hk=>?_⟩;obtain⟨s',w,v⟩:=aHa h hL (by omega) (aQl hL hr a);exact⟨s',w,v.mono (by omega)⟩
end
section
variable {m:List S61} {r:List Nat}
theorem bCw {x:Int} (h:gI .u8 x) (n:Nat) (hn:0<n):∃ a:Nat,x.tmod (n:Int)=(a:Int)/\a<n/\a<256:=by obtain⟨c,d⟩:=aUp h;obtain⟨b,rfl⟩:=Int.eq_ofNat_of_zero_le c;refine⟨b % n,rfl,Nat.mod_lt _ hn,Nat.lt_of_le_of_lt (Nat.mod_le _ _) (by omega)⟩
end
section
variable {k:Int} {m:List S61} {r:List Nat}
end
def aJw (f:S26) (m:List S61):Nat->List Nat->Nat
  | _,[]=>0
  | a,b::r=>(dM (pcs 64 (pc m a b)) 0).countP (nH f)+aJw f m b r
theorem aMt (f:S26) (m:List S61):∀ (r:List Nat) (a:Nat),aMs f m a r<=aJw f m a r
  | [],_=>Nat.le_refl _
  | b::r,a=>by have:=aMt f m r b;unfold aMs aJw;split <;> omega
theorem aQ5 (f:S26):sB [] f.f0 f.f1 f.f2 f.f3=some ([],0):=by
  unfold sB;rw [bC (b:=λs:List S61×Int×Int=>iQ [] f.f0 f.f1 f.f2 f.f3 s.1 s.2.1 s.2.2) (t:=([],0)) (by
    show iQ [] f.f0 f.f1 f.f2 f.f3 [] 0 0=_;unfold iQ;rw [if_neg (by simp)])]
  rfl
section
variable {m:List S61} {r:List Nat} {f:S26}
theorem aJx {es:List S46} (c:S79) (e:es.length<=250) (hL:Lg 8 m):∀ (y:List Nat) (i a q:Nat),es.drop i=bA m a y->RiseN a y m.length->q<=16 * i->i+y.length=es.length ->
    loop (λt:Int×Int=>dK f m (es,c) t.1 t.2) ((q:Int),(i:Int))=some ((q+aJw f m a y:Nat):Int)
  | [],i,a,q,hd,hr,hq,hi=>by refine bC ?_;show dK f m (es,c) (q:Int) (i:Int)=_;unfold dK;rw [if_neg (by simp only [decide_eq_true_eq];simp only [List.length_nil] at hi;omega)];rfl
  | b::y,i,a,q,hd,hr,hq,hi=>by
    rw [List.length_cons] at hi;have g:=hr.1;have j:=RiseN.end_le hr.2;have hx:es[i]?=some (lM m a b):=by have:=congrArg (λl=>l[0]?) hd;simpa [bA] using this
    have hd':es.drop (i+1)=bA m b y:=by have:=congrArg (List.drop 1) hd;rw [List.drop_drop] at this;simpa [bA] using this
    have d:=hL.seg g (show b<=m.length by omega);have k:=List.countP_le_length (p:=nH f) (l:=dM (pcs 64 (pc m a b)) 0);have n:=d.cks.2.1;have h:dK f m (es,c) (q:Int) (i:Int)=some (.inl (((q+(dM (pcs 64 (pc m a b)) 0).countP (nH f):Nat):Int),((i+1:Nat):Int))):=by unfold dK;dsimp only;rw [if_pos (by simp only [decide_eq_true_eq];omega),bG rfl hx,Option.bind_some,show (lM m a b).f1=(a:Int) from rfl,show (lM m a b).f2=(b:Int) from rfl,aT1 (by omega) (by omega),Option.bind_some,aJ7 f d,Option.bind_some,lt_,lt_,w64 (by omega) (by omega),w64 (by omega) (by omega)];rfl
    rw [cH (b:=λt:Int×Int=>dK f m (es,c) t.1 t.2) h,aJx c e hL y (i+1) b _ hd' hr.2 (by omega) (by omega),show aJw f m a (b::y)=(dM (pcs 64 (pc m a b)) 0).countP (nH f)+aJw f m b y from rfl,Nat.add_assoc]
theorem aIx {K:Nat} {s:S77} (hL:Lg 8 m) (h:Sv 8 m r 4194304 K s):fJ f m s.f0 s.f1 s.f2 s.f3 s.f4 (dC 8 m r).f1 (dC 8 m r).f2 false=some true:=by
  have hf:=h.ctv.few hL;have hm:=hL.le;have a:=qV (xs:=m) (l:=0) (u:=eL 0 r) (by omega) (by omega);rw [List.drop_zero,show ((0:Nat):Int)=0 from rfl] at a;have hw:∃ n,sB (m.take (eL 0 r)) f.f0 f.f1 f.f2 f.f3=some ((m.take (eL 0 r)).filter (dX f),n):=by
    rcases Nat.eq_zero_or_pos (eL 0 r) with h0 | h0
    · rw [h0,List.take_zero,aQ5]
      exact⟨0,rfl⟩
    · rw [← aG6,aJ7 f (hL.seg h0 (by omega))]
      exact⟨_,rfl⟩
  obtain⟨n,hw⟩:=hw;have b:=aJx (f:=f) (es:=bA m 0 r) (dC 8 m r) (by rw [eM];omega) hL r 0 0 0 (by rw [List.drop_zero]) h.ctv.ri (Nat.le_refl _) (by rw [eM];omega);rw [Nat.zero_add,show ((0:Nat):Int)=0 from rfl] at b;have c:=List.length_filter_le (dX f) (m.take (eL 0 r));have d:(m.take (eL 0 r)).length<=m.length:=by simp;omega
  have e:=aMt f m r 0;unfold fJ;rw [if_neg (by simp),show (⟨(),(dC 8 m r).f1,(dC 8 m r).f2⟩:S79)=dC 8 m r from rfl,show (⟨s.f0,s.f1,s.f2,s.f3,s.f4⟩:S77)=s from rfl,aMh f h.ctv hL h.f3,Option.bind_some,aK0 (by omega),Option.bind_some,a,Option.bind_some,hw,Option.bind_some,wE (by omega),Option.bind_some,b,Option.bind_some];unfold kQ mB;rw [if_pos (by simp),aKw _ (by omega),Option.bind_some,if_pos rfl];congr 1;simp only [decide_eq_true_eq];omega
theorem aUi {K a:Nat} {s:S77} (hL:Lg 8 m) (d:a<256) (hK:K<=100000) (hr:r.length<=25) (h:Sv 8 m r 4194304 K s):jI f (a:Int) m s.f0 s.f1 s.f2 s.f3 s.f4 (dC 8 m r).f1 (dC 8 m r).f2=some true:=by
  unfold jI;split
  · rw [show (⟨(),(dC 8 m r).f1,(dC 8 m r).f2⟩:S79)=dC 8 m r from rfl,show (⟨s.f0,s.f1,s.f2,s.f3,s.f4⟩:S77)=s from rfl,wE (by omega),Option.bind_some,eM]
    by_cases c:1<r.length
    · rw [if_pos (by simp only [decide_eq_true_eq];omega),lt_,w64 (n:=(a:Int)) (by omega) (by omega),wE (by omega),Option.bind_some,lt_,eM,w64 (by omega) (by omega),bN (by omega),lt_,show (r.length:Int) - 1=((r.length - 1:Nat):Int) by omega,show (a:Int).tmod ((r.length - 1:Nat):Int)=((a % (r.length - 1):Nat):Int) from rfl]
      have g:=Nat.mod_lt a (show r.length - 1>0 by omega);obtain⟨e,r',hc,b⟩:=aMu (r:=r) (R:=4194304) hL (by omega) (by decide) ((a % (r.length - 1):Nat):Int);obtain⟨s',ws,vs⟩:=b _ s h (by omega);rw [ws,Option.bind_some];rcases hc with ⟨hc,_⟩ | ⟨_,_,_,_,_,_,rfl,_⟩
      · omega
      · exact aIx hL vs
    · rw [if_neg (by simp only [decide_eq_true_eq];omega)]
      exact aIx hL h
  · exact aIx hL h
abbrev ScS:=List S98×Int×Int×Bool×Int×Int×List S46
def scT (s:S77) (c:S79):ScS:=(s.f0,s.f1,s.f2,s.f3,s.f4,c.f1,c.f2)
noncomputable abbrev scL (ns:List Int) (m:List S61) (s:S77) (c:S79) (i:Int) :=
  loop (λs=>eF ns m s.1 s.2.1 s.2.2.1 s.2.2.2.1 s.2.2.2.2.1 s.2.2.2.2.2.1 s.2.2.2.2.2.2.1 s.2.2.2.2.2.2.2) (s.f0,s.f1,s.f2,s.f3,s.f4,c.f1,c.f2,i)
theorem aIy {ns:List Int} (hg:∀ n∈ns,gI .u8 n) (g:ns.length<=12) (hL:Lg 8 m):∀ (n i:Nat) (r:List Nat) (s:S77),i+n=ns.length->r.length<=i->Sv 8 m r 4194304 (3000 * i+1000) s ->
    ∃ r' s',scL ns m s (dC 8 m r) (i:Int)=some (.inl (scT s' (dC 8 m r')))/\r'.length<=12/\Sv 8 m r' 4194304 90000 s'
  | 0,i,r,s,hi,hr,hs=>by refine⟨r,s,bC ?_,by omega,hs.mono (by omega)⟩;show eF ns m s.f0 s.f1 s.f2 s.f3 s.f4 (dC 8 m r).f1 (dC 8 m r).f2 (i:Int)=_;unfold eF;rw [if_neg (by simp only [decide_eq_true_eq];omega)];rfl
  | n+1,i,r,s,hi,hr,hs=>by
    have hf:=hs.ctv.few hL;have hm:=hL.le;have f:i<ns.length:=by omega
    have hx:=List.getElem?_eq_getElem f;obtain⟨n1,d,b1,_⟩:=bCw (hg _ (List.getElem_mem f)) 90 (by decide);rw [show ((90:Nat):Int)=90 from rfl] at d;generalize ns[i]=v at hx d;have h:IntKind.u8.wrap (1+(n1:Int))=((1+n1:Nat):Int):=by rw [u8w (by omega) (by omega)];rfl
    have hl:∀ y,(if (m.length:Int) - (eL 0 r:Int)<((1+n1:Nat):Int) then some (.inr (.inl (scT s (dC 8 m r)))) else (jX m ((eL 0 r:Nat):Int) ((eL 0 r:Int)+((1+n1:Nat):Int))).bind λl=>(bT (dC 8 m r) l s).bind λa=>(if (a.1 != 0)=true then (some (.inr (.inr false))) else (some (.inl (a.2.2.f0,a.2.2.f1,a.2.2.f2,a.2.2.f3,a.2.2.f4,a.2.1.f1,a.2.1.f2,((i+1:Nat):Int))))))=y->eF ns m s.f0 s.f1 s.f2 s.f3 s.f4 (dC 8 m r).f1 (dC 8 m r).f2 (i:Int)=y:=by
      intro y b;unfold eF;rw [if_pos (by simp only [decide_eq_true_eq];omega),bG rfl hx,Option.bind_some,lt_,d,lt_,h,lt_,nN (n:=((1+n1:Nat):Int)) (by omega) (by omega),show (⟨(),(dC 8 m r).f1,(dC 8 m r).f2⟩:S79)=dC 8 m r from rfl,show (⟨s.f0,s.f1,s.f2,s.f3,s.f4⟩:S77)=s from rfl,aK0 (by omega),Option.bind_some,lt_,nN (n:=(m.length:Int)) (by omega) (by omega),lt_,nN (n:=(m.length:Int) - (eL 0 r:Int)) (by omega) (by omega)];by_cases c:(m.length:Int) - (eL 0 r:Int)<((1+n1:Nat):Int)
      · rw [if_pos c] at b
        rw [if_pos (by simpa using c), ← b];rfl
      · rw [if_neg c] at b
        simp only [lt_];rw [if_neg (by simp only [decide_eq_true_eq];omega),nN (by omega) (by omega),w64 (by omega) (by omega), ← b];rfl
    by_cases c:(m.length:Int) - (eL 0 r:Int)<((1+n1:Nat):Int)
    · exact⟨r,s,bC (hl _ (if_pos c)),by omega,hs.mono (by omega)⟩
    · have hn:eL 0 r+(1+n1)<=m.length:=by omega
      obtain⟨e,r',hc,j⟩:=aUj (R:=4194304) hL (by omega) hs.ctv.ri (by decide) hn;obtain⟨s',ws,vs⟩:=j _ s hs (by omega);rcases hc with ⟨hc,_⟩ | ⟨_,rfl,rfl⟩
      · omega
      have k:jX m ((eL 0 r:Nat):Int) ((eL 0 r:Int)+((1+n1:Nat):Int))=some (pc m (eL 0 r) (eL 0 r+(1+n1))):=aT1 (Nat.le_add_right _ _) hn;obtain⟨o,p,q,t,u⟩:=aIy hg g hL n (i+1) _ s' (by omega) (by rw [List.length_append,List.length_singleton];omega) (vs.mono (by omega));refine⟨o,p,(cH (hl _ ?_)).trans q,t,u⟩;rw [if_neg c,k,Option.bind_some,ws,Option.bind_some,if_neg (by simp)]
end
theorem CatalogScans (a0:List S61) (a:List Int) (a2:S26) (a3:Int) (h0:gL 48 g61 a0) (d:gL 1 (gI .u8) a) (f:g26 a2) (b:gI .u8 a3):lT a0 a a2 a3=some true:=by
  obtain⟨n3,rfl⟩:=Int.eq_ofNat_of_zero_le (aUp b).1;have g:=(aUp b).2;obtain⟨m,hm,hL⟩:=aZk (bB3 h0) (k:=8) (by decide);obtain⟨s0,e,v0⟩:=aPm (aR5 8 m (R:=4194304) (by decide) (by decide)) hL (by omega);unfold lT jJ;rw [aQ6,Option.bind_some,if_neg (by simp)];by_cases c:12<a.length
  · rw [if_pos (by simp only [decide_eq_true_eq];omega)]
    rfl
  obtain⟨r,s,w,l,v⟩:=aIy d.2 (by omega) hL a.length 0 [] s0 (by omega) (Nat.le_refl _) (v0.mono (by omega));unfold scL at w;rw [show ((0:Nat):Int)=0 from rfl] at w;rw [if_neg (by simp only [decide_eq_true_eq];omega),hm,Option.bind_some,aPj (by decide) (by decide),Option.bind_some,Option.bind_some,e,Option.bind_some,Option.bind_some,w,Option.bind_some];exact aUi hL (by omega) (by omega) (by omega) v
end Go.Proofs.YtdkpjpoajlmmfaaGreatDoor.P
