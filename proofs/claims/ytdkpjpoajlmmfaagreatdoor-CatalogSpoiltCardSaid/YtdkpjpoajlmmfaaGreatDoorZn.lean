/- Texts of the claim, joined: what it uses of Wg, Wh, Wi, Wj, Wk, Wl, Wm, Wn. -/
import Derived.Test.YtdkpjpoajlmmfaaGreatDoorZm
namespace Go.Proofs.YtdkpjpoajlmmfaaGreatDoor.P
open Go Go.RowKit Go.Proofs.YtdkpjpoajlmmfaaGreatDoor.E Go.Proofs.YtdkpjpoajlmmfaaGreatDoor.M
set_option linter.unusedVariables false
set_option linter.unusedSectionVars false
def gQ (k:Int) (m:List S61) (r:List Nat):S79:=⟨(),k,aY m 0 r⟩
structure Cv (k:Int) (m:List S61) (r:List Nat) (kk:Nat) (s:S77):Prop where
  si:SI kk s
  ct:Ct k m r s.f0
  dom:aZg s.f0
  ri:RiseN 0 r m.length
theorem Cv.mono {k:Int} {m:List S61} {r:List Nat} {kk a:Nat} {s:S77} (h:Cv k m r kk s) (hk:kk<=a):Cv k m r a s:=⟨h.si.mono hk,h.ct,h.dom,h.ri⟩
section
variable {k:Int} {m:List S61} {r:List Nat} {kk:Nat} {s:S77}
theorem Cv.few (h:Cv k m r kk s) (hL:Lg k m):r.length<=250/\jG 0 r<=250/\r.length<=jG 0 r/\jG 0 r<=m.length:=by have a:=RiseN.len h.ri;have b:=RiseN.end_le h.ri;have:=hL.le;omega
theorem aIj (h:Cv k m r kk s) (hL:Lg k m) (hk:kk+5000<4611686018427387904) (a:s.f3=false) :
    ∃ e s',dD (gQ k m r) s=some (e,gQ k m r,s')/\Cv k m r (kk+500) s'/\Kp s s'/\(∀ f x,get s'.f0 f=some x->get s.f0 f=some x)/\((e=0/\s'.f3=false/\CleanC (aY m 0 r) s'.f0)\/(e=9/\s'.f3=true)):=by
  have hf:=h.few hL;obtain⟨e,s',w,i,kp,g,d,u,o⟩:=aF8 h.si (by omega) a (gQ k m r) (by show (aY m 0 r).length<=1000000; rw [fG]; omega);exact⟨e,s',w,⟨i,h.ct.of λf hf=>g f (zD hL h.ri hf),λf x hx=>h.dom f x (d f x hx),h.ri⟩,kp,d,o⟩
theorem aCt (h:Cv k m r kk s) (hL:Lg k m) (hk:kk+5000<4611686018427387904) (c:s.f3=false) {e:Int} (h0:e≠0) (g:e≠9) :
    ∃ e' s',dH (gQ k m r) e s=some (e',gQ k m r,s')/\Cv k m r (kk+500) s'/\Kp s s'/\((e'=e/\s'.f3=false/\CleanC (aY m 0 r) s'.f0)\/(e'=9/\s'.f3=true)):=by
  obtain⟨f,s',w,i,kp,d,o⟩:=aIj h hL hk c;refine⟨_,s',aOa h0 g w,i,kp,?_⟩;rcases o with ⟨rfl,a,b⟩ | ⟨rfl,a⟩
  · exact .inl ⟨rfl,a,b⟩
  · exact .inr ⟨rfl,a⟩
theorem aPq {r':List Nat} {a b:Nat} {l:List S61} (h:Cv k m r kk s) (hL:Lg k m) (hk:kk+5000<4611686018427387904) (B:s.f3=false) (u:CleanC (aY m 0 r) s.f0)
    (C:a<b) (hb:b<=m.length) (hl:l=pc m a b\/l=(pc m a b).map dI) (n:RiseN 0 r' m.length) (R:r'≠[]) (S:iQ m a b∉aY m 0 r) (T:∀ e∈aY m 0 r',e=iQ m a b\/e∈aY m 0 r) :
    ∃ i s1,eB (gQ k m r) l s=some (iQ m a b,i,gQ k m r,s1) /\
      ((i≠0/\Cv k m r (kk+10) s1/\Kp s s1/\(i=9/\s1.f3=true\/i=10/\s1.f3=false)/\(FitC s (szB (b - a)+(40 * r'.length+40)) 2->i≠10)) \/
        (i=0/\∃ j g o,cY (gQ k m r) (aY m 0 r') s1=some (j,gQ k m o,g)/\Cv k m o (kk+10) g/\Kp s g /\
          ((j=0/\g.f3=false/\o=r'/\∀ f x,get g.f0 f=some x->f=oB\/f=kJ a b\/sU (aY m 0 r) f=false)\/(j=9/\g.f3=true/\o=r)\/(j=10/\g.f3=false/\o=r))/\(FitC s (szB (b - a)+(40 * r'.length+40)) 2->j≠10))):=by
  have hf:=h.few hL;have hle:=hL.le;have v:Seg k l:=hl.elim (λe=>by rw [e]; exact hL.seg C hb) (λe=>by rw [e]; exact (hL.seg C hb).back);have U:Run k a l:=hl.elim (λe=>by rw [e]; exact yJ hL.run a b) (λe=>by rw [e]; exact (yJ hL.run a b).back);have hlen:l.length=b - a:=hl.elim (λe=>(congrArg List.length e).trans (wV hb)) (λe=>(congrArg List.length e).trans ((List.length_map ..).trans (wV hb)));have W:qS l k.toNat=qS (pc m a b) k.toNat:=hl.elim (λe=>by rw [e]) (λe=>by rw [e]; exact aQ8 _ _);have X:(⟨kJ a b,(a:Int),(b:Int),aDb l,wZ l⟩:S46)=iQ m a b:=by
    rcases hl with rfl | rfl
    · rfl
    · unfold aDb wZ iQ; rw [aEl]; rfl
  have Y:=v.size;rw [hlen] at Y;have D:=aTy h.ri hle (show a<1000 by omega) (show b<1000 by omega) S;have gN:get s.f0 (kJ a b)=none:=u.none D;have gT:get s.f0 qO=none:=u.none (aG0 _);have Z:sL (kJ a b)=true:=aC1 (by omega) (by omega);have E:=aC3 (aAi a b);have F:∀ e∈aY m 0 r,e.f0≠kJ a b:=λe he q=>by have:=zD hL h.ri (.inr ⟨e,he,rfl⟩);rw [q,D] at this;cases this
  obtain⟨i,s1,w1,G,w,p,H,t1⟩:=aJn h.si (by omega) B (gQ k m r) Z gN v.bytes.1;have pr:∀ f,aS0 m r f->f≠kJ a b:=λf hf=>by
    rcases hf with rfl | ⟨e,he,rfl⟩
    · exact E.2.symm
    · exact F e he
  have I:aZg s1.f0:=λf x hx=>by
    by_cases c:f=kJ a b
    · exact .inr (.inr (by rw [c]; exact aAi a b))
    · rw [p f c] at hx
      exact h.dom f x hx
  refine⟨i,s1,?_,?_⟩
  · have:=aSx v U (b:=b) (by omega) (by omega) (aY m 0 r) s
    rw [show (⟨(),k,aY m 0 r⟩:S79)=gQ k m r from rfl,w1] at this;rw [this];simp only [Option.bind_some];rw [X]
  have J:Cv k m r (kk+10) s1:=⟨G.mono (by omega),h.ct.of λf hf=>p f (pr f hf),I,h.ri⟩;have K:FitC s (szB (b - a)+(40 * r'.length+40)) 2->i≠10/\(i=0->FitC s1 (40 * r'.length+40) 1):=λhf=>t1 _ 1 (hf.mono (by omega) (by omega));by_cases c1:i=0
  rotate_left
  · refine .inl ⟨c1,J,w,?_,λhf=>(K hf).1⟩
    rcases H with ⟨a,_⟩ | a | ⟨a,b⟩
    · exact absurd a c1
    · exact .inl a
    · exact .inr ⟨a,by rw [b]; exact B⟩
  refine .inr ⟨c1,?_⟩;obtain⟨a2,v1⟩:s1.f3=false/\get s1.f0 (kJ a b)=some (aIz (kJ a b) (qS l k.toNat)):=by
    rcases H with ⟨_,a,b⟩ | ⟨a,_⟩ | ⟨a,_⟩
    · exact⟨a,b⟩
    · rw [c1] at a; cases a
    · rw [c1] at a; cases a
  have a4:r'.length<=250:=by have h1:=RiseN.len n;have h2:=RiseN.end_le n;omega
  obtain⟨j,g,y,L,M,z,t,t2⟩:=aK9 G (by omega) a2 ⟨hL.k1,hL.k8⟩ (old:=aY m 0 r) (vF hL n) (by rw [fG]; exact a4) ((p _ E.1.symm).trans gT);rw [fG] at t2;have N:aZg g.f0:=λf x hx=>by
    by_cases c:f=oB
    · exact .inl c
    by_cases d:f=qO
    · exact .inr (.inl d)
    rw [z f d c] at hx;exact I f x hx
  have O:∀ f,wX f=true->get g.f0 f=get s1.f0 f:=λf hf=>z f (aC3 hf).1 (aC3 hf).2;have P:FitC s (szB (b - a)+(40 * r'.length+40)) 2->j≠10:=λhf=>t2 ((K hf).2 c1);rcases t with ⟨rfl,a5,A,n2⟩ | ⟨t,A⟩
  · refine⟨0,g,r',y,⟨L.mono (by omega),⟨λe=>absurd e R,λ_=>A,λe he=>?_⟩,N,n⟩,Kp.trans w M,.inl ⟨rfl,a5,rfl,λf x hx=>?_⟩,P⟩
    · rw [O _ (aC2 hL n he).1]
      rcases T e he with rfl | Q
      · rw [show (iQ m a b).f0=kJ a b from rfl,v1,W]
        rfl
      · rw [p _ (F e Q)]
        exact h.ct.segs e Q
    · by_cases c:f=oB
      · exact .inl c
      by_cases d:f=qO
      · rw [d,n2] at hx; cases hx
      by_cases e:f=kJ a b
      · exact .inr (.inl e)
      rw [z f d c,p f e] at hx;exact .inr (.inr (u f x hx))
  · have hz:j≠0:=by rcases t with ⟨a,_⟩ | ⟨a,_⟩ <;> rw [a] <;> decide
    rw [if_neg hz] at y;refine⟨j,g,r,y,⟨L.mono (by omega),J.ct.of λf hf=>?_,N,h.ri⟩,Kp.trans w M,.inr ?_,P⟩
    · rcases hf with rfl | ⟨e,he,rfl⟩
      · exact A
      · exact O _ (aC2 hL h.ri he).1
    · rcases t with ⟨a,b⟩ | ⟨a,b⟩
      · exact .inl ⟨a,b,rfl⟩
      · exact .inr ⟨a,b,rfl⟩
theorem aS1 (h:r.length<=250):fR (gQ k m r)=some ((jG 0 r:Int),gQ k m r):=by rw [aXt _ (by show (aY m 0 r).length<_; rw [fG]; omega)];rw [show aBe (gQ k m r).f2=aBe (aY m 0 r) from rfl,aRm]
theorem aFs (h:r.length<=250):eK (gQ k m r)=some (aY m 0 r,gQ k m r):=aNp _ (by show (aY m 0 r).length<=_; rw [fG]; omega)
theorem aNo {x y:Nat} (hr:RiseN 0 r m.length) (he:iQ m x y∈aY m 0 r):y<=jG 0 r:=by
  have key:∀ (r:List Nat) (a:Nat),RiseN a r (jG a r)->∀ e∈aY m a r,e.f2<=(jG a r:Int):=by intro r a h e he;obtain⟨x,y,_,_,b,rfl⟩:=wJ h e he;show (y:Int)<=_;omega
  have c:RiseN 0 r (jG 0 r):=by have:=(RiseN.app (r:=r) (s:=[]) (a:=0) (n:=m.length)).1 (by rw [List.append_nil]; exact hr);exact this.1
  have:=key r 0 c _ he;have b:(iQ m x y).f2=(y:Int):=rfl;omega
theorem aQt {b:Nat} (h:Cv k m r kk s) (hL:Lg k m) (hk:kk+10000<4611686018427387904) (B:s.f3=false) (C:CleanC (aY m 0 r) s.f0) (hr:r.length<250) (u:jG 0 r<b) (hb:b<=m.length) :
    ∃ e s' r',dK (gQ k m r) (pc m (jG 0 r) b) s=some (e,gQ k m r',s')/\Cv k m r' (kk+1000) s'/\Kp s s' /\
      ((e=0/\s'.f3=false/\r'=r++[b]/\CleanC (aY m 0 r') s'.f0)\/(e=9/\s'.f3=true/\r'=r)\/(e=10/\s'.f3=false/\r'=r/\CleanC (aY m 0 r) s'.f0)) /\
      (FitC s (szB (b - jG 0 r)+(40 * (r.length+1)+40)) 2->e≠10):=by
  have hf:=h.few hL;have hle:=hL.le;have M:(pc m (jG 0 r) b).length=b - jG 0 r:=wV hb;have hx:=List.getElem?_eq_getElem (l:=pc m (jG 0 r) b) (i:=0) (by omega);have N:=(yJ hL.run (jG 0 r) b).of 0 _ hx;have D:iQ m (jG 0 r) b∉aY m 0 r:=λhe=>by have:=aNo h.ri he;omega
  have v:RiseN 0 (r++[b]) m.length:=RiseN.app.2 ⟨((RiseN.app (s:=[])).1 (by rw [List.append_nil]; exact h.ri)).1,u,hb⟩;have j:aY m 0 (r++[b])=aY m 0 r++[iQ m (jG 0 r) b]:=by rw [aCm]; rfl
  obtain⟨O,s1,E,n⟩:=aPq (r':=r++[b]) h hL (by omega) B C u hb (.inl rfl) v (by simp) D (λe he=>by
    rw [j] at he;rcases List.mem_append.1 he with he | he
    · exact .inr he
    · exact .inl (List.mem_singleton.1 he))
  rw [List.length_append,List.length_singleton] at n;have F:dK (gQ k m r) (pc m (jG 0 r) b) s=fO (pc m (jG 0 r) b) s k (aY m 0 r) false:=by unfold dK;rw [if_pos (by simp only [decide_eq_true_eq]; omega),show at_ (pc m (jG 0 r) b) 0=_ from hx];simp only [Option.bind_some];rw [aS1 (by omega)];simp only [Option.bind_some];rw [show ((pc m (jG 0 r) b)[0].f0 != (jG 0 r:Int))=false by simp only [bne_eq_false_iff_eq]; omega];rfl
  rw [F];unfold fO;rw [if_neg (by simp),if_neg (by rw [fG]; simp only [decide_eq_true_eq]; omega),show (⟨(),k,aY m 0 r⟩:S79)=gQ k m r from rfl,E];simp only [Option.bind_some];rcases n with ⟨c1,y,A,n,G⟩ | ⟨c1,P,d,g,H,p,q,I,t2⟩
  · rw [if_neg (by simpa using c1)]
    unfold fN;rw [show (⟨(),(gQ k m r).f1,(gQ k m r).f2⟩:S79)=gQ k m r from rfl,show (⟨s1.f0,s1.f1,s1.f2,s1.f3,s1.f4⟩:S77)=s1 from rfl];rcases n with ⟨rfl,off⟩ | ⟨rfl,J⟩
    · rw [wK (.inr rfl)]
      exact⟨9,s1,r,rfl,y.mono (by omega),A,.inr (.inl ⟨rfl,off,rfl⟩),λ_=>by decide⟩
    · obtain⟨e',s',w,i,kp,o⟩:=aCt y hL (by omega) J (e:=10) (by decide) (by decide)
      rw [w];refine⟨e',s',r,rfl,i.mono (by omega),Kp.trans A kp,?_,λhf=>absurd rfl (G hf)⟩;rcases o with ⟨a,b,c⟩ | ⟨a,b⟩
      · exact .inr (.inr ⟨a,b,rfl,c⟩)
      · exact .inr (.inl ⟨a,b,rfl⟩)
  · rw [if_pos (by simpa using c1)]
    have K:bM (gQ k m r).f2=some (aY m 0 r):=by
      have:=aFs (k:=k) (m:=m) (r:=r) (by omega);unfold eK at this;cases hq:bM (gQ k m r).f2 with
      | none=>rw [hq] at this; cases this
      | some z=>rw [hq] at this; simp only [Option.bind_some,Option.some.injEq,Prod.mk.injEq] at this; rw [this.1]
    rw [K];simp only [Option.bind_some];rw [bL (by rw [fG]; simp only [List.length_singleton]; omega), ← j,H];simp only [Option.bind_some];unfold fN;rw [show (⟨(),(gQ k m g).f1,(gQ k m g).f2⟩:S79)=gQ k m g from rfl,show (⟨d.f0,d.f1,d.f2,d.f3,d.f4⟩:S77)=d from rfl];rcases I with ⟨rfl,t,rfl,L⟩ | ⟨rfl,off,rfl⟩ | ⟨rfl,t,rfl⟩
    · rw [wK (.inl rfl)]
      refine⟨0,d,r++[b],rfl,p.mono (by omega),q,.inl ⟨rfl,t,rfl,λf x hx=>?_⟩,λ_=>by decide⟩;rcases L f x hx with rfl | rfl | hg
      · exact aJe _
      · exact zD hL v (.inr ⟨iQ m (jG 0 r) b,by rw [j]; simp,rfl⟩)
      · rw [j]
        unfold sU at hg ⊢;rw [List.any_append];cases hq:(f==qO) with
        | true=>rw [hq] at hg; cases hg
        | false =>
          rw [hq] at hg;cases hs:wX f with
          | false=>rfl
          | true =>
            rw [hs] at hg;simp only [Bool.false_or,Bool.true_and,Bool.not_eq_false'] at hg ⊢;rw [hg,Bool.true_or]
    · rw [wK (.inr rfl)]
      exact⟨9,d,g,rfl,p.mono (by omega),q,.inr (.inl ⟨rfl,off,rfl⟩),λ_=>by decide⟩
    · obtain⟨e',s',w,i,kp,o⟩:=aCt p hL (by omega) t (e:=10) (by decide) (by decide)
      rw [w];refine⟨e',s',g,rfl,i.mono (by omega),Kp.trans q kp,?_,λhf=>absurd rfl (t2 hf)⟩;rcases o with ⟨a,b,c⟩ | ⟨a,b⟩
      · exact .inr (.inr ⟨a,b,rfl,c⟩)
      · exact .inr (.inl ⟨a,b,rfl⟩)
def aRi (f:S26) (m:List S61):Nat->List Nat->Nat
  | _,[]=>0
  | a,b::r=>(if qX f (ckL (pc m a b) 0)=true then (dR (pcs 64 (pc m a b)) 0).countP (qX f) else 0)+aRi f m b r
theorem aJq {f:S26} {es:List S46} {i a b q:Nat} {acc:List S61} (hi:i<es.length) (t:es.length<=250) (hL:Lg k m) (h:s.f3=false) (hs:SI kk s) (hx:es[i]?=some (iQ m a b)) (hg:get s.f0 (kJ a b)=some (aFl k m (iQ m a b))) (j:a<b) (hb:b<=m.length) (u:acc.length<=a) (v:q<=16 * i) :
    bB ⟨(),k,es⟩ f s acc (q:Int) (i:Int)=some (.inl (acc++((pc m a b).filter (jB f)).map dI,((q+(if qX f (ckL (pc m a b) 0)=true then (dR (pcs 64 (pc m a b)) 0).countP (qX f) else 0):Nat):Int),((i+1:Nat):Int))):=by
  have hm:=hL.le;have d:=hL.seg j hb;have e:=yJ hL.run a b;have hlen:=wV (m:=m) (a:=a) (b:=b) hb;obtain⟨c2,c3⟩:=aEs e (by omega) 0;have o:qX f ⟨0,0,(a:Int),(b:Int) - 1,aDb (pc m a b),wZ (pc m a b),[],[]⟩=qX f (ckL (pc m a b) 0):=by unfold qX aDb wZ;rw [c2,c3,hlen];simp only;rw [show (a:Int)+((b - a:Nat):Int) - 1=(b:Int) - 1 by omega]
  have w:=List.length_filter_le (jB f) (pc m a b);have x:=List.countP_le_length (p:=qX f) (l:=dR (pcs 64 (pc m a b)) 0);have y:=d.cks.2.1;have g:∀ (l:List S61) (n:Int),fM (i:Int) l n=some (.inl (l,n,((i+1:Nat):Int))):=λl n=>by unfold fM;rw [lt_,w64 (by omega) (by omega)];rfl
  unfold bB;rw [if_pos (by simp only [decide_eq_true_eq]; omega),bE rfl hx];simp only [Option.bind_some];rw [show (iQ m a b).f1=(a:Int) from rfl,show (iQ m a b).f2=(b:Int) from rfl,show (iQ m a b).f3=aDb (pc m a b) from rfl,show (iQ m a b).f4=wZ (pc m a b) from rfl,show (iQ m a b).f0=kJ a b from rfl,lt_,oM (n:=(b:Int) - 1) (by omega) (by omega),aLp,o];simp only [Option.bind_some];by_cases c:qX f (ckL (pc m a b) 0)=true
  · have z:=aHk a b
    have r:xB s (kJ a b)=(qS (pc m a b) k.toNat,0):=by unfold xB;rw [if_pos (vZ (aC1 (by omega) (by omega)) h),hg];show ((qS (pc m ((a:Int)).toNat ((b:Int)).toNat) k.toNat),(0:Int))=_;rw [Int.toNat_natCast,Int.toNat_natCast]
    rw [if_pos c,if_neg (by simp [c]),hs.Read (by omega),r];simp only [Option.bind_some];rw [if_neg (by simp),aQg d];simp only [Option.bind_some];rw [if_neg (by simp),aG5 d e (by omega)];simp only [Option.bind_some];rw [if_neg (by simp),if_neg (by simp only [bne_iff_ne,ne_eq,Decidable.not_not]; omega),show hG (some (yM (pc m a b) k))=some k from rfl];simp only [Option.bind_some];unfold cJ;rw [if_neg (by simp),aVl d];simp only [Option.bind_some];rw [if_neg (by simp),bL (by rw [List.length_map]; omega),lt_,w64 (by omega) (by omega),g];rfl
  · rw [if_neg c,if_pos (by simp [c]),g,aM7 (by simpa using c)]
    simp
theorem aKb (f:S26) {es:List S46} (d:es.length<=250) (hL:Lg k m) (g:s.f3=false) (hs:SI kk s) (h:∀ e∈es,get s.f0 e.f0=some (aFl k m e)):∀ (y:List Nat) (i a q:Nat) (acc:List S61),es.drop i=aY m a y->RiseN a y m.length->acc.length<=a->q<=16 * i->i+y.length=es.length ->
    loop (λt:List S61×Int×Int=>bB ⟨(),k,es⟩ f s t.1 t.2.1 t.2.2) (acc,(q:Int),(i:Int))=some (.inl (acc++((pc m a (jG a y)).filter (jB f)).map dI,((q+aRi f m a y:Nat):Int)))
  | [],i,a,q,acc,hd,hr,ha,hq,hi=>by
    refine bK ?_;show bB ⟨(),k,es⟩ f s acc (q:Int) (i:Int)=_;unfold bB;rw [if_neg (by simp only [decide_eq_true_eq]; simp only [List.length_nil] at hi; omega)];have:pc m a (jG a [])=[]:=by unfold pc; rw [show jG a [] - a=0 by show a - a=0; omega,List.take_zero]
    rw [this];simp [aRi]
  | b::y,i,a,q,acc,hd,hr,ha,hq,hi=>by
    rw [List.length_cons] at hi;have hm:=hL.le;have j:=hr.1;have n:=RiseN.end_le hr.2;have hx:es[i]?=some (iQ m a b):=by have:=congrArg (λl=>l[0]?) hd;simpa [aY] using this
    have hd':es.drop (i+1)=aY m b y:=by have:=congrArg (List.drop 1) hd;rw [List.drop_drop] at this;simpa [aY] using this
    have o:=(hL.seg j (show b<=m.length by omega)).cks.2.1;have r:=List.countP_le_length (p:=qX f) (l:=dR (pcs 64 (pc m a b)) 0);have u:=List.length_filter_le (jB f) (pc m a b);have hlen:=wV (m:=m) (a:=a) (b:=b) (by omega);rw [cL (b:=λt:List S61×Int×Int=>bB ⟨(),k,es⟩ f s t.1 t.2.1 t.2.2) (aJq (by omega) d hL g hs hx (h _ (List.mem_of_getElem? hx)) j (by omega) ha hq)];rw [aKb f d hL g hs h y (i+1) b _ _ hd' hr.2 (by rw [List.length_append,List.length_map]; omega) (by split <;> omega) (by omega)];rw [show jG a (b::y)=jG b y from rfl, ← aOu (m:=m) (a:=a) (b:=b) (c:=jG b y) (by omega) n.1,List.filter_append,List.map_append,List.append_assoc];rw [show aRi f m a (b::y)=(if qX f (ckL (pc m a b) 0)=true then (dR (pcs 64 (pc m a b)) 0).countP (qX f) else 0)+aRi f m b y from rfl,Nat.add_assoc]
theorem aRx (f:S26) (h:Cv k m r kk s) (hL:Lg k m) (a:s.f3=false):eR (gQ k m r) f s=some (((m.take (jG 0 r)).filter (jB f)).map dI,(aRi f m 0 r:Int),0,gQ k m r,s):=by have hf:=h.few hL;have:=aKb f (es:=aY m 0 r) (by rw [fG]; omega) hL a h.si h.ct.segs r 0 0 0 [] (by rw [List.drop_zero]) h.ri (Nat.le_refl _) (Nat.le_refl _) (by rw [fG]; omega);rw [List.nil_append,aLs,Nat.zero_add] at this;unfold eR gQ;rw [show (([]:List S61),(0:Int),(0:Int))=([],((0:Nat):Int),((0:Nat):Int)) from rfl,this];rfl
end
section
variable {k:Int} {m:List S61} {r:List Nat} {kk:Nat} {s:S77}
theorem aOq (hL:Lg k m) {a b:Nat}:∀ e∈pc m a b,(a:Int)<=e.f0/\e.f0<(b:Int) /\ -1099511627776<=e.f2/\e.f2<=1099511627776:=λe he=>by
  obtain⟨i,hi⟩:=List.getElem?_of_mem he;have c:=(yJ hL.run a b).of i e hi;have d:=(List.getElem?_eq_some_iff.1 hi).1;have f:=xE ((yJ hL.run a b).fm e he);have g:(pc m a b).length<=b - a:=by unfold pc; simp; omega
  omega
theorem aWp (hL:Lg k m) {a d n:Nat} (f:a<=d) (g:d<=n):(m.take n).filter (jB ⟨(a:Int),(d:Int),-1099511627776,1099511627776⟩)=pc m a d:=by
  rw [← aLs, ← aOu (m:=m) (a:=0) (b:=a) (c:=n) (by omega) (by omega), ← aOu (m:=m) (a:=a) (b:=d) (c:=n) f g,List.filter_append,List.filter_append];rw [aJt (l:=pc m 0 a) (λe he=>by
    have:=aOq hL e he;unfold jB;simp only [Bool.and_eq_false_iff,decide_eq_false_iff_not];omega)]
  rw [aJt (l:=pc m d n) (λe he=>by
    have:=aOq hL e he;unfold jB;simp only [Bool.and_eq_false_iff,decide_eq_false_iff_not];omega)]
  rw [List.nil_append,List.append_nil,List.filter_eq_self];intro e he;have:=aOq hL e he;unfold jB;simp only [Bool.and_eq_true,decide_eq_true_eq];omega
theorem aLj {x y:List Nat} {b d:Nat} (h:Cv k m (x++b::d::y) kk s) (hL:Lg k m) (hk:kk+20000<4611686018427387904) (M:s.f3=false) (N:CleanC (aY m 0 (x++b::d::y)) s.f0) :
    ∃ e s' r',eM (gQ k m (x++b::d::y)) (x.length:Int) s=some (e,gQ k m r',s')/\Cv k m r' (kk+2000) s'/\Kp s s' /\
      ((e=0/\s'.f3=false/\r'=x++d::y/\CleanC (aY m 0 r') s'.f0)\/(e=9/\s'.f3=true/\(r'=x++b::d::y\/r'=x++d::y))\/(e=10/\s'.f3=false/\r'=x++b::d::y/\CleanC (aY m 0 r') s'.f0)) /\
      (FitC s (szB m.length+(40 * (x++b::d::y).length+40)) 2->e≠10):=by
  obtain⟨r,hr⟩:∃ r,r=x++b::d::y:=⟨_,rfl⟩;obtain⟨r',B⟩:∃ r',r'=x++d::y:=⟨_,rfl⟩;obtain⟨a,C⟩:∃ a,a=jG 0 x:=⟨_,rfl⟩;have hlen:r.length=x.length+(y.length+2):=by rw [hr]; simp
  have d0:r'.length=x.length+(y.length+1):=by rw [B]; simp
  have hf:=h.few hL;have hle:=hL.le;have O:=h.ri;obtain⟨rx,rb,rd,ry⟩:=RiseN.app.1 O;rw [← C] at rx rb;have a2:RiseN 0 r' m.length:=by rw [B]; exact RiseN.app.2 ⟨by rw [← C]; exact rx,by rw [← C]; omega,ry⟩
  have A:aY m 0 r=aY m 0 x++iQ m a b::iQ m b d::aY m d y:=by rw [hr,aCm, ← C]; rfl
  have P:aY m 0 r'=aY m 0 x++iQ m a d::aY m d y:=by rw [B,aCm, ← C]; rfl
  have d1:jG 0 r=jG d y:=by rw [hr,aLy]; rfl
  have d2:=RiseN.end_le ry;rw [← hr] at h hf N O ⊢;rw [← B];have a3:iQ m a d∉aY m 0 r:=λhe=>by
    rw [A] at he;rcases List.mem_append.1 he with he | he
    · obtain⟨u,v,h1,h2,h3,G⟩:=wJ rx _ he
      have h5:=congrArg S46.f2 G;have H:(d:Int)=(v:Int):=h5;omega
    · rcases List.mem_cons.1 he with he | he
      · have H:(d:Int)=(b:Int):=congrArg S46.f2 he
        omega
      · rcases List.mem_cons.1 he with he | he
        · have H:(a:Int)=(b:Int):=congrArg S46.f1 he
          omega
        · obtain⟨u,v,h1,h2,h3,G⟩:=wJ ry _ he
          have H:(a:Int)=(u:Int):=congrArg S46.f1 G;omega
  have a8:∀ e∈aY m 0 r',e=iQ m a d\/e∈aY m 0 r:=λe he=>by
    rw [P] at he;rw [A];rcases List.mem_append.1 he with he | he
    · exact .inr (List.mem_append.2 (.inl he))
    · rcases List.mem_cons.1 he with he | he
      · exact .inl he
      · exact .inr (List.mem_append.2 (.inr (List.mem_cons_of_mem _ (List.mem_cons_of_mem _ he))))
  have D:(aY m 0 x).length=x.length:=fG ..;have a9:(aY m d y).length=y.length:=fG ..;have b1:(aY m 0 r).length=r.length:=fG ..;have b2:(aY m 0 r)[x.length]?=some (iQ m a b):=by rw [A,List.getElem?_append_right (by omega),D,Nat.sub_self]; rfl
  have b3:(aY m 0 r)[x.length+1]?=some (iQ m b d):=by rw [A,List.getElem?_append_right (by omega),D,show x.length+1 - x.length=1 by omega]; rfl
  have b4:d<=m.length:=by omega
  obtain⟨e1,s1,w1,I⟩:=aPq (r':=r') (a:=a) (b:=d) (l:=(pc m a d).map dI) h hL (by omega) M N (by omega) b4 (.inr rfl) a2 (by rw [B]; simp) a3 a8;have Q:FitC s (szB m.length+(40 * r.length+40)) 2->FitC s (szB (d - a)+(40 * r'.length+40)) 2:=λE=>E.mono (by have:=aEd (a:=d - a) (b:=m.length) (by omega); omega) (Nat.le_refl _);have b6:eM (gQ k m r) (x.length:Int) s=(eB (gQ k m r) ((pc m a d).map dI) s).bind λf=>(if (f.2.1==0)=true then ((kO f.2.2.1.f2 0 (x.length:Int)).bind λY=>(ltt (IntKind.i64.wrap ((x.length:Int)+2)) λZ=>((kO f.2.2.1.f2 Z (f.2.2.1.f2.length:Int)).bind λa0=>((aD8 Y [f.1] a0).bind λa1=>((cY f.2.2.1 a1 f.2.2.2).bind λz=>(cQ z.2.2.f0 z.2.2.f1 z.2.2.f2 z.2.2.f3 z.2.2.f4 z.2.1.f1 z.2.1.f2 z.1)))))) else (cQ f.2.2.2.f0 f.2.2.2.f1 f.2.2.2.f2 f.2.2.2.f3 f.2.2.2.f4 f.2.2.1.f1 f.2.2.1.f2 f.2.1)):=by have R:=aRx (⟨(a:Int),(d:Int),-1099511627776,1099511627776⟩:S26) h hL M;rw [aWp hL (by omega) (by omega)] at R;unfold eM;rw [if_neg (by simp only [decide_eq_true_eq]; omega),lt_,show ((gQ k m r).f2.length:Int)=(r.length:Int) by show ((aY m 0 r).length:Int)=_; rw [b1],w64 (by omega) (by omega),show decide ((r.length:Int) - 1<=(x.length:Int))=false by simp only [decide_eq_false_iff_not]; omega];unfold fY;rw [if_neg (by simp),show at_ (gQ k m r).f2 (x.length:Int)=some (iQ m a b) from bE rfl b2,Option.bind_some,lt_,w64 (by omega) (by omega),show at_ (gQ k m r).f2 ((x.length:Int)+1)=some (iQ m b d) from bE (n:=x.length+1) (by omega) b3,Option.bind_some];unfold iO;rw [show (iQ m b d).f2=(d:Int) from rfl,show (iQ m a b).f1=(a:Int) from rfl,lt_,oM (by omega) (by omega),if_neg (by simp only [decide_eq_true_eq]; omega),R,Option.bind_some,if_neg (by simp)]
  rw [b6,w1,Option.bind_some];rcases I with ⟨c1,S,T,I,t1⟩ | ⟨c1,e2,g,j,w2,J,F,o2,t2⟩
  · rw [if_neg (by simpa using c1)]
    unfold cQ;rw [if_neg (by simpa using c1)];unfold cR;rw [show (⟨(),(gQ k m r).f1,(gQ k m r).f2⟩:S79)=gQ k m r from rfl,show (⟨s1.f0,s1.f1,s1.f2,s1.f3,s1.f4⟩:S77)=s1 from rfl];rcases I with ⟨rfl,off⟩ | ⟨rfl,c0⟩
    · rw [wK (.inr rfl)]
      exact⟨9,s1,r,rfl,S.mono (by omega),T,.inr (.inl ⟨rfl,off,.inl rfl⟩),λ_=>by decide⟩
    · obtain⟨e',s',w,i,kp,o⟩:=aCt S hL (by omega) c0 (e:=10) (by decide) (by decide)
      rw [w];refine⟨e',s',r,rfl,i.mono (by omega),Kp.trans T kp,?_,λE=>absurd rfl (t1 (Q E))⟩;rcases o with ⟨p,q,c⟩ | ⟨p,q⟩
      · exact .inr (.inr ⟨p,q,rfl,c⟩)
      · exact .inr (.inl ⟨p,q,.inl rfl⟩)
  · have c2:kO (gQ k m r).f2 0 (x.length:Int)=some (aY m 0 x):=by have:=qK (xs:=aY m 0 r) (l:=0) (u:=x.length) (by omega) (by omega);rw [List.drop_zero,A,List.take_left' D, ← A] at this;exact this
    have c3:kO (gQ k m r).f2 ((x.length:Int)+2) ((gQ k m r).f2.length:Int)=some (aY m d y):=by have:=qK (xs:=aY m 0 r) (l:=x.length+2) (u:=(aY m 0 r).length) (by omega) (by omega);rw [List.take_length] at this;rw [show ((x.length:Int)+2)=((x.length+2:Nat):Int) by omega];refine this.trans ?_;rw [A, ← List.drop_drop,List.drop_left' D];rfl
    have c4:aD8 (aY m 0 x) [iQ m a d] (aY m d y)=some (aY m 0 r'):=by unfold aD8;rw [bL ⟨by simp,by rw [D,a9]; simp only [List.length_singleton]; omega⟩,P,List.append_assoc];rfl
    rw [if_pos (by simpa using c1),c2,Option.bind_some,lt_,w64 (by omega) (by omega),c3,Option.bind_some,c4,Option.bind_some,w2,Option.bind_some];have K:∀ e:Int,(e=0\/e=9)->∀ (c:S79) (t:S77),cR t.f0 t.f1 t.f2 t.f3 t.f4 c.f1 c.f2 e=some (e,c,t):=λe he c t=>by unfold cR;rw [show (⟨(),c.f1,c.f2⟩:S79)=c from rfl,show (⟨t.f0,t.f1,t.f2,t.f3,t.f4⟩:S77)=t from rfl,wK he];rfl
    unfold cQ;rcases o2 with ⟨rfl,L,rfl,d5⟩ | ⟨rfl,off,rfl⟩ | ⟨rfl,L,rfl⟩
    · obtain⟨e3,U,w3,W,X,_,o3⟩:=aIj J hL (by omega) L
      rw [if_pos (by simp),show (⟨(),(gQ k m j).f1,(gQ k m j).f2⟩:S79)=gQ k m j from rfl,show (⟨g.f0,g.f1,g.f2,g.f3,g.f4⟩:S77)=g from rfl,w3,Option.bind_some];rcases o3 with ⟨rfl,c7,c8⟩ | ⟨rfl,c9⟩
      · rw [K 0 (.inl rfl)]
        exact⟨0,U,j,rfl,W.mono (by omega),Kp.trans F X,.inl ⟨rfl,c7,rfl,c8⟩,λ_=>by decide⟩
      · rw [K 9 (.inr rfl)]
        exact⟨9,U,j,rfl,W.mono (by omega),Kp.trans F X,.inr (.inl ⟨rfl,c9,.inr rfl⟩),λ_=>by decide⟩
    · rw [if_neg (by simp),K 9 (.inr rfl)]
      exact⟨9,g,j,rfl,J.mono (by omega),F,.inr (.inl ⟨rfl,off,.inl rfl⟩),λ_=>by decide⟩
    · rw [if_neg (by simp)]
      unfold cR;rw [show (⟨(),(gQ k m j).f1,(gQ k m j).f2⟩:S79)=gQ k m j from rfl,show (⟨g.f0,g.f1,g.f2,g.f3,g.f4⟩:S77)=g from rfl];obtain⟨e',s',w,i,kp,o⟩:=aCt J hL (by omega) L (e:=10) (by decide) (by decide);rw [w];refine⟨e',s',j,rfl,i.mono (by omega),Kp.trans F kp,?_,λE=>absurd rfl (t2 (Q E))⟩;rcases o with ⟨p,q,c⟩ | ⟨p,q⟩
      · exact .inr (.inr ⟨p,q,rfl,c⟩)
      · exact .inr (.inl ⟨p,q,.inl rfl⟩)
theorem aUe (h:Cv k m r kk s) (hL:Lg k m) (hk:kk+5000<4611686018427387904) (a:s.f3=false) :
    ∃ e s',hW s k=some (if e=0 then some (gQ k m r) else none,e,s')/\Cv k m r (kk+500) s'/\Kp s s'/\(∀ f x,get s'.f0 f=some x->get s.f0 f=some x)/\((e=0/\s'.f3=false/\CleanC (aY m 0 r) s'.f0)\/(e=9/\s'.f3=true)):=by
  have hf:=h.few hL;obtain⟨g,j⟩:1<=k/\k<=8:=⟨hL.k1,hL.k8⟩;obtain⟨e,s',w,i,kp,dd,o⟩:=aIj h hL hk a;refine⟨e,s',?_,i,kp,dd,o⟩;have d:lA s k (aY m 0 r)=some (if e=0 then some (gQ k m r) else none,e,s'):=by
    unfold lA;rw [show (⟨(),k,aY m 0 r⟩:S79)=gQ k m r from rfl,w,Option.bind_some];by_cases c:e=0
    · rw [if_neg (by simp [c]),if_pos c,c]
    · rw [if_pos (by simpa using c),if_neg c]
  unfold hW;rw [if_neg (by simp only [decide_eq_true_eq]; omega),show decide (8<k)=false by simp only [decide_eq_false_iff_not]; omega];unfold lF;rw [if_neg (by simp),show ([99,97,116]:List UInt8)=oB from rfl,h.si.Read (by decide),Option.bind_some];by_cases c:r=[]
  · have b:xB s oB=([],5):=by unfold xB;rw [if_pos (vZ aB3 a),h.ct.cat0 c]
    rw [b];subst c;rw [if_pos (by rfl)];exact d
  · have b:xB s oB=(fB 99 (aDq k (aY m 0 r)),0):=by unfold xB;rw [if_pos (vZ aB3 a),h.ct.cat c];rfl
    rw [b,if_neg (by simp),if_pos (by simp),aO6 ⟨g,j⟩ (vF hL h.ri) (by rw [fG]; omega),Option.bind_some,if_neg (by simp)];exact d
end
def wT (k:Int) (m:List S61) (r:List Nat):List S98:=(if r=[] then [] else [aIz oB (aM5 k m r)])++(aY m 0 r).map (aFl k m)
theorem aG6 {m:List S61}:∀ {r:List Nat} {a n:Nat},RiseN a r n->n<=250->((aY m a r).map λe=>e.f0).Nodup
  | [],_,_,_,_=>List.nodup_nil
  | b::r,a,n,h,hn=>by have f:=h.1;have g:=RiseN.end_le h.2;refine List.nodup_cons.2 ⟨λhm=>?_,aG6 h.2 hn⟩;obtain⟨e,he,q⟩:=List.mem_map.1 hm;obtain⟨x,y,i,j,k,rfl⟩:=wJ h.2 e he;have:=(aHb (a:=x) (b:=y) (c:=a) (d:=b) (by omega) (by omega) (by omega) (by omega) q).1;omega
theorem zP {α β:Type} (f:α->β):∀ {l:List α},(l.map f).Nodup->l.Nodup
  | [],_=>List.nodup_nil
  | x::l,h=>by obtain⟨a,b⟩:=List.nodup_cons.1 h;exact List.nodup_cons.2 ⟨λhm=>a (List.mem_map.2 ⟨x,hm,rfl⟩),zP f b⟩
section
variable {k:Int} {m:List S61} {r:List Nat} {kk:Nat} {s:S77}
theorem aLk (hL:Lg k m) (hr:RiseN 0 r m.length):(wT k m r).Nodup:=by
  refine zP S98.f0 ?_;have a:=aG6 (m:=m) hr hL.le;have b:((aY m 0 r).map (aFl k m)).map S98.f0=(aY m 0 r).map λe=>e.f0:=by rw [List.map_map]; rfl
  unfold wT;rw [List.map_append,b];split
  · exact a
  · refine List.nodup_cons.2 ⟨λhm=>?_,a⟩
    obtain⟨e,he,q⟩:=List.mem_map.1 hm;exact (aC3 (aC2 hL hr he).1).2 q
theorem Cv.mem (h:Cv k m r kk s) (hL:Lg k m) (b:CleanC (aY m 0 r) s.f0) (x:S98):x∈s.f0↔x∈wT k m r:=by
  constructor
  · intro hx
    have hg:=aGl h.si.rise hx;have a:=b _ _ hg;unfold wT;rw [List.mem_append];rcases h.dom _ _ hg with e | e | e
    · by_cases c:r=[]
      · rw [e,h.ct.cat0 c] at hg; cases hg
      · rw [e,h.ct.cat c] at hg
        cases hg;rw [if_neg c];exact .inl List.mem_cons_self
    · rw [e,aG0] at a; cases a
    · unfold sU at a
      rw [e] at a;simp only [Bool.or_eq_false_iff,Bool.true_and,Bool.not_eq_false'] at a;obtain⟨en,he,q⟩:=List.any_eq_true.1 a.2;have d:en.f0=x.f0:=by simpa using q
      rw [← d,h.ct.segs en he] at hg;cases hg;exact .inr (List.mem_map.2 ⟨en,he,rfl⟩)
  · intro hx
    unfold wT at hx;rw [List.mem_append] at hx;rcases hx with hx | hx
    · split at hx
      · cases hx
      · rename_i c
        obtain rfl:=List.mem_singleton.1 hx;exact (vV (h.ct.cat c)).1
    · obtain⟨e,he,rfl⟩:=List.mem_map.1 hx
      exact (vV (h.ct.segs e he)).1
theorem Cv.perm (h:Cv k m r kk s) (hL:Lg k m) (a:CleanC (aY m 0 r) s.f0):s.f0.Perm (wT k m r) :=
  (List.perm_ext_iff_of_nodup (zP S98.f0 (aBy h.si.rise)) (aLk hL h.ri)).2 λx=>h.mem hL a x
theorem Cv.count (h:Cv k m r kk s) (hL:Lg k m) (a:CleanC (aY m 0 r) s.f0):s.f0.length=(if r=[] then 0 else 1)+r.length:=by rw [(h.perm hL a).length_eq];unfold wT;rw [List.length_append,List.length_map,fG];split <;> rfl
theorem aJc (hL:Lg k m):∀ {r:List Nat} {a:Nat},RiseN a r m.length->used ((aY m a r).map (aFl k m))<=r.length * szB m.length
  | [],_,_=>Nat.zero_le _
  | b::r,a,h=>by
    have c:=h.1;have d:=RiseN.end_le h.2;have ih:=aJc hL h.2;have hs:=(hL.seg c (show b<=m.length by omega)).size;have hm:=aEd (a:=(pc m a b).length) (b:=m.length) (by rw [wV (by omega)]; omega);show used (aFl k m (iQ m a b)::(aY m b r).map (aFl k m))<=(r.length+1) * _;rw [xU,Nat.add_mul];have e:(aFl k m (iQ m a b)).f1.length=(qS (pc m a b) k.toNat).length:=by show (qS (pc m ((a:Int)).toNat ((b:Int)).toNat) k.toNat).length=_;rw [Int.toNat_natCast,Int.toNat_natCast]
    rw [e];omega
theorem Cv.used (h:Cv k m r kk s) (hL:Lg k m) (a:CleanC (aY m 0 r) s.f0):used s.f0<=40 * r.length+40+r.length * szB m.length:=by
  have hf:=h.few hL;have hu:P.used s.f0=P.used (wT k m r):=by show (s.f0.map λx=>x.f1.length).sum=((wT k m r).map λx=>x.f1.length).sum;exact ((h.perm hL a).map _).sum_nat
  have b:=aJc hL h.ri;rw [hu];unfold wT;rw [tQ];have c:P.used (if r=[] then [] else [aIz oB (aM5 k m r)])<=40 * r.length+40:=by
    split
    · exact Nat.zero_le _
    · have:=aGy ⟨hL.k1,hL.k8⟩ (vF hL h.ri) (by rw [fG]; omega)
      rw [fG] at this;show (aM5 k m r).length+0<=_;exact this
  omega
structure Sv (k:Int) (m:List S61) (r:List Nat) (R:Int) (kk:Nat) (s:S77):Prop where
  ctv:Cv k m r kk s
  cl:CleanC (aY m 0 r) s.f0
  f1:s.f1=R
  f2:s.f2=0
  f3:s.f3=false
theorem Sv.mono {R:Int} {a:Nat} (h:Sv k m r R kk s) (hk:kk<=a):Sv k m r R a s:=⟨h.ctv.mono hk,h.cl,h.f1,h.f2,h.f3⟩
theorem aR1 (k:Int) (m:List S61) {R:Int} (h:1<=R) (a:R<=16777216):Sv k m [] R 0 (onS [] R 0) :=
  ⟨⟨aYq h a,⟨λ_=>rfl,λh=>absurd rfl h,λe he=>(by cases he)⟩,λf x hx=>(by cases hx),Nat.zero_le _⟩,λf x hx=>(by cases hx),rfl,rfl,rfl⟩
theorem Sv.fit {R:Int} (h:Sv k m r R kk s) (hL:Lg k m) {c:Nat} (hc:c<=r.length+1) (a:((r.length+1) * szB m.length+80 * (r.length+2):Nat)<=R):FitC s (szB m.length+(40 * c+40)) 2:=by
  have d:=h.ctv.used hL h.cl;have b:=h.ctv.count hL h.cl;have e:=(h.ctv.few hL).1;refine⟨?_,?_⟩
  · rw [h.f1]
    rw [Nat.add_mul] at a;omega
  · rw [b]; split <;> omega
theorem aGn {R:Int} {b:Nat} (h:Sv k m r R kk s) (hL:Lg k m) (hk:kk+20000<4611686018427387904) (hr:r.length<200) (d:jG 0 r<b) (hb:b<=m.length) (f:((r.length+1) * szB m.length+80 * (r.length+2):Nat)<=R) :
    ∃ s',dK (gQ k m r) (pc m (jG 0 r) b) s=some (0,gQ k m (r++[b]),s')/\Sv k m (r++[b]) R (kk+1000) s':=by
  obtain⟨e,s',r',w,C,kp,o,ft⟩:=aQt h.ctv hL (by omega) h.f3 h.cl (by omega) d hb;obtain⟨g,i⟩:=kp.2 h.f2 h.f3;rcases o with ⟨rfl,on,rfl,cl⟩ | ⟨rfl,off,_⟩ | ⟨rfl,_⟩
  · exact⟨s',w,C,cl,kp.1.trans h.f1,g,on⟩
  · rw [i] at off; cases off
  · refine absurd rfl (ft ((h.fit hL (c:=r.length+1) (Nat.le_refl _) f).mono ?_ (Nat.le_refl _)))
    have:=aEd (a:=b - jG 0 r) (b:=m.length) (by omega);omega
theorem aOd {R:Int} {x y:List Nat} {b d:Nat} (h:Sv k m (x++b::d::y) R kk s) (hL:Lg k m) (hk:kk+20000<4611686018427387904)
    (a:(((x++b::d::y).length+1) * szB m.length+80 * ((x++b::d::y).length+2):Nat)<=R) :
    ∃ s',eM (gQ k m (x++b::d::y)) (x.length:Int) s=some (0,gQ k m (x++d::y),s')/\Sv k m (x++d::y) R (kk+2000) s':=by
  obtain⟨e,s',r',w,C,kp,o,ft⟩:=aLj h.ctv hL hk h.f3 h.cl;obtain⟨f,g⟩:=kp.2 h.f2 h.f3;rcases o with ⟨rfl,on,rfl,cl⟩ | ⟨rfl,off,_⟩ | ⟨rfl,_⟩
  · exact⟨s',w,C,cl,kp.1.trans h.f1,f,on⟩
  · rw [g] at off; cases off
  · exact absurd rfl (ft (h.fit hL (c:=(x++b::d::y).length) (by omega) a))
theorem aPo {R:Int} (h:Sv k m r R kk s) (hL:Lg k m) (hk:kk+20000<4611686018427387904) :
    ∃ s',hW s k=some (some (gQ k m r),0,s')/\Sv k m r R (kk+500) s':=by
  obtain⟨e,s',w,C,kp,_,o⟩:=aUe h.ctv hL (by omega) h.f3;obtain⟨a,b⟩:=kp.2 h.f2 h.f3;rcases o with ⟨rfl,on,cl⟩ | ⟨rfl,off⟩
  · exact⟨s',w,C,cl,kp.1.trans h.f1,a,on⟩
  · rw [b] at off; cases off
end
theorem aHx (a0:List S61) (hg:∀ e∈a0,Gd e) (k:Int):∀ (n i:Nat) (out:List S61),i+n=min a0.length 250->Run k 0 out->out.length<=i ->
    ∃ m,loop (λs:List S61×Int=>nJ a0 k s.1 s.2) (out,(i:Int))=some m/\Run k 0 m/\m.length<=250
  | 0,i,out,hi,hr,hl=>by
    refine⟨out,bK ?_,hr,by omega⟩;show nJ a0 k out (i:Int)=_;unfold nJ rV;by_cases h:i<a0.length
    · rw [if_pos (by simp only [decide_eq_true_eq]; omega),show decide ((i:Int)<250)=false by simp only [decide_eq_false_iff_not]; omega]; rfl
    · rw [if_neg (by simp only [decide_eq_true_eq]; omega)]; rfl
  | n+1,i,out,hi,hr,hl=>by
    have f:i<a0.length:=by omega
    have hx:=List.getElem?_eq_getElem (l:=a0) (i:=i) f;obtain⟨o,g⟩:=hg _ (List.getElem_mem f);generalize a0[i]=e at hx o g;have a:nJ a0 k out (i:Int)=some (.inl (if pM ⟨out.length,e.f1,e.f2,e.f3,e.f4⟩ k=true then out++[⟨out.length,e.f1,e.f2,e.f3,e.f4⟩] else out,((i+1:Nat):Int))):=by
      unfold nJ rV;rw [if_pos (by simp only [decide_eq_true_eq]; omega),show decide ((i:Int)<250)=true by simp only [decide_eq_true_eq]; omega,if_pos rfl,bE rfl hx];simp only [Option.bind_some,lt_];rw [oM (n:=(out.length:Int)) (by omega) (by omega),aT1];simp only [Option.bind_some];split
      · rw [bL (by simp; omega)]
        unfold rM;rw [lt_,w64 (by omega) (by omega)]; rfl
      · unfold rM
        rw [lt_,w64 (by omega) (by omega)]; rfl
    by_cases hb:pM ⟨out.length,e.f1,e.f2,e.f3,e.f4⟩ k=true
    · rw [if_pos hb] at a
      have p:Run k 0 (out++[⟨out.length,e.f1,e.f2,e.f3,e.f4⟩]):=by
        refine⟨λx hx=>?_,λx hx=>?_,λj x hx=>?_⟩
        · rcases List.mem_append.1 hx with h | h
          · exact hr.fm x h
          · simp at h; subst h; exact hb
        · rcases List.mem_append.1 hx with h | h
          · exact hr.gd x h
          · simp at h; subst h
            exact⟨⟨by show 0<=(out.length:Int); omega,by show (out.length:Int)<_; omega⟩,g⟩
        · rw [List.getElem?_append] at hx
          split at hx
          · exact hr.of j x hx
          · rename_i r
            have q:j=out.length:=by have:=(List.getElem?_eq_some_iff.1 hx).1;simp at this;omega
            subst q;rw [Nat.sub_self] at hx;cases hx;show (out.length:Int)=0+out.length;omega
      obtain⟨m,b,c,d⟩:=aHx a0 hg k n (i+1) _ (by omega) p (by simp; omega);exact⟨m,(cL a).trans b,c,d⟩
    · rw [if_neg hb] at a
      obtain⟨m,b,c,d⟩:=aHx a0 hg k n (i+1) out (by omega) hr (by omega);exact⟨m,(cL a).trans b,c,d⟩
theorem aYy {a0:List S61} (hg:∀ e∈a0,Gd e) {k:Int} (hk:1<=k/\k<=8):∃ m,aAr a0 k=some m/\Lg k m:=by obtain⟨m,a,b,c⟩:=aHx a0 hg k (min a0.length 250) 0 [] (by omega) ⟨λe he=>(by cases he),λe he=>(by cases he),λi x hx=>(by simp at hx)⟩ (Nat.le_refl _);refine⟨m,?_,b,c,hk.1,hk.2⟩;unfold aAr;rw [show (([]:List S61),(0:Int))=([],((0:Nat):Int)) from rfl,a];rfl
section
variable {k:Int} {m:List S61} {r:List Nat} {kk:Nat} {s:S77}
end
def awakeL:List S61:=aCe 20
theorem aRl:Lg 1 awakeL:=by
  have hl:awakeL.length=20:=by simp [awakeL,aCe]
  refine⟨⟨λe he=>?_,λe he=>?_,λi x hx=>?_⟩,by omega,by omega,by omega⟩
  · obtain⟨i,hi⟩:=List.getElem?_of_mem he
    obtain⟨rfl,h⟩:=aH0 hi;unfold pM;simp only [Bool.and_eq_true,decide_eq_true_eq,List.length_nil];omega
  · obtain⟨i,hi⟩:=List.getElem?_of_mem he
    obtain⟨rfl,h⟩:=aH0 hi;exact⟨⟨by show (0:Int)<=i; omega,by show (i:Int)<_; omega⟩,by show 0<18446744073709551616; omega⟩
  · obtain⟨rfl,h⟩:=aH0 hx
    show (i:Int)=0+i;omega
theorem aMr:loop (λs:List S61×Int=>iT s.1 s.2) ([],0)=some awakeL:=by
  have h:=kC (b:=λs:List S61×Int=>iT s.1 s.2) (λk=>(aCe k,(k:Int))) (t:=awakeL) 20 (λk hk=>by
    show iT (aCe k) (k:Int)=_;have hl:(aCe k).length=k:=by simp [aCe]
    unfold iT;rw [if_pos (by simp only [decide_eq_true_eq]; omega),lt_,oM (by omega) (by omega),bL (by rw [hl]; simp only [List.length_singleton]; omega),lt_,w64 (by omega) (by omega)];unfold aCe;rw [List.range_succ,List.map_append];rfl) (by
    show iT (aCe 20) _=_;unfold iT;rw [if_neg (by simp)];rfl)
  exact h
theorem aQm:wG=some true:=by
  have hl:awakeL.length=20:=by simp [awakeL,aCe]
  have hL:=aRl;have hz:szB awakeL.length=8522:=by rw [hl]; rfl
  have c1:kO awakeL 0 10=some (pc awakeL 0 10):=by have:=qK (xs:=awakeL) (l:=0) (u:=10) (by omega) (by omega);rw [List.drop_zero, ← aLs] at this;exact this
  have c2:kO awakeL 10 (awakeL.length:Int)=some (pc awakeL 10 20):=by have:=qK (xs:=awakeL) (l:=10) (u:=awakeL.length) (by omega) (by omega);refine this.trans ?_;unfold pc;rw [List.take_length,List.take_of_length_le (by simp; omega)]
  obtain⟨s0,e,v0⟩:=aPo (aR1 1 awakeL (R:=65536) (by decide) (by decide)) hL (by omega);obtain⟨s1,a,f⟩:=aGn (b:=10) v0 hL (by omega) (by simp) (by show 0<10; omega) (by omega) (by rw [hz]; decide);obtain⟨i,c,g⟩:=aGn (b:=20) f hL (by omega) (by simp) (by show 10<20; omega) (by omega) (by rw [hz]; decide);obtain⟨j,h,v3⟩:=aOd (x:=[]) (b:=10) (d:=20) (y:=[]) g hL (by omega) (by rw [hz]; decide);rw [show jG 0 []=0 from rfl] at a;rw [show jG 0 ([]++[10])=10 from rfl] at c;unfold wG;rw [aPe (by decide) (by decide),Option.bind_some,Option.bind_some,e,Option.bind_some,Option.bind_some,if_neg (by simp),aMr,Option.bind_some];unfold rS uJ;rw [c1,Option.bind_some,a,Option.bind_some,if_neg (by simp),c2,Option.bind_some,c,Option.bind_some,if_neg (by simp)];rw [show ([]++[10]++[20]:List Nat)=[]++10::20::[] from rfl,show (0:Int)=((([]:List Nat).length:Nat):Int) from rfl,h,Option.bind_some];unfold oL;rw [if_neg (by simp),show (⟨(),(gQ 1 awakeL ([]++20::[])).f1,(gQ 1 awakeL ([]++20::[])).f2⟩:S79)=gQ 1 awakeL [20] from rfl,aFs (by simp),Option.bind_some];rw [if_pos (by rfl),show at_ (aY awakeL 0 [20]) 0=some (iQ awakeL 0 20) from rfl,Option.bind_some,if_pos (by rw [show (iQ awakeL 0 20).f0=kJ 0 20 from rfl]; decide +kernel),aS1 (by simp),Option.bind_some];rfl
theorem aUm {m:List S61} {a b:Nat} (h:a<=b) (hb:b<=m.length):kO m (a:Int) (b:Int)=some (pc m a b):=by rw [qK h hb];unfold pc;rw [List.drop_take]
section
variable {k:Int} {m:List S61} {r:List Nat} {R:Int}
theorem aPj (hL:Lg k m) {n:Nat} (hn:n<=25) (c:700000<=R):((n+1) * szB m.length+80 * (n+2):Nat)<=R:=by have a:szB m.length<=26822:=aEd (b:=250) hL.le;have d:=Nat.mul_le_mul (show n+1<=26 by omega) a;omega
end
section
variable {m:List S61} {r:List Nat}
end
section
variable {k:Int} {m:List S61} {r:List Nat}
end
section
variable {m:List S61} {r:List Nat} {f:S26}
end
structure Trn (B p:List Int):Prop where
  bs:Bs B
  len:B.length=p.length
  bu:Burst (gZ B ^^^ gZ p)
  ne:B≠p
theorem aTj {p:List Int} (hp:Bs p) {b:Nat} (hb:b<8 * p.length):Trn (aBp p (b:Int)) p:=by
  have c:b / 8<p.length:=by omega
  have hx:=List.getElem?_eq_getElem (l:=p) (i:=b / 8) c;obtain⟨q,j⟩:=hp _ (List.getElem_mem c);obtain⟨x,k⟩:∃ x:Nat,p[b / 8]=(x:Int):=⟨p[b / 8].toNat,by omega⟩;rw [k] at hx j;have d:2 ^ (b % 8)<256:=Nat.pow_lt_pow_right (a:=2) (by decide) (show b % 8<8 by omega);have hf:aBp p (b:Int)=p.set (b / 8) ((x ^^^ 2 ^ (b % 8):Nat):Int):=by
    have m:((b:Int) / 8).toNat=b / 8:=by omega
    have n:(b:Int) % 8=((b % 8:Nat):Int):=by omega
    have f:=aP2 1 (b % 8) (by omega);rw [Nat.one_mul,Nat.mod_eq_of_lt d,show ((1:Nat):Int)=1 from rfl] at f;unfold aBp;rw [m,n,f,List.getD_eq_getElem?_getD,hx,Option.getD_some,aVg (by omega) d]
  obtain⟨g,o⟩:=aMf (s:=b % 8) (by omega) hp hx;rw [show 8 * (b / 8)+b % 8=b by omega] at g;have h:gZ (aBp p (b:Int)) ^^^ gZ p=2 ^ b * 1:=by rw [hf,g,Nat.xor_comm, ← Nat.xor_assoc,Nat.xor_self,Nat.zero_xor,Nat.mul_one]
  refine⟨by rw [hf]; exact o,aHy _ _,⟨b,1,h,by decide⟩,λe=>?_⟩;rw [e,Nat.xor_self] at h;have:=Nat.two_pow_pos b;omega
theorem aOx {kind:Int} {b B:List Int} (hk:0<=kind/\kind<256) (hb:Bs b) (a:b.length<=1048576) (h:Trn B (fB kind b)):∃ e:Int,(e=3\/e=4)/\yY B kind=some ([],e):=by
  have hlen:=h.len;rw [jC] at hlen;have ht:=xG (p:=[]) (q:=[]) hk hb a h.bs h.len h.bu h.ne;rw [List.nil_append,List.append_nil,show ((([]:List Int).length:Nat):Int)=0 from rfl] at ht;unfold yY;rw [oW h.bs (by omega),Option.bind_some];generalize sB B 0=Y at ht;rcases ht with ht | ⟨n,n1,n2,n3,c⟩
  · refine⟨Y.2.2.2,ht,?_⟩
    have hz:¬ Y.2.2.2=0:=by omega
    rw [if_neg (by simpa using hz)];unfold oU rG;rw [if_neg (by simp),if_pos (by simpa using hz)]
  · refine⟨3,.inl rfl,?_⟩
    rw [if_pos (by simpa using c),show (Y.2.2.1 != (B.length:Int))=true by simp only [bne_iff_ne,ne_eq]; omega];unfold oU rG;rw [if_pos rfl];split <;> rfl
section
variable {k:Int} {m:List S61} {r:List Nat} {kk:Nat} {s:S77}
theorem aVj (hL:Lg k m) {a b:Nat} (f:a<b) (hb:b<=m.length):qX tX (ckL (pc m a b) 0)=true:=by have hm:=hL.le;have hlen:=wV (m:=m) (a:=a) (b:=b) hb;obtain⟨c2,c3⟩:=aEs (yJ hL.run a b) (by omega) 0;obtain⟨d,e,c⟩:=aL8 (yJ hL.run a b) (by omega);unfold aDb at d c;unfold wZ at e c;unfold qX tX;simp only [Bool.and_eq_true,decide_eq_true_eq];omega
theorem aNi {es:List S46} {i a b:Nat} {B:List Int} {t:Int} (hi:i<es.length) (hL:Lg k m) (z:s.f3=false) (hs:SI kk s) (hx:es[i]?=some (iQ m a b)) (hg:get s.f0 (kJ a b)=some ⟨kJ a b,B,t⟩) (c:Trn B (qS (pc m a b) k.toNat)) (j:a<b) (hb:b<=m.length) (acc:List S61) (q:Int) :
    ∃ e:Int,(e=3\/e=4)/\bB ⟨(),k,es⟩ tX s acc q (i:Int)=some (.inr (.inr ([],0,e,⟨(),k,es⟩,s))):=by
  have hm:=hL.le;have f:=hL.seg j hb;have l:=yJ hL.run a b;have hlen:=wV (m:=m) (a:=a) (b:=b) hb;have A:=aVj hL j hb;obtain⟨c2,c3⟩:=aEs l (by omega) 0;have C:qX tX ⟨0,0,(a:Int),(b:Int) - 1,aDb (pc m a b),wZ (pc m a b),[],[]⟩=true:=by rw [← A];unfold qX aDb wZ;rw [c2,c3,hlen];simp only;rw [show (a:Int)+((b - a:Nat):Int) - 1=(b:Int) - 1 by omega]
  have I:=aHk a b;have D:xB s (kJ a b)=(B,0):=by unfold xB;rw [if_pos (vZ (aC1 (by omega) (by omega)) z),hg]
  have o:∀ y,((kH B).bind λd=>(if (d.2 != 0)=true then (some (.inr (.inr ([],0,d.2,⟨(),k,es⟩,s)))) else ((eD d.1).bind λh=>(if (h.1 != (a:Int))=true then (cJ ⟨(),k,es⟩ tX s acc q (i:Int) d true) else (if (h.2 != (b:Int))=true then (cJ ⟨(),k,es⟩ tX s acc q (i:Int) d true) else ((hG d.1).bind λx=>(cJ ⟨(),k,es⟩ tX s acc q (i:Int) d (x != k))))))))=y->bB ⟨(),k,es⟩ tX s acc q (i:Int)=y:=by intro y E;unfold bB;rw [if_pos (by simp only [decide_eq_true_eq]; omega),bE rfl hx,Option.bind_some,show (iQ m a b).f1=(a:Int) from rfl,show (iQ m a b).f2=(b:Int) from rfl,show (iQ m a b).f3=aDb (pc m a b) from rfl,show (iQ m a b).f4=wZ (pc m a b) from rfl,show (iQ m a b).f0=kJ a b from rfl,lt_,oM (n:=(b:Int) - 1) (by omega) (by omega),aLp,C,Option.bind_some,if_neg (by simp),hs.Read (by omega),D,Option.bind_some,if_neg (by simp)];exact E
  obtain⟨b1,b2⟩:=f.bytes;have J:=c.len;rcases aMi f c.bs c.len c.bu with ⟨e,he,g⟩ | ⟨g,F⟩
  · refine⟨e,he,o _ ?_⟩
    rw [g,Option.bind_some,if_pos (by rcases he with rfl | rfl <;> rfl)]
  · have p:(qS (pc m a b) k.toNat).take (aS (pcs 64 (pc m a b))).length=aS (pcs 64 (pc m a b)):=by unfold qS; rw [List.append_assoc,List.take_left' rfl]
    have r:=Burst.part c.bs b1 c.len c.bu 0 (aS (pcs 64 (pc m a b))).length (by omega);rw [List.drop_zero,List.drop_zero,p] at r;obtain⟨e,u,G⟩:=aM1 f (c.bs.take (aS (pcs 64 (pc m a b))).length) (by simp; omega) r (λe=>c.ne (by
      have v:=List.take_append_drop (aS (pcs 64 (pc m a b))).length B;have w:=List.take_append_drop (aS (pcs 64 (pc m a b))).length (qS (pc m a b) k.toNat);rw [e,F] at v;rw [p] at w;exact v.symm.trans w))
    have H:eD (some ⟨B.take (aS (pcs 64 (pc m a b))).length,k,dR (pcs 64 (pc m a b)) 0⟩)=some ((a:Int),(a:Int)+((pc m a b).length:Int)):=aG5 f l (by omega);refine⟨e,u,o _ ?_⟩;rw [g,Option.bind_some,if_neg (by simp),H,Option.bind_some,if_neg (by simp),if_neg (by simp only [bne_iff_ne,ne_eq,Decidable.not_not]; omega),show hG (some ⟨B.take (aS (pcs 64 (pc m a b))).length,k,dR (pcs 64 (pc m a b)) 0⟩)=some k from rfl,Option.bind_some];unfold cJ;rw [if_neg (by simp),G,Option.bind_some,if_pos (by rcases u with rfl | rfl <;> rfl)]
theorem aTm {B:List Int} {t:Int} (hL:Lg k m) (hr:RiseN 0 r m.length) (hs:SI kk s) (a:s.f3=false) (hg:get s.f0 oB=some ⟨oB,B,t⟩) (b:Trn B (aM5 k m r)):∃ e:Int,(e=3\/e=4)/\hW s k=some (none,e,s):=by
  obtain⟨c,d⟩:1<=k/\k<=8:=⟨hL.k1,hL.k8⟩;have hl:=RiseN.len hr;have he:=RiseN.end_le hr;have hm:=hL.le;have f:=aGy (k:=k) ⟨c,d⟩ (vF hL hr) (by rw [fG]; omega);rw [fG,jC] at f;obtain⟨e,g,h⟩:=aOx (by decide) (aGo k (aY m 0 r)) (by omega) b;refine⟨e,g,?_⟩;have hz:¬ e=0:=by omega
  have i:xB s oB=(B,0):=by unfold xB;rw [if_pos (vZ aB3 a),hg]
  unfold hW;rw [if_neg (by simp only [decide_eq_true_eq]; omega),show decide (8<k)=false by simp only [decide_eq_false_iff_not]; omega];unfold lF iD;rw [if_neg (by simp),show ([99,97,116]:List UInt8)=oB from rfl,hs.Read (by decide),Option.bind_some,i,if_neg (by simp),if_pos (by simp),h,Option.bind_some,if_pos (by simpa using hz),Option.bind_some,if_pos (by simpa using hz)]
theorem aUb (hL:Lg k m) (hr:RiseN 0 r m.length) (p:r≠[]) (hs:SI kk s) (hk:kk+500<4611686018427387904) (h:s.f2=0) (c:s.f3=false) (hg:get s.f0 oB=some (aIz oB (aM5 k m r))):∃ s',hW s k=some (some (gQ k m r),0,s')/\SI (kk+500) s'/\s'.f3=false/\∀ e∈aY m 0 r,get s'.f0 e.f0=get s.f0 e.f0:=by
  obtain⟨j,l⟩:1<=k/\k<=8:=⟨hL.k1,hL.k8⟩;have hl:=RiseN.len hr;have he:=RiseN.end_le hr;have hm:=hL.le;obtain⟨e,s',w,i,kp,g,d,u,o⟩:=aF8 hs (by omega) c (gQ k m r) (by show (aY m 0 r).length<=1000000; rw [fG]; omega);have f:=(kp.2 h c).2;have e0:e=0:=by
    rcases o with ⟨a,_⟩ | ⟨_,b⟩
    · exact a
    · rw [f] at b; cases b
  subst e0;refine⟨s',?_,i,f,λe he=>g e.f0 (zD hL hr (.inr ⟨e,he,rfl⟩))⟩;have n:xB s oB=(fB 99 (aDq k (aY m 0 r)),0):=by unfold xB;rw [if_pos (vZ aB3 c),hg];rfl
  unfold hW;rw [if_neg (by simp only [decide_eq_true_eq]; omega),show decide (8<k)=false by simp only [decide_eq_false_iff_not]; omega];unfold lF;rw [if_neg (by simp),show ([99,97,116]:List UInt8)=oB from rfl,hs.Read (by decide),Option.bind_some,n,if_neg (by simp),if_pos (by simp),aO6 ⟨j,l⟩ (vF hL hr) (by rw [fG]; omega),Option.bind_some,if_neg (by simp)];unfold lA;dsimp only;rw [show (⟨(),k,aY m 0 r⟩:S79)=gQ k m r from rfl,w,Option.bind_some,if_neg (by simp)]
end
theorem aQs {m:List S61} {K n2 n3 kk:Nat} {s:S77} (hL:Lg 3 m) (o:0<K) (h2:K<m.length) (hn2:n2<256) (a7:n3<4294967296) (a8:kk<=100000) (h:Sv 3 m [K,m.length] 4194304 kk s) :
    gJ (n2:Int) (n3:Int) s.f0 s.f1 s.f2 s.f3 s.f4 false=some true:=by
  have hm:=hL.le;have S:s.f0.length=3:=h.ctv.count hL h.cl;have L:∀ e:Int,(e=3\/e=4)->(if (e==4)=true then some true else some (e==3))=some true:=λe he=>by rcases he with rfl | rfl <;> rfl
  obtain⟨j,T⟩:∃ j,j=n2 % 3:=⟨_,rfl⟩;have a9:j<3:=by omega
  have hx:=List.getElem?_eq_getElem (l:=s.f0) (i:=j) (by omega);have g:s.f0[j]∈s.f0:=List.getElem_mem (by omega);generalize s.f0[j]=x at hx g;have M:=aGl h.ctv.si.rise g;have N:=h.ctv.si.form x g;have h32:=aKz N;have U:(s.f0.map S98.f0)[j]?=some x.f0:=by rw [List.getElem?_map,hx]; rfl
  have b1:=h.ctv.si.one g;have W:Bs x.f1:=h.ctv.si.byt x g;have p:=h.ctv.ri;have r:=(h.ctv.mem hL h.cl x).1 g;have b3:0<x.f1.length:=by
    unfold wT at r;rcases List.mem_append.1 r with hc | hc
    · obtain rfl:=List.mem_singleton.1 hc
      show 0<(fB 99 _).length;rw [jC];omega
    · obtain⟨e,he,rfl⟩:=List.mem_map.1 hc
      obtain⟨a,b,_,y,z,rfl⟩:=wJ p e he;obtain⟨_,b2⟩:=(hL.seg y z).bytes;show 0<(qS (pc m ((a:Int)).toNat ((b:Int)).toNat) (3:Int).toNat).length;rw [Int.toNat_natCast,Int.toNat_natCast];omega
  obtain⟨bit,O⟩:∃ bit,bit=n3 % (8 * x.f1.length):=⟨_,rfl⟩;have X:bit<8 * x.f1.length:=by rw [O]; exact Nat.mod_lt _ (by omega)
  have k:=aTj W X;have Y:xB s x.f0=(x.f1,0):=by unfold xB;rw [if_pos (vZ N h.f3),M]
  have D:aN9 s x.f0 (bit:Int)=(0,{ s with f0:=put s.f0 ⟨x.f0,aBp x.f1 (bit:Int),x.f2⟩ }):=by unfold aN9;rw [M];dsimp only;rw [if_neg (by omega)]
  have A:=h.ctv.si.spo (n:=x.f0) (bit:Int);rw [D] at A;have C:∀ f,get (put s.f0 ⟨x.f0,aBp x.f1 (bit:Int),x.f2⟩) f=if x.f0=f then some ⟨x.f0,aBp x.f1 (bit:Int),x.f2⟩ else get s.f0 f:=vY h.ctv.si.rise _
  generalize aBp x.f1 (bit:Int)=B at D A C k;unfold gJ;rw [if_neg (by simp),show (⟨s.f0,s.f1,s.f2,s.f3,s.f4⟩:S77)=s from rfl,h.ctv.si.Names,Option.bind_some,lt_,List.length_map,S,w64 (n:=(n2:Int)) (by omega) (by omega),bL (by decide),lt_,show (n2:Int).tmod ((3:Nat):Int)=((n2 % 3:Nat):Int) from rfl, ← T,bE rfl U,Option.bind_some,h.ctv.si.Read (by omega),Y,Option.bind_some,lt_,w64 (n:=(n3:Int)) (by omega) (by omega),lt_,w64 (n:=8 * (x.f1.length:Int)) (by omega) (by omega),bL (by omega),lt_,show (n3:Int).tmod (8 * (x.f1.length:Int))=((n3 % (8 * x.f1.length):Nat):Int) from rfl, ← O,h.ctv.si.Spoil,D,Option.bind_some,Option.bind_some,if_neg (by simp)];unfold wT at r;rcases List.mem_append.1 r with hc | hc
  · obtain rfl:=List.mem_singleton.1 hc
    obtain⟨e,he,w⟩:=aTm (B:=B) (t:=((aM5 3 m [K,m.length]).length:Int)) hL p A h.f3 (by
      show get (put s.f0 _) oB=_;rw [C];exact if_pos rfl) k
    rw [w,Option.bind_some,if_pos (c:=((aIz oB (aM5 3 m [K,m.length])).f0==[99,97,116])=true) (show (oB==([99,97,116]:List UInt8))=true by decide),if_pos (by rfl)];exact L e he
  · obtain⟨en,E,rfl⟩:=List.mem_map.1 hc
    obtain⟨a,b,_,y,z,rfl⟩:=wJ p en E;have P:=aC3 (aAi a b);have Z:(aFl 3 m (iQ m a b)).f1=qS (pc m a b) (3:Int).toNat:=by show qS (pc m ((a:Int)).toNat ((b:Int)).toNat) (3:Int).toNat=_;rw [Int.toNat_natCast,Int.toNat_natCast]
    rw [Z] at k;obtain⟨s',w,F,G,keep⟩:=aUb hL p (by simp) A (by omega) h.f2 h.f3 (by
      show get (put s.f0 _) oB=_;rw [C];exact (if_neg P.2).trans (h.ctv.ct.cat (by simp)))
    have d:aY m 0 [K,m.length]=[iQ m 0 K,iQ m K m.length]:=rfl;have H:∀ u v,iQ m u v∈aY m 0 [K,m.length]->get s'.f0 (kJ u v)=if kJ a b=kJ u v then some ⟨kJ a b,B,(aFl 3 m (iQ m a b)).f2⟩ else some (aFl 3 m (iQ m u v)):=λu v Q=>by
      have o:=keep _ Q;rw [show (iQ m u v).f0=kJ u v from rfl] at o;rw [o];show get (put s.f0 _) (kJ u v)=_;rw [C];show (if kJ a b=kJ u v then _ else _)=_;split
      · rfl
      · exact h.ctv.ct.segs _ Q
    have a0:∃ e:Int,(e=3\/e=4)/\eR (gQ 3 m [K,m.length]) tX s'=some ([],0,e,gQ 3 m [K,m.length],s'):=by
      unfold eR;rw [d] at E;rcases List.mem_cons.1 E with q | q
      · have q1:(a:Int)=(0:Nat):=congrArg S46.f1 q
        have q2:(b:Int)=(K:Nat):=congrArg S46.f2 q;have I:a=0:=by omega
        have J:b=K:=by omega
        subst I J;obtain⟨e,he,hb⟩:=aNi (es:=aY m 0 [b,m.length]) (i:=0) (by rw [d]; simp) hL G F rfl (by rw [H 0 b (by rw [d]; simp),if_pos rfl]) k y z [] 0;refine⟨e,he,?_⟩;unfold gQ;rw [bK (b:=λt:List S61×Int×Int=>bB ⟨(),3,aY m 0 [b,m.length]⟩ tX s' t.1 t.2.1 t.2.2) (s:=([],0,0)) hb];rfl
      · have R:=List.mem_singleton.1 q
        have q1:(a:Int)=(K:Nat):=congrArg S46.f1 R;have q2:(b:Int)=(m.length:Nat):=congrArg S46.f2 R;have I:a=K:=by omega
        have J:b=m.length:=by omega
        subst I J;have a3:¬ kJ a m.length=kJ 0 a:=λe=>by have:=(aHb (by omega) (by omega) (by omega) (by omega) e).1;omega
        have a4:=aJq (f:=tX) (es:=aY m 0 [a,m.length]) (i:=0) (a:=0) (b:=a) (q:=0) (acc:=[]) (by rw [d]; simp) (by rw [d]; simp) hL G F rfl (by rw [H 0 a (by rw [d]; simp),if_neg a3]) o (by omega) (Nat.le_refl _) (Nat.le_refl _);obtain⟨e,he,hb⟩:=aNi (es:=aY m 0 [a,m.length]) (i:=1) (by rw [d]; simp) hL G F rfl (by rw [H a m.length (by rw [d]; simp),if_pos rfl]) k y z ([]++((pc m 0 a).filter (jB tX)).map dI) ((0+(if qX tX (ckL (pc m 0 a) 0)=true then (dR (pcs 64 (pc m 0 a)) 0).countP (qX tX) else 0):Nat):Int);refine⟨e,he,?_⟩;unfold gQ;rw [cL (b:=λt:List S61×Int×Int=>bB ⟨(),3,aY m 0 [a,m.length]⟩ tX s' t.1 t.2.1 t.2.2) (s:=([],0,0)) a4,bK (b:=λt:List S61×Int×Int=>bB ⟨(),3,aY m 0 [a,m.length]⟩ tX s' t.1 t.2.1 t.2.2) hb];rfl
    obtain⟨e,he,a5⟩:=a0;unfold aCg;rw [w,Option.bind_some,if_neg (by rw [show (aFl 3 m (iQ m a b)).f0=kJ a b from rfl,show ([99,97,116]:List UInt8)=oB from rfl]; simpa using P.2),Option.bind_some,Option.bind_some,show (⟨0,1099511627776,-1099511627776,1099511627776⟩:S26)=tX from rfl,a5,Option.bind_some,if_pos (by rfl),if_pos (by rfl)];exact L e he
theorem CatalogSpoilt (a0:List S61) (d a2 a3:Int) (h0:gL 48 g61 a0) (e:gI .u8 d) (f:gI .u8 a2) (g:gI .u32 a3):lH a0 d a2 a3=some true:=by
  obtain⟨n1,rfl⟩:=Int.eq_ofNat_of_zero_le (aPi e).1;have r:=(aPi e).2;obtain⟨n2,rfl⟩:=Int.eq_ofNat_of_zero_le (aPi f).1;have hn2:=(aPi f).2;obtain⟨n3,rfl⟩:=Int.eq_ofNat_of_zero_le (bBp g).1;have s:=(bBp g).2;obtain⟨m,hm,hL⟩:=aYy (aZ3 h0) (k:=3) (by decide);have hle:=hL.le;unfold lH;rw [aQm,Option.bind_some,if_neg (by simp),hm,Option.bind_some];by_cases c:m.length<2
  · rw [if_pos (by simp only [decide_eq_true_eq]; omega)]
  obtain⟨K,hK⟩:∃ K,K=1+n1 % (m.length - 1):=⟨_,rfl⟩;have t:=Nat.mod_lt n1 (show m.length - 1>0 by omega);have h:0<K:=by omega
  have i:K<m.length:=by omega
  obtain⟨s0,o,v0⟩:=aPo (aR1 3 m (R:=4194304) (by decide) (by decide)) hL (by omega);obtain⟨s1,j,p⟩:=aGn (b:=K) v0 hL (by omega) (by simp) h (by omega) (aPj hL (by simp) (by decide));obtain⟨u,l,q⟩:=aGn (b:=m.length) p hL (by omega) (by simp) i (by omega) (aPj hL (by simp) (by decide));rw [show jG 0 []=0 from rfl] at j;rw [show jG 0 ([]++[K])=K from rfl] at l;have c1:kO m 0 (K:Int)=some (pc m 0 K):=aUm (a:=0) (Nat.zero_le _) (by omega);have c2:kO m (K:Int) (m.length:Int)=some (pc m K m.length):=aUm (by omega) (Nat.le_refl _);rw [if_neg (by simp only [decide_eq_true_eq]; omega),lt_,w64 (n:=(n1:Int)) (by omega) (by omega),lt_,w64 (n:=(m.length:Int) - 1) (by omega) (by omega),bL (by omega),lt_,show (m.length:Int) - 1=((m.length - 1:Nat):Int) by omega,show (n1:Int).tmod ((m.length - 1:Nat):Int)=((n1 % (m.length - 1):Nat):Int) from rfl,lt_,w64 (by omega) (by omega),show (1:Int)+((n1 % (m.length - 1):Nat):Int)=(K:Int) by omega,aPe (by decide) (by decide),Option.bind_some,Option.bind_some,o,Option.bind_some,Option.bind_some,c1,Option.bind_some,j,Option.bind_some,if_neg (by simp),c2,Option.bind_some,l,Option.bind_some];exact aQs hL h i (by omega) (by omega) (by omega) q
end Go.Proofs.YtdkpjpoajlmmfaaGreatDoor.P
