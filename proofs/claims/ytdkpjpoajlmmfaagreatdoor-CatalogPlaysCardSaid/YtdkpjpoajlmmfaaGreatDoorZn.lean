/- Texts of the claim, joined: what it uses of Wb, Wc, Wd, We, Wf, Wg, Wh, Wi, Wj, Wk, Wl. -/
import Derived.Test.YtdkpjpoajlmmfaaGreatDoorZm
namespace Go.Proofs.YtdkpjpoajlmmfaaGreatDoor.P
open Go Go.RowKit Go.Proofs.YtdkpjpoajlmmfaaGreatDoor.E Go.Proofs.YtdkpjpoajlmmfaaGreatDoor.M
set_option linter.unusedVariables false
set_option linter.unusedSectionVars false
theorem aNo (l:List S46) (n:List UInt8) (hl:l.length<4611686018427387904):∀ (m i:Nat),i+m=l.length ->
    ∃ j:Int,((loop (λs:List UInt8×Int=>aL l s.1 s.2) (n,(i:Int))).bind λt=>match t with | (.inl t)=>cF t | (.inr t)=>some t)=some (j,n)/\decide (0<=j)=(l.drop i).any (λe=>e.f0==n)
  | 0,i,hi=>by
    rw [bE (b:=λs:List UInt8×Int=>aL l s.1 s.2) (t:=.inl n) (by
      show aL l n (i:Int)=_;unfold aL;rw [if_neg (by simp only [decide_eq_true_eq];omega)]),List.drop_of_length_le (by omega)]
    exact⟨-1,rfl,rfl⟩
  | m+1,i,hi=>by
    have hx:=List.getElem?_eq_getElem (l:=l) (i:=i) (by omega);have hr:aL l n (i:Int)=if (l[i].f0==n)=true then some (.inr (.inr ((i:Int),n))) else some (.inl (n,((i+1:Nat):Int))):=by
      unfold aL kT;rw [if_pos (by simp only [decide_eq_true_eq];omega),bB rfl hx];simp only [bGi];split
      · rfl
      · rw [lt_,w64 (by omega) (by omega)];rfl
    rw [List.drop_eq_getElem_cons (by omega),List.any_cons];by_cases c:(l[i].f0==n)=true
    · rw [if_pos c] at hr
      rw [bE (b:=λs:List UInt8×Int=>aL l s.1 s.2) hr,c];exact⟨(i:Int),rfl,by simp⟩
    · rw [if_neg c] at hr
      rw [cD (b:=λs:List UInt8×Int=>aL l s.1 s.2) hr,show (l[i].f0==n)=false by simpa using c,Bool.false_or];exact aNo l n hl m (i+1) (by omega)
theorem aMo (l:List S46) (n:List UInt8) (hl:l.length<4611686018427387904):bU l n=some (l.any (λe=>e.f0==n),n):=by obtain⟨j,a,b⟩:=aNo l n hl l.length 0 (by omega);have c:cY l n=some (j,n):=a;unfold bU;rw [c];simp only [bGi];rw [b,List.drop_zero]
def tC (l:List S46) (f:List UInt8):Bool:=(f==qZ)||(xI f && !(l.any λe=>e.f0==f))
def swg (go:List UInt8->Bool):List (List UInt8)->S77->Int×S77
  | [],s=>(0,s)
  | f::r,s=>if go f=true then (if (uJ s f).1=0 then swg go r (uJ s f).2 else uJ s f) else swg go r s
def wc (c:S79) (p:Int×S77):Int×S79×S77:=(p.1,c,p.2)
theorem aSg {kk:Nat} {s:S77} (h:SI kk s) (hk:kk<4611686018427387904) (c:S79) (hc:c.f2.length<=1000000) {L:List (List UInt8)} {i:Nat} {f:List UInt8} (hf:L[i]?=some f) (hl:f.length<=32) (hL:L.length<=500) :
    bP c L s.f0 s.f1 s.f2 s.f3 s.f4 (i:Int)=if tC c.f2 f=true then (if (uJ s f).1=0 then some (.inl ((uJ s f).2.f0,(uJ s f).2.f1,(uJ s f).2.f2,(uJ s f).2.f3,(uJ s f).2.f4,((i+1:Nat):Int))) else some (.inr (.inr (wc c (uJ s f))))) else some (.inl (s.f0,s.f1,s.f2,s.f3,s.f4,((i+1:Nat):Int))):=by
  have hi:=(List.getElem?_eq_some_iff.1 hf).1;have j:∀ (l:List S98) (a b:Int) (c:Bool) (d:Int),fF (i:Int) l a b c d=some (.inl (l,a,b,c,d,((i+1:Nat):Int))):=by intro l a b c d;unfold fF;rw [lt_,w64 (by omega) (by omega)];rfl
  have k:∀ (b g:Bool),eB c s.f0 s.f1 s.f2 s.f3 s.f4 (i:Int) (b,f) g=if g=true then (if (uJ s f).1=0 then some (.inl ((uJ s f).2.f0,(uJ s f).2.f1,(uJ s f).2.f2,(uJ s f).2.f3,(uJ s f).2.f4,((i+1:Nat):Int))) else some (.inr (.inr (wc c (uJ s f))))) else some (.inl (s.f0,s.f1,s.f2,s.f3,s.f4,((i+1:Nat):Int))):=by
    intro b g;unfold eB;cases g with
    | false=>rw [if_neg (by simp),if_neg (by simp),j]
    | true =>
      rw [if_pos rfl,if_pos rfl,show (⟨s.f0,s.f1,s.f2,s.f3,s.f4⟩:S77)=s from rfl,show ((b,f):Bool×List UInt8).2=f from rfl,h.Delete hk (by omega)];simp only [bGi];by_cases c1:(uJ s f).1=0
      · rw [if_neg (by simp [c1]),if_pos c1,j]
      · rw [if_pos (by simpa using c1),if_neg c1]
        rfl
  unfold bP;rw [if_pos (by simp only [decide_eq_true_eq];omega),bB rfl hf];simp only [bGi];rw [aMo _ _ (by omega)];simp only [bGi];rw [show ([99,97,116,46,116,109,112]:List UInt8)=qZ from rfl,show ([115,101,103,46]:List UInt8)=preS from rfl,aSf f (by omega)];simp only [bGi,k];unfold tC;cases (f==qZ) <;> cases xI f <;> cases (c.f2.any λe=>e.f0==f) <;> rfl
theorem aI8 (c:S79) (hc:c.f2.length<=1000000) {L:List (List UInt8)} (hL:L.length<=500) (h32:∀ f∈L,f.length<=32):∀ (m i kk:Nat) (s:S77),i+m=L.length->SI kk s->kk+m<4611686018427387904 ->
    ((loop (λq:List S98×Int×Int×Bool×Int×Int=>bP c L q.1 q.2.1 q.2.2.1 q.2.2.2.1 q.2.2.2.2.1 q.2.2.2.2.2) (s.f0,s.f1,s.f2,s.f3,s.f4,(i:Int))).bind λt=>match t with | (.inl t)=>iQ c t.1 t.2.1 t.2.2.1 t.2.2.2.1 t.2.2.2.2 | (.inr t)=>some t)=some (wc c (swg (tC c.f2) (L.drop i) s))
  | 0,i,kk,s,hi,h,hk=>by
    rw [bE (b:=λq:List S98×Int×Int×Bool×Int×Int=>bP c L q.1 q.2.1 q.2.2.1 q.2.2.2.1 q.2.2.2.2.1 q.2.2.2.2.2) (t:=.inl (s.f0,s.f1,s.f2,s.f3,s.f4)) (by
      show bP c L s.f0 s.f1 s.f2 s.f3 s.f4 (i:Int)=_;unfold bP;rw [if_neg (by simp only [decide_eq_true_eq];omega)]),List.drop_of_length_le (by omega)]
    rfl
  | m+1,i,kk,s,hi,h,hk=>by
    have hx:=List.getElem?_eq_getElem (l:=L) (i:=i) (by omega);have hr:=aSg h (by omega) c hc hx (h32 _ (List.getElem_mem (by omega))) hL;rw [List.drop_eq_getElem_cons (by omega)];unfold swg;by_cases c1:tC c.f2 L[i]=true
    · rw [if_pos c1] at hr ⊢
      by_cases c2:(uJ s L[i]).1=0
      · rw [if_pos c2] at hr ⊢
        rw [cD (b:=λq:List S98×Int×Int×Bool×Int×Int=>bP c L q.1 q.2.1 q.2.2.1 q.2.2.2.1 q.2.2.2.2.1 q.2.2.2.2.2) hr];exact aI8 c hc hL h32 m (i+1) (kk+1) _ (by omega) (h.del (n:=L[i])) (by omega)
      · rw [if_neg c2] at hr ⊢
        rw [bE (b:=λq:List S98×Int×Int×Bool×Int×Int=>bP c L q.1 q.2.1 q.2.2.1 q.2.2.2.1 q.2.2.2.2.1 q.2.2.2.2.2) hr];rfl
    · rw [if_neg c1] at hr ⊢
      rw [cD (b:=λq:List S98×Int×Int×Bool×Int×Int=>bP c L q.1 q.2.1 q.2.2.1 q.2.2.2.1 q.2.2.2.2.1 q.2.2.2.2.2) hr];exact aI8 c hc hL h32 m (i+1) kk _ (by omega) h (by omega)
theorem aJa (go:List UInt8->Bool):∀ (L:List (List UInt8)) (s:S77) (kk:Nat),SI kk s->s.f3=false->L.Nodup->(∀ f∈L,∃ x,get s.f0 f=some x) ->
    SI (kk+L.length) (swg go L s).2/\Kp s (swg go L s).2/\(∀ f,go f=false->get (swg go L s).2.f0 f=get s.f0 f)/\(∀ f x,get (swg go L s).2.f0 f=some x->get s.f0 f=some x) /\
      (used (swg go L s).2.f0<=used s.f0/\(swg go L s).2.f0.length<=s.f0.length) /\
      (((swg go L s).1=0/\(swg go L s).2.f3=false/\∀ f∈L,go f=true->get (swg go L s).2.f0 f=none)\/((swg go L s).1=9/\(swg go L s).2.f3=true))
  | [],s,kk,h,hon,hnd,hL=>⟨h,Kp.refl s,λ_ _=>rfl,λ_ _ q=>q,⟨Nat.le_refl _,Nat.le_refl _⟩,.inl ⟨rfl,hon,λf hf=>by cases hf⟩⟩
  | f::L,s,kk,h,hon,hnd,hL=>by
    obtain⟨hf,p⟩:=List.nodup_cons.1 hnd;unfold swg;by_cases c:go f=true
    · rw [if_pos c]
      obtain⟨x,hx⟩:=hL f List.mem_cons_self;have r:=h.del (n:=f);obtain⟨kp,hd⟩:=aHx h hon hx λx=>del s.f0 f;have C:=aJd h.rise f;have D:=aLw h.rise f;rcases hd with ⟨e0,u,k⟩ | ⟨v,w,k⟩
      · have z:(uJ s f).1=0:=e0
        have i:(uJ s f).2.f0=del s.f0 f:=k;rw [if_pos z];have A:∀ g∈L,∃ x,get (uJ s f).2.f0 g=some x:=λg hg=>by obtain⟨y,j⟩:=hL g (List.mem_cons_of_mem _ hg);refine⟨y,?_⟩;rw [i,aDg h.rise,if_neg (λe=>hf (by rw [e];exact hg))];exact j
        obtain⟨l,m,i3,i4,⟨i5,B⟩,o⟩:=aJa go L (uJ s f).2 (kk+1) r u p A;refine⟨by rw [List.length_cons,show kk+(L.length+1)=kk+1+L.length by omega];exact l,Kp.trans kp m,λg hg=>?_,λg y j=>?_,⟨?_,?_⟩,?_⟩
        · rw [i3 g hg,i,aDg h.rise,if_neg (λe=>by subst e;rw [c] at hg;cases hg)]
        · have:=i4 g y j
          rw [i,aDg h.rise] at this;split at this
          · cases this
          · exact this
        · rw [i] at i5;omega
        · rw [i] at B;omega
        · rcases o with ⟨a,b,d⟩ | q
          · refine .inl ⟨a,b,λg hg cg=>?_⟩
            rcases List.mem_cons.1 hg with rfl | hg
            · cases hq:get (swg go L (uJ s g).2).2.f0 g with
              | none=>rfl
              | some y =>
                have:=i4 g y hq;rw [i,aDg h.rise,if_pos rfl] at this;cases this
            · exact d g hg cg
          · exact .inr q
      · have t:(uJ s f).1=9:=v
        have i:(uJ s f).2.f0=s.f0:=k;rw [if_neg (by rw [t];decide)];exact⟨r.mono (by rw [List.length_cons];omega),kp,λg _=>by rw [i],λg y j=>by rw [i] at j;exact j,⟨by rw [i];exact Nat.le_refl _,by rw [i];exact Nat.le_refl _⟩,.inr ⟨t,w⟩⟩
    · rw [if_neg c]
      obtain⟨l,m,i3,i4,i5,o⟩:=aJa go L s kk h hon p λg hg=>hL g (List.mem_cons_of_mem _ hg);refine⟨l.mono (by rw [List.length_cons];omega),m,i3,i4,i5,?_⟩;rcases o with ⟨a,b,d⟩ | q
      · refine .inl ⟨a,b,λg hg cg=>?_⟩
        rcases List.mem_cons.1 hg with rfl | hg
        · exact absurd cg c
        · exact d g hg cg
      · exact .inr q
theorem aSh {kk:Nat} {s:S77} (h:SI kk s) (hk:kk+500<4611686018427387904) (c:S79) (hc:c.f2.length<=1000000):cZ c s=some (wc c (swg (tC c.f2) (s.f0.map S98.f0) s)):=by
  have hl:=h.len;unfold cZ;rw [h.Names];simp only [bGi];have:=aI8 c hc (L:=s.f0.map S98.f0) (by simpa using hl) (λf hf=>by
    obtain⟨x,hx,rfl⟩:=List.mem_map.1 hf;exact aQn (h.form x hx)) s.f0.length 0 kk s (by simp) h (by omega)
  rw [List.drop_zero] at this;exact this
def aG6 (e:S46):List Int:=uv e.f1.toNat++(uv e.f2.toNat++(uv (zz e.f3)++uv (zz e.f4)))
def zX:List S46->List Int
  | []=>[]
  | e::l=>aG6 e++zX l
def aE6 (pt:Int) (l:List S46):List Int:=uv pt.toNat++(uv l.length++zX l)
structure EOk (a:Nat) (e:S46):Prop where
  fr:e.f1=a
  lt:e.f1<e.f2
  le:e.f2<1000
  nm:e.f0=qA e.f1.toNat e.f2.toNat
  lo : -1099511627776<=e.f3
  hi:e.f4<=1099511627776
  lh:e.f3<=e.f4
inductive Chain:Nat->List S46->Prop
  | nil (a:Nat):Chain a []
  | cons {a:Nat} {e:S46} {l:List S46} (h:EOk a e) (hl:Chain e.f2.toNat l):Chain a (e::l)
theorem aQh (e:S46):Bs (aG6 e):=(Bs.uv _).app ((Bs.uv _).app ((Bs.uv _).app (Bs.uv _)))
theorem aH4:∀ l:List S46,Bs (zX l)
  | []=>Bs.nil
  | e::l=>(aQh e).app (aH4 l)
theorem aLf (pt:Int) (l:List S46):Bs (aE6 pt l):=(Bs.uv _).app ((Bs.uv _).app (aH4 l))
theorem EOk.i64 {a:Nat} {e:S46} (h:EOk a e):P.i64 e.f3/\P.i64 e.f4:=by have:=h.lo;have:=h.hi;have:=h.lh;unfold P.i64;omega
theorem EOk.len {a:Nat} {e:S46} (h:EOk a e):(aG6 e).length<=40:=by have b:=aO (n:=e.f1.toNat) (by have:=h.le;have:=h.lt;omega);have c:=aO (n:=e.f2.toNat) (by have:=h.le;omega);have d:=aO (xD h.i64.1);have f:=aO (xD h.i64.2);simp only [aG6,List.length_append];omega
theorem Chain.len:∀ {a:Nat} {l:List S46},Chain a l->(zX l).length<=40 * l.length
  | _,_,.nil _=>Nat.le_refl _
  | _,_,.cons h hl=>by have:=h.len;have:=Chain.len hl;simp only [zX,List.length_append,List.length_cons];omega
theorem Chain.few:∀ {a:Nat} {l:List S46},Chain a l->a<1000->a+l.length<1000
  | _,_,.nil _,h=>by simpa using h
  | _,_,.cons h hl,_=>by have:=h.fr;have:=h.lt;have:=h.le;have:=Chain.few hl (by omega);simp only [List.length_cons];omega
theorem Chain.app:∀ {a:Nat} {l:List S46} {e:S46},Chain a l->EOk (match l.getLast? with | none=>a | some x=>x.f2.toNat) e->Chain a (l++[e])
  | a,[],e,_,h=>.cons h (.nil _)
  | a,x::l,e,.cons hx hl,h=>by
    refine .cons hx (Chain.app hl ?_);cases l with
    | nil=>exact h
    | cons y l =>
      rw [List.getLast?_cons_cons] at h;cases hq:(y::l).getLast? with
      | none=>simp at hq
      | some z=>rw [hq] at h;exact h
theorem aN0 (es:List S46):∀ (m i a:Nat) (b:List Int),i+m=es.length->Chain a (es.drop i)->b.length+40 * m<=1000000->es.length<=1000 ->
    loop (λs:List Int×Int=>cB es s.1 s.2) (b,(i:Int))=some (b++zX (es.drop i))
  | 0,i,a,b,hi,hc,hb,hl=>by refine bE ?_;show cB es b (i:Int)=_;unfold cB;rw [if_neg (by simp only [decide_eq_true_eq];omega),List.drop_of_length_le (by omega),zX,List.append_nil]
  | m+1,i,a,b,hi,hc,hb,hl=>by
    have hx:=List.getElem?_eq_getElem (l:=es) (i:=i) (by omega);rw [List.drop_eq_getElem_cons (by omega)] at hc ⊢;obtain⟨he,e⟩:EOk a es[i]/\Chain es[i].f2.toNat (es.drop (i+1)):=by cases hc with | cons c d=>exact⟨c,d⟩
    have c:=aO (n:=es[i].f1.toNat) (by have:=he.le;have:=he.lt;omega);have d:=aO (n:=es[i].f2.toNat) (by have:=he.le;omega);have f:=aO (xD he.i64.1);have hf:=he.fr;have g:=he.lt;have hr:cB es b (i:Int)=some (.inl (b++aG6 es[i],((i+1:Nat):Int))):=by unfold cB;rw [if_pos (by simp only [decide_eq_true_eq];omega),bB rfl hx];simp only [bGi];rw [show es[i].f1=((es[i].f1.toNat:Nat):Int) by omega,sY _ _ (by have:=he.le;omega) (by omega)];simp only [bGi,Int.toNat_natCast];rw [show es[i].f2=((es[i].f2.toNat:Nat):Int) by omega,sY _ _ (by have:=he.le;omega) (by simp only [List.length_append,Int.toNat_natCast];omega)];simp only [bGi,Int.toNat_natCast];rw [zV he.i64.1 _ (by simp only [List.length_append];omega)];simp only [bGi];rw [zV he.i64.2 _ (by simp only [List.length_append];omega)];simp only [bGi];rw [lt_,w64 (by omega) (by omega)];simp [aG6,List.append_assoc]
    rw [cD (b:=λs:List Int×Int=>cB es s.1 s.2) hr,aN0 es m (i+1) _ (b++aG6 es[i]) (by omega) e (by have:=he.len;simp only [List.length_append];omega) hl,zX,List.append_assoc]
theorem aO1 (l:List S46) (e:S46):aBy (l++[e])=e.f2:=by simp [aBy]
theorem aRy {e:S46} {n:List UInt8} (h:e.f0=n):(⟨n,e.f1,e.f2,e.f3,e.f4⟩:S46)=e:=by subst h;rfl
theorem aS6 {α β γ:Type} (v:α) (f:α->Option γ) (g:β->Option γ):((some (Sum.inl v:α⊕β)).bind λy=>fN y f g)=f v:=rfl
theorem aR4 {y:Int×S140} {pt:Int} {acc:List S46} {e:S46} {r:List Int} {i a:Nat} (he:EOk a e) (b:aBy acc=(a:Int)) (hB:Bs (aG6 e++r)) (hi:(i:Int)<y.1) (hi':i<=1000) (c:acc.length<=1000) :
    cG y (aG6 e++r) pt acc (i:Int)=some (.inl (r,pt,acc++[e],((i+1:Nat):Int))):=by
  have hf:=he.fr;have j:=he.lt;have hle:=he.le;have d:=he.lh;have f:((e.f1.toNat:Nat):Int)=e.f1:=by omega
  have g:((e.f2.toNat:Nat):Int)=e.f2:=by omega
  have e0:aG6 e++r=uv e.f1.toNat++(uv e.f2.toNat++(uv (zz e.f3)++(uv (zz e.f4)++r))):=by simp only [aG6,List.append_assoc]
  rw [e0] at hB ⊢;have b1:=hB.r;have b2:=b1.r;have h:=b2.r;unfold cG;rw [if_pos (by simpa using hi),rdU (by omega) (by omega) hB];rw [aS6];rw [rdU (by omega) (by omega) b1];rw [aS6];rw [rdI he.i64.1 b2];rw [aS6];rw [rdI he.i64.2 h];rw [aS6];rw [aQv (by omega) (by omega),bGi];rw [aX1 ⟨(),pt,acc⟩ (Nat.lt_of_le_of_lt c (by decide)),bGi];rw [b,if_pos (by rw [beq_iff_eq];omega),if_pos (by rw [decide_eq_true_eq];omega),decide_eq_true d,mI];rw [aS6];unfold eY;rw [bJ (by simp only [List.length_cons,List.length_nil];omega),lt_,mE (n:=(i:Int)+1) (by omega) (by omega)];simp only [f,g,aRy he.nm];rw [show ((i+1:Nat):Int)=(i:Int)+1 by omega]
theorem aJ6 {y:Int×S140} {pt:Int}:∀ (es:List S46) (i a:Nat) (acc:List S46),Chain a es->aBy acc=(a:Int)->acc.length=i->y.1=((i+es.length:Nat):Int)->i+es.length<=500 ->
    loop (λs:List Int×Int×List S46×Int=>cG y s.1 s.2.1 s.2.2.1 s.2.2.2) (zX es,pt,acc,(i:Int))=some (.inl ([],pt,acc++es))
  | [],i,a,acc,hc,hend,hacc,hy,hl=>by refine bE ?_;show cG y [] pt acc (i:Int)=_;unfold cG;rw [if_neg (by rw [hy];simp),List.append_nil]
  | e::es,i,a,acc,.cons he hc,hend,hacc,hy,hl=>by simp only [List.length_cons] at hy hl;have hr:=aR4 (y:=y) (pt:=pt) (r:=zX es) (i:=i) he hend ((aQh e).app (aH4 es)) (by rw [hy];omega) (by omega) (by omega);rw [show zX (e::es)=aG6 e++zX es from rfl,cD (b:=λs:List Int×Int×List S46×Int=>cG y s.1 s.2.1 s.2.2.1 s.2.2.2) hr];have:=he.fr;have:=he.lt;rw [aJ6 es (i+1) e.f2.toNat (acc++[e]) hc (by rw [aO1];omega) (by simp [hacc]) (by rw [hy];congr 1;omega) (by omega),List.append_assoc];rfl
theorem aWr {pt:Int} {es:List S46} (hp:1<=pt/\pt<=8) (hc:Chain 0 es) (hl:es.length<=500):kJ ⟨(),pt,[]⟩ (jQ 99 (aE6 pt es))=some (0,⟨(),pt,es⟩):=by have a:=aO (n:=pt.toNat) (by omega);have b:=aO (n:=es.length) (by omega);have c:=hc.len;have hB:=aLf pt es;unfold kJ;rw [aZd (by decide) hB (by simp only [aE6,List.length_append];omega)];simp only [bGi];rw [if_neg (by decide)];unfold lY lI;simp only [lt_];rw [mE (n:=pt) (by omega) (by omega),show aE6 pt es=uv pt.toNat++(uv es.length++zX es) from rfl,rdU (by omega) (by omega) hB];simp only [bGi,hT];rw [show ((pt.toNat:Nat):Int)=pt by omega,show (pt==pt)=true by simp,mI];simp only [bGi,hT];rw [rdU (by omega) (by omega) hB.r];simp only [bGi,hT];have hL:=aJ6 (y:=((es.length:Int),(⟨zX es⟩:S140))) (pt:=pt) es 0 0 [] hc rfl rfl (by simp) (by omega);rw [show ((0:Nat):Int)=0 from rfl] at hL;rw [hL];rfl
theorem aU2 (l:List Nat):rl (l.map jZ)=rl l:=by unfold rl;rw [List.map_map];exact List.map_congr_left λx _=>by show IntKind.i64.wrap ((jZ (jZ x):Nat):Int)=_;rw [wQ]
theorem aHs (l:List S61):yV (l.map dD)=yV l:=by
  have a:oA (l.map dD)=oA l:=by unfold oA;rw [List.map_map];rfl
  have b:jJ (l.map dD)=jJ l:=by unfold jJ;rw [List.map_map];rfl
  have c:jK (l.map dD)=jK l:=by unfold jK;rw [List.map_map];rfl
  have d:nP (l.map dD)=nP l:=by unfold nP;rw [List.map_map];rfl
  have e:mQ (l.map dD)=(mQ l).map jZ:=by unfold mQ;rw [List.map_map,List.map_map];rfl
  unfold yV;rw [a,b,c,d,e,aU2]
theorem aUq (l:List S61):pcs 64 (l.map dD)=(pcs 64 l).map (List.map dD):=by unfold pcs;rw [List.length_map,List.map_map];refine List.map_congr_left λk _=>?_;show ((l.map dD).drop (k * 64)).take 64=List.map dD ((l.drop (k * 64)).take 64);rw [List.map_take,List.map_drop]
theorem aIy:∀ cs:List (List S61),bW (cs.map (List.map dD))=bW cs
  | []=>rfl
  | c::cs=>by show pgL (c.map dD)++bW (cs.map (List.map dD))=pgL c++bW cs;rw [aIy cs];unfold pgL;rw [aHs]
theorem aM5:∀ (cs:List (List S61)) (a:Nat),fL (cs.map (List.map dD)) a=fL cs a
  | [],_=>rfl
  | c::cs,a=>by show ckL (c.map dD) (a:Int)::fL (cs.map (List.map dD)) (a+(pgL (c.map dD)).length)=ckL c (a:Int)::fL cs (a+(pgL c).length);rw [aM5 cs,aHy,show pgL (c.map dD)=pgL c by unfold pgL;rw [aHs]]
theorem aSe (l:List S61) (k:Nat):xL (l.map dD) k=xL l k:=by unfold xL;rw [aUq,aIy,aM5]
theorem Run.back {k a:Int} {l:List S61} (h:Run k a l):Run k a (l.map dD):=by
  refine⟨λe he=>?_,λe he=>?_,λi x hx=>?_⟩
  · obtain⟨x,hx,rfl⟩:=List.mem_map.1 he
    exact h.fm x hx
  · obtain⟨x,hx,rfl⟩:=List.mem_map.1 he
    exact⟨(h.gd x hx).1,aM1 (h.gd x hx).2⟩
  · rw [List.getElem?_map] at hx
    obtain⟨y,b,rfl⟩:=Option.map_eq_some_iff.1 hx;exact h.of i y b
theorem Seg.back {k:Int} {l:List S61} (h:Seg k l):Seg k (l.map dD):=by obtain⟨a,h0,b,hr⟩:=h.run;exact⟨h.k1,h.k8,by rw [List.length_map];exact h.ps,by rw [List.length_map];exact h.le,a,h0,by rw [List.length_map];exact b,hr.back⟩
def pc (m:List S61) (a b:Nat):List S61:=(m.drop a).take (b - a)
structure Lg (k:Int) (m:List S61):Prop where
  run:Run k 0 m
  le:m.length<=250
  k1:1<=k
  k8:k<=8
theorem zM {m:List S61} {a b:Nat} (h:b<=m.length):(pc m a b).length=b - a:=by unfold pc;simp;omega
theorem aPl {m:List S61} {a b c:Nat} (d:a<=b) (e:b<=c):pc m a b++pc m b c=pc m a c:=by
  unfold pc;have:(m.drop a).take (c - a)=(m.drop a).take (b - a)++((m.drop a).drop (b - a)).take (c - b):=by rw [show c - a=(b - a)+(c - b) by omega,List.take_add]
  rw [this,List.drop_drop,show a+(b - a)=b by omega]
theorem aL4 (m:List S61) (b:Nat):pc m 0 b=m.take b:=by unfold pc;simp
theorem aCr {k:Int} {m:List S61} (h:Run k 0 m) (a b:Nat):Run k a (pc m a b):=by have:=(h.drop a).take (b - a);rw [Int.zero_add] at this;exact this
theorem Lg.seg {k:Int} {m:List S61} (h:Lg k m) {a b:Nat} (c:a<b) (hb:b<=m.length):Seg k (pc m a b):=by have:=h.le;exact⟨h.k1,h.k8,by rw [zM hb];omega,by rw [zM hb];omega,a,by omega,by rw [zM hb];omega,aCr h.run a b⟩
def szB (n:Nat):Nat:=6100 * ((n+63) / 64)+2422
theorem Seg.size {k:Int} {l:List S61} (h:Seg k l):(xL l k.toNat).length<=szB l.length:=by
  obtain⟨b1,b2⟩:=h.bytes;obtain⟨f1,f2⟩:=h.foot;obtain⟨p1,p2,p3⟩:=aDr h.k8 h.cut;have hlen:(pcs 64 l).length=(l.length+64 - 1) / 64:=aBq;unfold szB;rw [b2];rw [hlen] at p1;have:l.length+64 - 1=l.length+63:=by omega
  rw [this] at p1;omega
theorem aFu {a b:Nat} (h:a<=b):szB a<=szB b:=by have:(a+63) / 64<=(b+63) / 64:=Nat.div_le_div_right (by omega);unfold szB;omega
def aEo (l:List S61):Int:=(ckL l 0).f4
def zE (l:List S61):Int:=(ckL l 0).f5
def jP (m:List S61) (a b:Nat):S46:=⟨qA a b,(a:Int),(b:Int),aEo (pc m a b),zE (pc m a b)⟩
def bA (m:List S61):Nat->List Nat->List S46
  | _,[]=>[]
  | a,b::r=>jP m a b::bA m b r
def eT:Nat->List Nat->Nat
  | a,[]=>a
  | _,b::r=>eT b r
def RiseN:Nat->List Nat->Nat->Prop
  | a,[],n=>a<=n
  | a,b::r,n=>a<b/\RiseN b r n
theorem RiseN.end_le:∀ {r:List Nat} {a n:Nat},RiseN a r n->a<=eT a r/\eT a r<=n
  | [],a,n,h=>⟨Nat.le_refl _,h⟩
  | b::r,a,n,h=>by have:=RiseN.end_le h.2;have:=h.1;show a<=eT b r/\eT b r<=n;omega
theorem RiseN.len:∀ {r:List Nat} {a n:Nat},RiseN a r n->a+r.length<=eT a r
  | [],a,n,h=>Nat.le_refl _
  | b::r,a,n,h=>by have:=RiseN.len h.2;have:=h.1;show a+(r.length+1)<=eT b r;omega
theorem aNg:∀ (r s:List Nat) (a:Nat),eT a (r++s)=eT (eT a r) s
  | [],_,_=>rfl
  | b::r,s,_=>aNg r s b
theorem aDd (m:List S61):∀ (r s:List Nat) (a:Nat),bA m a (r++s)=bA m a r++bA m (eT a r) s
  | [],_,_=>rfl
  | b::r,s,a=>by show jP m a b::bA m b (r++s)=jP m a b::(bA m b r++bA m (eT b r) s);rw [aDd m r s b]
theorem eC (m:List S61):∀ (r:List Nat) (a:Nat),(bA m a r).length=r.length
  | [],_=>rfl
  | b::r,a=>by show (bA m b r).length+1=r.length+1;rw [eC m r b]
theorem RiseN.app:∀ {r s:List Nat} {a n:Nat},RiseN a (r++s) n↔RiseN a r (eT a r)/\RiseN (eT a r) s n
  | [],s,a,n=>⟨λh=>⟨Nat.le_refl _,h⟩,λh=>h.2⟩
  | b::r,s,a,n=>by show a<b/\RiseN b (r++s) n↔(a<b/\RiseN b r (eT b r))/\RiseN (eT b r) s n;rw [RiseN.app (r:=r) (s:=s) (a:=b) (n:=n)];exact⟨λh=>⟨⟨h.1,h.2.1⟩,h.2.2⟩,λh=>⟨h.1.1,h.1.2,h.2⟩⟩
theorem RiseN.mono:∀ {r:List Nat} {a n b:Nat},RiseN a r n->n<=b->RiseN a r b
  | [],_,_,_,h,h'=>Nat.le_trans h h'
  | _::_,_,_,_,h,h'=>⟨h.1,RiseN.mono h.2 h'⟩
theorem aAu {m:List S61}:∀ {r:List Nat} {a n:Nat},RiseN a r n->∀ e∈bA m a r,∃ x y:Nat,a<=x/\x<y/\y<=n/\e=jP m x y
  | [],_,_,_,e,he=>by cases he
  | b::r,a,n,h,e,he=>by
    rcases List.mem_cons.1 he with rfl | he
    · exact⟨a,b,Nat.le_refl _,h.1,Nat.le_trans (RiseN.end_le h.2).1 (RiseN.end_le h.2).2,rfl⟩
    · obtain⟨x,y,g,c,d,f⟩:=aAu h.2 e he
      have:=h.1;exact⟨x,y,by omega,c,d,f⟩
theorem aNh (m:List S61):∀ (r:List Nat) (a:Nat),r≠[]->aBy (bA m a r)=(eT a r:Int)
  | [],a,h=>absurd rfl h
  | [b],a,_=>rfl
  | b::c::r,a,_=>by have:=aNh m (c::r) b (by simp);show aBy (jP m a b::bA m b (c::r))=_;unfold aBy at this ⊢;rw [show bA m b (c::r)=jP m b c::bA m c r from rfl] at this ⊢;rw [List.getLast?_cons_cons];exact this
theorem aRz (m:List S61) (r:List Nat):aBy (bA m 0 r)=(eT 0 r:Int):=by
  by_cases h:r=[]
  · subst h;rfl
  · exact aNh m r 0 h
theorem aUa {l:List S61} {k a:Int} (h:Run k a l) (h0:0<l.length) : -1099511627776<=aEo l/\zE l<=1099511627776/\aEo l<=zE l:=by
  have hb:=aTc l 0;have hx:=List.getElem_mem h0;obtain⟨_,_,i,j⟩:=hb _ hx;have e:ckL l 0=l.foldl ckF (ck0 l 0 (l[0]'h0)):=by
    cases l with
    | nil=>simp at h0
    | cons z c=>rfl
  have b:=aHg (λ_=>True) (λv => -1099511627776<=v/\v<=1099511627776) (λ_=>True) l (ck0 l 0 (l[0]'h0))
    ⟨⟨trivial,trivial⟩,⟨by have:=wJ (h.fm _ hx);exact⟨this.2.2.1,this.2.2.2.1⟩,by have:=wJ (h.fm _ hx);exact⟨this.2.2.1,this.2.2.2.1⟩⟩,trivial,trivial⟩
    λv d=>⟨trivial,by have:=wJ (h.fm _ d);exact⟨this.2.2.1,this.2.2.2.1⟩,trivial⟩
  rw [← e] at b;obtain⟨_,⟨f,g⟩,_⟩:=b;exact⟨f.1,g.2,by unfold aEo zE;omega⟩
theorem aBi {k:Int} {m:List S61} (h:Lg k m):∀ {r:List Nat} {a:Nat},RiseN a r m.length->Chain a (bA m a r)
  | [],_,_=>.nil _
  | b::r,a,hr=>by have hb:=(RiseN.end_le hr.2);have hle:=h.le;have g:=hr.1;obtain⟨c,d,f⟩:=aUa (aCr h.run a b) (by rw [zM (by omega)];omega);exact .cons (e:=jP m a b) ⟨rfl,by show (a:Int)<b;omega,by show (b:Int)<1000;omega,rfl,c,d,f⟩ (aBi h hr.2)
theorem aDe {k:Int} {m:List S61} (h:Lg k m) {r:List Nat} (hr:RiseN 0 r m.length) {e:S46} (he:e∈bA m 0 r):xI e.f0=true/\tB e.f0=true:=by obtain⟨x,y,a,b,c,rfl⟩:=aAu hr e he;have:=h.le;exact⟨aDj x y,aGg (by omega) (by omega)⟩
theorem aQi {m:List S61}:∀ {r:List Nat} {a n x y:Nat},RiseN a r n->n<=250->x<1000->y<1000->(bA m a r).any (λe=>e.f0==qA x y)=true->jP m x y∈bA m a r
  | [],_,_,_,_,_,_,_,_,h=>by cases h
  | b::r,a,n,x,y,hr,hn,hx,hy,h=>by
    have c:=hr.1;have d:=RiseN.end_le hr.2;rw [show bA m a (b::r)=jP m a b::bA m b r from rfl,List.any_cons,Bool.or_eq_true] at h;rcases h with h | h
    · obtain⟨rfl,rfl⟩:=aN8 (by omega) (by omega) hx hy (beq_iff_eq.1 h:qA a b=qA x y)
      exact List.mem_cons_self
    · exact List.mem_cons_of_mem _ (aQi hr.2 hn hx hy h)
def aV0 (k:Int) (m:List S61) (r:List Nat):List Int:=jQ 99 (aE6 k (bA m 0 r))
def aMe (k:Int) (m:List S61) (e:S46):S98:=aNl e.f0 (xL (pc m e.f1.toNat e.f2.toNat) k.toNat)
structure Ct (k:Int) (m:List S61) (r:List Nat) (l:List S98):Prop where
  cat0:r=[]->get l vL=none
  cat:r≠[]->get l vL=some (aNl vL (aV0 k m r))
  segs:∀ e∈bA m 0 r,get l e.f0=some (aMe k m e)
def aSw (m:List S61) (r:List Nat) (f:List UInt8):Prop:=f=vL\/∃ e∈bA m 0 r,f=e.f0
theorem Ct.of {k:Int} {m:List S61} {r:List Nat} {l a:List S98} (h:Ct k m r l) (hp:∀ f,aSw m r f->get a f=get l f):Ct k m r a :=
  ⟨λe=>(hp _ (.inl rfl)).trans (h.cat0 e),λe=>(hp _ (.inl rfl)).trans (h.cat e),λe he=>(hp _ (.inr ⟨e,he,rfl⟩)).trans (h.segs e he)⟩
theorem aJ0 (l:List S46):tC l vL=false:=by unfold tC;rw [aR3];rfl
theorem aId (l:List S46):tC l qZ=true:=by unfold tC;simp
theorem aFr {f:List UInt8} (h:xI f=true):f≠qZ/\f≠vL :=
  ⟨λe=>by rw [e] at h;exact absurd h (by decide),λe=>by rw [e] at h;exact absurd h (by decide)⟩
theorem aCt {k:Int} {m:List S61} (h:Lg k m) {r:List Nat} (hr:RiseN 0 r m.length) {f:List UInt8} (hf:aSw m r f):tC (bA m 0 r) f=false:=by
  rcases hf with rfl | ⟨e,he,rfl⟩
  · exact aJ0 _
  · have a:=(aFr (aDe h hr he).1).1
    unfold tC;rw [show ((bA m 0 r).any λx=>x.f0==e.f0)=true from List.any_eq_true.2 ⟨e,he,by simp⟩,show (e.f0==qZ)=false by simpa using a];simp
theorem aTz {m:List S61} {r:List Nat} {n x y:Nat} (hr:RiseN 0 r n) (hn:n<=250) (hx:x<1000) (a:y<1000) (h:jP m x y∉bA m 0 r):tC (bA m 0 r) (qA x y)=true:=by
  have:(bA m 0 r).any (λe=>e.f0==qA x y)=false:=by
    cases c:(bA m 0 r).any (λe=>e.f0==qA x y) with
    | false=>rfl
    | true=>exact absurd (aQi hr hn hx a c) h
  unfold tC;rw [this,aDj];simp
def CleanC (es:List S46) (l:List S98):Prop:=∀ f x,get l f=some x->tC es f=false
theorem CleanC.none {es:List S46} {l:List S98} (h:CleanC es l) {f:List UInt8} (hf:tC es f=true):get l f=none:=by
  cases hg:get l f with
  | none=>rfl
  | some x=>rw [h f x hg] at hf;cases hf
def aZa (l:List S98):Prop:=∀ f x,get l f=some x->f=vL\/f=qZ\/xI f=true
theorem aOc {kk:Nat} {s:S77} (h:SI kk s) (hk:kk+500<4611686018427387904) (j:s.f3=false) (c:S79) (hc:c.f2.length<=1000000) :
    ∃ e s',cZ c s=some (e,c,s')/\SI (kk+500) s'/\Kp s s'/\(∀ f,tC c.f2 f=false->get s'.f0 f=get s.f0 f)/\(∀ f x,get s'.f0 f=some x->get s.f0 f=some x)/\(used s'.f0<=used s.f0/\s'.f0.length<=s.f0.length) /\
      ((e=0/\s'.f3=false/\CleanC c.f2 s'.f0)\/(e=9/\s'.f3=true)):=by
  obtain⟨k,l,i3,i4,i5,m⟩:=aJa (tC c.f2) (s.f0.map S98.f0) s kk h j (aCl h.rise) λf hf=>by obtain⟨x,hx,rfl⟩:=List.mem_map.1 hf;exact⟨x,aLx h.rise hx⟩
  refine⟨_,_,aSh h hk c hc,k.mono (by have:=h.len;rw [List.length_map];omega),l,i3,i4,i5,?_⟩;rcases m with ⟨a,b,d⟩ | q
  · refine .inl ⟨a,b,λf x hx=>?_⟩
    cases g:tC c.f2 f with
    | false=>rfl
    | true =>
      have i:=i4 f x hx;have n:=d f (List.mem_map.2 ⟨x,(yE i).1,(yE i).2⟩) g;rw [n] at hx;cases hx
  · exact .inr q
def FitC (s:S77) (m c:Nat):Prop:=(used s.f0:Int)+m<=s.f1/\s.f0.length+c<=500
theorem FitC.mono {s:S77} {m a c b:Nat} (h:FitC s m c) (d:a<=m) (e:b<=c):FitC s a b:=⟨by have:=h.1;omega,by have:=h.2;omega⟩
theorem aKf {kk:Nat} {s:S77} (h:SI kk s) (hk:kk+500<4611686018427387904) (y:s.f3=false) (c:S79) {n:List UInt8} (hn:tB n=true) (hg:get s.f0 n=none) {p:List Int} (hp:Bs p) :
    ∃ e s',fK c n p s=some (e,c,s')/\SI (kk+2) s'/\Kp s s'/\(∀ f,f≠n->get s'.f0 f=get s.f0 f) /\
      ((e=0/\s'.f3=false/\get s'.f0 n=some (aNl n p))\/(e=9/\s'.f3=true)\/(e=10/\s'=s)) /\
      (∀ m c,FitC s (p.length+m) (c+1)->e≠10/\(e=0->FitC s' m c)):=by
  have h32:=aQn hn;obtain⟨j,r⟩:=aS4 h y hn p;have g:=h.app (n:=n) (p:=p) hp;have k:fK c n p s=(if ((rB s n p).1==0)=true then some ((aD5 (rB s n p).2 n).1,c,(aD5 (rB s n p).2 n).2) else some ((rB s n p).1,c,(rB s n p).2)):=by
    unfold fK;rw [h.Append (by omega) (by omega) p];simp only [bGi];split
    · rw [show oR (some (rB s n p).2) n=_ from g.Sync (by omega) (by omega)]
      rfl
    · rfl
  rw [hg] at r;have hu:=aC3 h.rise ⟨n,[]++p,0⟩;have hl:=aFd h.rise ⟨n,[]++p,0⟩;rw [hg] at hu hl;simp only [Option.getD_none,List.nil_append,Option.isSome_none,List.length_nil,Nat.add_zero] at hu hl;rcases r with ⟨e,es,hr⟩ | ⟨⟨e,on⟩ | ⟨e,off⟩,i⟩
  · refine⟨10,s,?_,h.mono (by omega),Kp.refl s,λ_ _=>rfl,.inr (.inr ⟨rfl,rfl⟩),λm c hf=>?_⟩
    · rw [k,e,es];rfl
    · exfalso
      obtain⟨f1,f2⟩:=hf;rcases hr with hr | hr <;> omega
  · simp only [Option.getD_none,List.nil_append] at i hu hl
    have hx:get (rB s n p).2.f0 n=some ⟨n,p,0⟩:=by rw [i,yF h.rise,if_pos rfl]
    obtain⟨t,l⟩:=aHx g on hx λx=>put (rB s n p).2.f0 ⟨x.f0,x.f1,x.f1.length⟩;have z:=g.syn (n:=n);have u:=aC3 g.rise ⟨n,p,p.length⟩;have o:=aFd g.rise ⟨n,p,p.length⟩;rw [hx] at u o;simp only [Option.getD_some,Option.isSome_some,if_true] at u o;refine⟨(aD5 (rB s n p).2 n).1,(aD5 (rB s n p).2 n).2,?_,z,Kp.trans j t,λf hf=>?_,?_,λm c v=>?_⟩
    · rw [k,e];rfl
    · rcases l with ⟨_,_,d⟩ | ⟨_,_,d⟩
      · rw [show (aD5 (rB s n p).2 n).2.f0=_ from d,yF g.rise,if_neg (λq=>hf q.symm),i,yF h.rise,if_neg (λq=>hf q.symm)]
      · rw [show (aD5 (rB s n p).2 n).2.f0=_ from d,i,yF h.rise,if_neg (λq=>hf q.symm)]
    · rcases l with ⟨a,b,d⟩ | ⟨a,b,d⟩
      · exact .inl ⟨a,b,by rw [show (aD5 (rB s n p).2 n).2.f0=_ from d,yF g.rise,if_pos rfl];rfl⟩
      · exact .inr (.inl ⟨a,b⟩)
    · rcases l with ⟨a,b,d⟩ | ⟨a,b,d⟩
      · refine⟨by rw [show (aD5 (rB s n p).2 n).1=0 from a];decide,λ_=>?_⟩
        obtain⟨f1,f2⟩:=v;have w:(aD5 (rB s n p).2 n).2.f0=put (rB s n p).2.f0 ⟨n,p,p.length⟩:=d;have A:=(Kp.trans j t).1;refine⟨?_,?_⟩
        · rw [show (aD5 (rB s n p).2 n).2.f1=s.f1 from A,w]
          have B:used (put (rB s n p).2.f0 ⟨n,p,p.length⟩)=used (rB s n p).2.f0:=by omega
          rw [B,i];omega
        · rw [w,o,i,hl]
          simp only [if_neg (by simp:¬ (false=true))];omega
      · refine⟨by rw [show (aD5 (rB s n p).2 n).1=9 from a];decide,λq=>?_⟩
        rw [show (aD5 (rB s n p).2 n).1=9 from a] at q;cases q
  · simp only [Option.getD_none,List.nil_append] at i
    refine⟨9,(rB s n p).2,?_,g.mono (by omega),j,λf hf=>?_,.inr (.inl ⟨rfl,off⟩),λm c v=>⟨by decide,λq=>by cases q⟩⟩
    · rw [k,e];rfl
    · rw [i,yF h.rise,if_neg (λq=>hf q.symm)]
theorem aM2 {k:Int} {es:List S46} (hk:1<=k/\k<=8) (hc:Chain 0 es) (hl:es.length<=250):(jQ 99 (aE6 k es)).length<=40 * es.length+40:=by have a:=aO (n:=k.toNat) (by omega);have b:=aO (n:=es.length) (by omega);have c:=hc.len;rw [sH];simp only [aE6,List.length_append];omega
theorem aL6 {kk:Nat} {s:S77} (h:SI kk s) (hk:kk+500<4611686018427387904) (q:s.f3=false) {k:Int} (w:1<=k/\k<=8) {old es:List S46} (hc:Chain 0 es) (hl:es.length<=250) (hg:get s.f0 qZ=none) :
    ∃ e s',cQ ⟨(),k,old⟩ es s=some (e,⟨(),k,if e=0 then es else old⟩,s')/\SI (kk+3) s'/\Kp s s'/\(∀ f,f≠qZ->f≠vL->get s'.f0 f=get s.f0 f) /\
      ((e=0/\s'.f3=false/\get s'.f0 vL=some (aNl vL (jQ 99 (aE6 k es)))/\get s'.f0 qZ=none)\/((e=9/\s'.f3=true\/e=10/\s'.f3=false)/\get s'.f0 vL=get s.f0 vL)) /\
      (FitC s (40 * es.length+40) 1->e≠10):=by
  have H:=aM2 w hc hl;have hBs:Bs (jQ 99 (aE6 k es)):=aCn (by decide) (aLf k es);have I:=aO (n:=k.toNat) (by omega);have J:=aO (n:=es.length) (by omega);have K:=hc.len;have y:=sY k.toNat [] (by omega) (by simp only [List.length_nil];omega);have z:=sY es.length (uv k.toNat) (by omega) (by omega);have r:=aN0 es es.length 0 0 (uv k.toNat++uv es.length) (by omega) (by rw [List.drop_zero];exact hc) (by simp only [List.length_append];omega) (by omega);rw [List.drop_zero] at r;have A:=zY (p:=[]) (kind:=99) (by decide) (aLf k es) (by simp only [aE6,List.length_append];omega) (by simp);have dTC:qZ≠vL:=by decide
  obtain⟨l,s1,B,g,m,i,t,C⟩:=aKf h hk q ⟨(),k,old⟩ aJx hg hBs;have D:cQ ⟨(),k,old⟩ es s=fU ⟨(),k,old⟩ es s (aE6 k es):=by unfold cQ;rw [lt_,mE (n:=k) (by omega) (by omega),show k=((k.toNat:Nat):Int) by omega,y];simp only [bGi,List.nil_append];rw [lt_,mE (by omega) (by omega),z];simp only [bGi];rw [show (0:Int)=((0:Nat):Int) from rfl,r];simp only [bGi];unfold iA aE6;rw [List.append_assoc];simp only [Int.toNat_natCast]
  rw [D];unfold fU;rw [A];simp only [bGi,List.nil_append];rw [show ([99,97,116,46,116,109,112]:List UInt8)=qZ from rfl,B];simp only [bGi];have E:FitC s (40 * es.length+40) 1->l≠10:=λhf=>(C 0 0 (hf.mono (by omega) (by omega))).1;by_cases c1:l=0
  rotate_left
  · rw [if_pos (by simpa using c1)]
    refine⟨l,s1,by rw [if_neg c1],g.mono (by omega),m,λf a b=>i f a,?_,E⟩;rcases t with ⟨a,_⟩ | ⟨a,b⟩ | ⟨a,b⟩
    · exact absurd a c1
    · exact .inr ⟨.inl ⟨a,b⟩,i _ dTC.symm⟩
    · exact .inr ⟨.inr ⟨a,by rw [b];exact q⟩,i _ dTC.symm⟩
  rw [if_neg (by simp [c1])];obtain⟨u,F⟩:s1.f3=false/\get s1.f0 qZ=some (aNl qZ (jQ 99 (aE6 k es))):=by
    rcases t with ⟨_,a,b⟩ | ⟨a,_⟩ | ⟨a,_⟩
    · exact⟨a,b⟩
    · rw [c1] at a;cases a
    · rw [c1] at a;cases a
  rw [show ([99,97,116]:List UInt8)=vL from rfl,g.Rename (by omega) (by decide) (by decide)];simp only [bGi];have G:aPt s1 qZ vL=aCh s1 qZ λx=>put (del s1.f0 qZ) ⟨vL,x.f1,x.f2⟩:=by unfold aPt;rw [if_pos aJx,if_pos (aDm aHv u)]
  obtain⟨o,v⟩:=aHx g u F λx=>put (del s1.f0 qZ) ⟨vL,x.f1,x.f2⟩;have i4:=g.ren (a:=qZ) (b:=vL);rw [← G] at o v;rcases v with ⟨a,b,j⟩ | ⟨a,b,j⟩
  · rw [if_neg (by rw [a];simp)]
    refine⟨0,_,rfl,i4.mono (by omega),Kp.trans m o,λf c d=>?_,.inl ⟨rfl,b,?_,?_⟩,λ_=>by decide⟩
    · rw [j,yF (zA g.rise _),if_neg (λe=>d e.symm),aDg g.rise,if_neg (λe=>c e.symm)]
      exact i f c
    · rw [j,yF (zA g.rise _),if_pos rfl]
      rfl
    · rw [j,yF (zA g.rise _),if_neg dTC.symm,aDg g.rise,if_pos rfl]
  · rw [if_pos (by rw [a];simp)]
    refine⟨9,_,by rw [a];rfl,i4.mono (by omega),Kp.trans m o,λf c d=>by rw [j];exact i f c,.inr ⟨.inl ⟨rfl,b⟩,by rw [j];exact i _ dTC.symm⟩,λ_=>by decide⟩
theorem aO2 {l:List S61} (hl:l.length<=100000) {x:S61} (hx:l[0]?=some x) :
    loop (λs:Int×Int×Int=>cI l s.1 s.2.1 s.2.2) (x.f2,x.f2,0)=some (aEo l,zE l):=by
  have e0:ckL l 0=l.foldl ckF (ck0 l 0 x):=by
    cases l with
    | nil=>cases hx
    | cons y l=>cases hx;rfl
  have hk:=iY (b:=λs:Int×Int×Int=>cI l s.1 s.2.1 s.2.2)
    (λk=>(((l.take k).foldl ckF (ck0 l 0 x)).f4,((l.take k).foldl ckF (ck0 l 0 x)).f5,(k:Int)))
    (t:=((l.foldl ckF (ck0 l 0 x)).f4,(l.foldl ckF (ck0 l 0 x)).f5)) l.length (λk hk=>by
      have a:=List.getElem?_eq_getElem (l:=l) (i:=k) hk;show cI l _ _ (k:Int)=_;unfold cI;rw [if_pos (by simp only [decide_eq_true_eq];omega),bB rfl a];simp only [bGi,lt_];rw [w64 (by omega) (by omega),aEn ckF _ a];rfl) (by
      show cI l _ _ ((l.length:Nat):Int)=_;unfold cI;rw [if_neg (by simp only [decide_eq_true_eq];omega),List.take_length])
  unfold aEo zE;rw [e0];exact hk
theorem aTo {k:Int} {l:List S61} {a b:Nat} (hs:Seg k l) (hr:Run k a l) (hb:b=a+l.length) (f:b<1000) (old:List S46) (s:S77) :
    dL ⟨(),k,old⟩ l s=(fK ⟨(),k,old⟩ (qA a b) (xL l k.toNat) s).bind λy=>some (⟨qA a b,(a:Int),(b:Int),aEo l,zE l⟩,y.1,y.2.1,y.2.2):=by
  have g:=hs.ps;have hx:=List.getElem?_eq_getElem (l:=l) (i:=0) g;have c:at_ l 0=some l[0]:=hx;have d:=aO2 (by omega) hx;generalize l[0]=x0 at c d;have e:=aMt hs hr (by omega);rw [show (a:Int)+(l.length:Int)=(b:Int) by omega] at e;unfold dL;rw [aMw hr.gd k (by omega),bA7 hs,bGi,if_neg (by simp),aP4 hs,bGi,e,bGi,c,bGi,aQv (by omega) f,bGi];unfold kC;rw [d,bGi];unfold iP kA;exact rfl
theorem xA {c:S79} {e:Int} (h:e=0\/e=9) (s:S77):dG c e s=some (e,c,s):=by unfold dG fA eZ;rcases h with rfl | rfl <;> rfl
theorem aPv {c:S79} {e f:Int} {s s':S77} (h0:e≠0) (b:e≠9) (hw:cZ c s=some (f,c,s')):dG c e s=some (if f=0 then e else f,c,s'):=by
  unfold dG fA eZ;rw [if_pos (by simpa using h0),if_pos (by simpa using b),hw];simp only [bGi];by_cases a:f=0
  · rw [if_neg (by simp [a]),if_pos a]
  · rw [if_pos (by simpa using a),if_neg a]
def cH (k:Int) (m:List S61) (r:List Nat):S79:=⟨(),k,bA m 0 r⟩
structure Cv (k:Int) (m:List S61) (r:List Nat) (kk:Nat) (s:S77):Prop where
  si:SI kk s
  ct:Ct k m r s.f0
  dom:aZa s.f0
  ri:RiseN 0 r m.length
theorem Cv.mono {k:Int} {m:List S61} {r:List Nat} {kk a:Nat} {s:S77} (h:Cv k m r kk s) (hk:kk<=a):Cv k m r a s:=⟨h.si.mono hk,h.ct,h.dom,h.ri⟩
section
variable {k:Int} {m:List S61} {r:List Nat} {kk:Nat} {s:S77}
theorem Cv.few (h:Cv k m r kk s) (hL:Lg k m):r.length<=250/\eT 0 r<=250/\r.length<=eT 0 r/\eT 0 r<=m.length:=by have a:=RiseN.len h.ri;have b:=RiseN.end_le h.ri;have:=hL.le;omega
theorem aI9 (h:Cv k m r kk s) (hL:Lg k m) (hk:kk+5000<4611686018427387904) (a:s.f3=false) :
    ∃ e s',cZ (cH k m r) s=some (e,cH k m r,s')/\Cv k m r (kk+500) s'/\Kp s s'/\(∀ f x,get s'.f0 f=some x->get s.f0 f=some x)/\((e=0/\s'.f3=false/\CleanC (bA m 0 r) s'.f0)\/(e=9/\s'.f3=true)):=by
  have hf:=h.few hL;obtain⟨e,s',w,i,kp,g,d,u,o⟩:=aOc h.si (by omega) a (cH k m r) (by show (bA m 0 r).length<=1000000;rw [eC];omega);exact⟨e,s',w,⟨i,h.ct.of λf hf=>g f (aCt hL h.ri hf),λf x hx=>h.dom f x (d f x hx),h.ri⟩,kp,d,o⟩
theorem aA9 (h:Cv k m r kk s) (hL:Lg k m) (hk:kk+5000<4611686018427387904) (c:s.f3=false) {e:Int} (h0:e≠0) (g:e≠9) :
    ∃ e' s',dG (cH k m r) e s=some (e',cH k m r,s')/\Cv k m r (kk+500) s'/\Kp s s'/\((e'=e/\s'.f3=false/\CleanC (bA m 0 r) s'.f0)\/(e'=9/\s'.f3=true)):=by
  obtain⟨f,s',w,i,kp,d,o⟩:=aI9 h hL hk c;refine⟨_,s',aPv h0 g w,i,kp,?_⟩;rcases o with ⟨rfl,a,b⟩ | ⟨rfl,a⟩
  · exact .inl ⟨rfl,a,b⟩
  · exact .inr ⟨rfl,a⟩
theorem aQj {r':List Nat} {a b:Nat} {l:List S61} (h:Cv k m r kk s) (hL:Lg k m) (hk:kk+5000<4611686018427387904) (B:s.f3=false) (u:CleanC (bA m 0 r) s.f0)
    (C:a<b) (hb:b<=m.length) (hl:l=pc m a b\/l=(pc m a b).map dD) (n:RiseN 0 r' m.length) (R:r'≠[]) (S:jP m a b∉bA m 0 r) (T:∀ e∈bA m 0 r',e=jP m a b\/e∈bA m 0 r) :
    ∃ i s1,dL (cH k m r) l s=some (jP m a b,i,cH k m r,s1) /\
      ((i≠0/\Cv k m r (kk+10) s1/\Kp s s1/\(i=9/\s1.f3=true\/i=10/\s1.f3=false)/\(FitC s (szB (b - a)+(40 * r'.length+40)) 2->i≠10)) \/
        (i=0/\∃ j g o,cQ (cH k m r) (bA m 0 r') s1=some (j,cH k m o,g)/\Cv k m o (kk+10) g/\Kp s g /\
          ((j=0/\g.f3=false/\o=r'/\∀ f x,get g.f0 f=some x->f=vL\/f=qA a b\/tC (bA m 0 r) f=false)\/(j=9/\g.f3=true/\o=r)\/(j=10/\g.f3=false/\o=r))/\(FitC s (szB (b - a)+(40 * r'.length+40)) 2->j≠10))):=by
  have hf:=h.few hL;have hle:=hL.le;have v:Seg k l:=hl.elim (λe=>by rw [e];exact hL.seg C hb) (λe=>by rw [e];exact (hL.seg C hb).back);have U:Run k a l:=hl.elim (λe=>by rw [e];exact aCr hL.run a b) (λe=>by rw [e];exact (aCr hL.run a b).back);have hlen:l.length=b - a:=hl.elim (λe=>(congrArg List.length e).trans (zM hb)) (λe=>(congrArg List.length e).trans ((List.length_map ..).trans (zM hb)));have W:xL l k.toNat=xL (pc m a b) k.toNat:=hl.elim (λe=>by rw [e]) (λe=>by rw [e];exact aSe _ _);have X:(⟨qA a b,(a:Int),(b:Int),aEo l,zE l⟩:S46)=jP m a b:=by
    rcases hl with rfl | rfl
    · rfl
    · unfold aEo zE jP;rw [aHy];rfl
  have Y:=v.size;rw [hlen] at Y;have D:=aTz h.ri hle (show a<1000 by omega) (show b<1000 by omega) S;have gN:get s.f0 (qA a b)=none:=u.none D;have gT:get s.f0 qZ=none:=u.none (aId _);have Z:tB (qA a b)=true:=aGg (by omega) (by omega);have E:=aFr (aDj a b);have F:∀ e∈bA m 0 r,e.f0≠qA a b:=λe he q=>by have:=aCt hL h.ri (.inr ⟨e,he,rfl⟩);rw [q,D] at this;cases this
  obtain⟨i,s1,w1,G,w,p,H,t1⟩:=aKf h.si (by omega) B (cH k m r) Z gN v.bytes.1;have pr:∀ f,aSw m r f->f≠qA a b:=λf hf=>by
    rcases hf with rfl | ⟨e,he,rfl⟩
    · exact E.2.symm
    · exact F e he
  have I:aZa s1.f0:=λf x hx=>by
    by_cases c:f=qA a b
    · exact .inr (.inr (by rw [c];exact aDj a b))
    · rw [p f c] at hx
      exact h.dom f x hx
  refine⟨i,s1,?_,?_⟩
  · have:=aTo v U (b:=b) (by omega) (by omega) (bA m 0 r) s
    rw [show (⟨(),k,bA m 0 r⟩:S79)=cH k m r from rfl,w1] at this;rw [this];simp only [bGi];rw [X]
  have J:Cv k m r (kk+10) s1:=⟨G.mono (by omega),h.ct.of λf hf=>p f (pr f hf),I,h.ri⟩;have K:FitC s (szB (b - a)+(40 * r'.length+40)) 2->i≠10/\(i=0->FitC s1 (40 * r'.length+40) 1):=λhf=>t1 _ 1 (hf.mono (by omega) (by omega));by_cases c1:i=0
  rotate_left
  · refine .inl ⟨c1,J,w,?_,λhf=>(K hf).1⟩
    rcases H with ⟨a,_⟩ | a | ⟨a,b⟩
    · exact absurd a c1
    · exact .inl a
    · exact .inr ⟨a,by rw [b];exact B⟩
  refine .inr ⟨c1,?_⟩;obtain⟨a2,v1⟩:s1.f3=false/\get s1.f0 (qA a b)=some (aNl (qA a b) (xL l k.toNat)):=by
    rcases H with ⟨_,a,b⟩ | ⟨a,_⟩ | ⟨a,_⟩
    · exact⟨a,b⟩
    · rw [c1] at a;cases a
    · rw [c1] at a;cases a
  have a4:r'.length<=250:=by have h1:=RiseN.len n;have h2:=RiseN.end_le n;omega
  obtain⟨j,g,y,L,M,z,t,t2⟩:=aL6 G (by omega) a2 ⟨hL.k1,hL.k8⟩ (old:=bA m 0 r) (aBi hL n) (by rw [eC];exact a4) ((p _ E.1.symm).trans gT);rw [eC] at t2;have N:aZa g.f0:=λf x hx=>by
    by_cases c:f=vL
    · exact .inl c
    by_cases d:f=qZ
    · exact .inr (.inl d)
    rw [z f d c] at hx;exact I f x hx
  have O:∀ f,xI f=true->get g.f0 f=get s1.f0 f:=λf hf=>z f (aFr hf).1 (aFr hf).2;have P:FitC s (szB (b - a)+(40 * r'.length+40)) 2->j≠10:=λhf=>t2 ((K hf).2 c1);rcases t with ⟨rfl,a5,A,n2⟩ | ⟨t,A⟩
  · refine⟨0,g,r',y,⟨L.mono (by omega),⟨λe=>absurd e R,λ_=>A,λe he=>?_⟩,N,n⟩,Kp.trans w M,.inl ⟨rfl,a5,rfl,λf x hx=>?_⟩,P⟩
    · rw [O _ (aDe hL n he).1]
      rcases T e he with rfl | Q
      · rw [show (jP m a b).f0=qA a b from rfl,v1,W]
        rfl
      · rw [p _ (F e Q)]
        exact h.ct.segs e Q
    · by_cases c:f=vL
      · exact .inl c
      by_cases d:f=qZ
      · rw [d,n2] at hx;cases hx
      by_cases e:f=qA a b
      · exact .inr (.inl e)
      rw [z f d c,p f e] at hx;exact .inr (.inr (u f x hx))
  · have hz:j≠0:=by rcases t with ⟨a,_⟩ | ⟨a,_⟩ <;> rw [a] <;> decide
    rw [if_neg hz] at y;refine⟨j,g,r,y,⟨L.mono (by omega),J.ct.of λf hf=>?_,N,h.ri⟩,Kp.trans w M,.inr ?_,P⟩
    · rcases hf with rfl | ⟨e,he,rfl⟩
      · exact A
      · exact O _ (aDe hL h.ri he).1
    · rcases t with ⟨a,b⟩ | ⟨a,b⟩
      · exact .inl ⟨a,b,rfl⟩
      · exact .inr ⟨a,b,rfl⟩
theorem aF1 (h:r.length<=250):dK (cH k m r)=some ((eT 0 r:Int),cH k m r):=by rw [aX1 _ (by show (bA m 0 r).length<_;rw [eC];omega)];rw [show aBy (cH k m r).f2=aBy (bA m 0 r) from rfl,aRz]
theorem zT (h:r.length<=250):cO (cH k m r)=some (bA m 0 r,cH k m r):=aOl _ (by show (bA m 0 r).length<=_;rw [eC];omega)
theorem aO3 {x y:Nat} (hr:RiseN 0 r m.length) (he:jP m x y∈bA m 0 r):y<=eT 0 r:=by
  have key:∀ (r:List Nat) (a:Nat),RiseN a r (eT a r)->∀ e∈bA m a r,e.f2<=(eT a r:Int):=by intro r a h e he;obtain⟨x,y,_,_,b,rfl⟩:=aAu h e he;show (y:Int)<=_;omega
  have c:RiseN 0 r (eT 0 r):=by have:=(RiseN.app (r:=r) (s:=[]) (a:=0) (n:=m.length)).1 (by rw [List.append_nil];exact hr);exact this.1
  have:=key r 0 c _ he;have b:(jP m x y).f2=(y:Int):=rfl;omega
theorem aRn {b:Nat} (h:Cv k m r kk s) (hL:Lg k m) (hk:kk+10000<4611686018427387904) (B:s.f3=false) (C:CleanC (bA m 0 r) s.f0) (hr:r.length<250) (u:eT 0 r<b) (hb:b<=m.length) :
    ∃ e s' r',bH (cH k m r) (pc m (eT 0 r) b) s=some (e,cH k m r',s')/\Cv k m r' (kk+1000) s'/\Kp s s' /\
      ((e=0/\s'.f3=false/\r'=r++[b]/\CleanC (bA m 0 r') s'.f0)\/(e=9/\s'.f3=true/\r'=r)\/(e=10/\s'.f3=false/\r'=r/\CleanC (bA m 0 r) s'.f0)) /\
      (FitC s (szB (b - eT 0 r)+(40 * (r.length+1)+40)) 2->e≠10):=by
  have hf:=h.few hL;have hle:=hL.le;have M:(pc m (eT 0 r) b).length=b - eT 0 r:=zM hb;have hx:=List.getElem?_eq_getElem (l:=pc m (eT 0 r) b) (i:=0) (by omega);have N:=(aCr hL.run (eT 0 r) b).of 0 _ hx;have D:jP m (eT 0 r) b∉bA m 0 r:=λhe=>by have:=aO3 h.ri he;omega
  have v:RiseN 0 (r++[b]) m.length:=RiseN.app.2 ⟨((RiseN.app (s:=[])).1 (by rw [List.append_nil];exact h.ri)).1,u,hb⟩;have j:bA m 0 (r++[b])=bA m 0 r++[jP m (eT 0 r) b]:=by rw [aDd];rfl
  obtain⟨O,s1,E,n⟩:=aQj (r':=r++[b]) h hL (by omega) B C u hb (.inl rfl) v (by simp) D (λe he=>by
    rw [j] at he;rcases List.mem_append.1 he with he | he
    · exact .inr he
    · exact .inl (List.mem_singleton.1 he))
  rw [List.length_append,List.length_singleton] at n;have F:bH (cH k m r) (pc m (eT 0 r) b) s=dN (pc m (eT 0 r) b) s k (bA m 0 r) false:=by unfold bH;rw [if_pos (by simp only [decide_eq_true_eq];omega),show at_ (pc m (eT 0 r) b) 0=_ from hx];simp only [bGi];rw [aF1 (by omega)];simp only [bGi];rw [show ((pc m (eT 0 r) b)[0].f0 != (eT 0 r:Int))=false by simp only [bne_eq_false_iff_eq];omega];rfl
  rw [F];unfold dN;rw [if_neg (by simp),if_neg (by rw [eC];simp only [decide_eq_true_eq];omega),show (⟨(),k,bA m 0 r⟩:S79)=cH k m r from rfl,E];simp only [bGi];rcases n with ⟨c1,y,A,n,G⟩ | ⟨c1,P,d,g,H,p,q,I,t2⟩
  · rw [if_neg (by simpa using c1)]
    unfold eO;rw [show (⟨(),(cH k m r).f1,(cH k m r).f2⟩:S79)=cH k m r from rfl,show (⟨s1.f0,s1.f1,s1.f2,s1.f3,s1.f4⟩:S77)=s1 from rfl];rcases n with ⟨rfl,off⟩ | ⟨rfl,J⟩
    · rw [xA (.inr rfl)]
      exact⟨9,s1,r,rfl,y.mono (by omega),A,.inr (.inl ⟨rfl,off,rfl⟩),λ_=>by decide⟩
    · obtain⟨e',s',w,i,kp,o⟩:=aA9 y hL (by omega) J (e:=10) (by decide) (by decide)
      rw [w];refine⟨e',s',r,rfl,i.mono (by omega),Kp.trans A kp,?_,λhf=>absurd rfl (G hf)⟩;rcases o with ⟨a,b,c⟩ | ⟨a,b⟩
      · exact .inr (.inr ⟨a,b,rfl,c⟩)
      · exact .inr (.inl ⟨a,b,rfl⟩)
  · rw [if_pos (by simpa using c1)]
    have K:bK (cH k m r).f2=some (bA m 0 r):=by
      have:=zT (k:=k) (m:=m) (r:=r) (by omega);unfold cO at this;cases hq:bK (cH k m r).f2 with
      | none=>rw [hq] at this;cases this
      | some z=>rw [hq] at this;simp only [bGi,Option.some.injEq,Prod.mk.injEq] at this;rw [this.1]
    rw [K];simp only [bGi];rw [bJ (by rw [eC];simp only [List.length_singleton];omega), ← j,H];simp only [bGi];unfold eO;rw [show (⟨(),(cH k m g).f1,(cH k m g).f2⟩:S79)=cH k m g from rfl,show (⟨d.f0,d.f1,d.f2,d.f3,d.f4⟩:S77)=d from rfl];rcases I with ⟨rfl,t,rfl,L⟩ | ⟨rfl,off,rfl⟩ | ⟨rfl,t,rfl⟩
    · rw [xA (.inl rfl)]
      refine⟨0,d,r++[b],rfl,p.mono (by omega),q,.inl ⟨rfl,t,rfl,λf x hx=>?_⟩,λ_=>by decide⟩;rcases L f x hx with rfl | rfl | hg
      · exact aJ0 _
      · exact aCt hL v (.inr ⟨jP m (eT 0 r) b,by rw [j];simp,rfl⟩)
      · rw [j]
        unfold tC at hg ⊢;rw [List.any_append];cases hq:(f==qZ) with
        | true=>rw [hq] at hg;cases hg
        | false =>
          rw [hq] at hg;cases hs:xI f with
          | false=>rfl
          | true =>
            rw [hs] at hg;simp only [Bool.false_or,Bool.true_and,Bool.not_eq_false'] at hg ⊢;rw [hg,Bool.true_or]
    · rw [xA (.inr rfl)]
      exact⟨9,d,g,rfl,p.mono (by omega),q,.inr (.inl ⟨rfl,off,rfl⟩),λ_=>by decide⟩
    · obtain⟨e',s',w,i,kp,o⟩:=aA9 p hL (by omega) t (e:=10) (by decide) (by decide)
      rw [w];refine⟨e',s',g,rfl,i.mono (by omega),Kp.trans q kp,?_,λhf=>absurd rfl (t2 hf)⟩;rcases o with ⟨a,b,c⟩ | ⟨a,b⟩
      · exact .inr (.inr ⟨a,b,rfl,c⟩)
      · exact .inr (.inl ⟨a,b,rfl⟩)
theorem aRm (h:Cv k m r kk s) (hL:Lg k m) (hk:kk+5000<4611686018427387904) (a:s.f3=false) (hr:r.length<250) :
    ∃ e s',bH (cH k m r) [] s=some (e,cH k m r,s')/\Cv k m r (kk+1000) s'/\Kp s s'/\((e=1/\s'.f3=false/\CleanC (bA m 0 r) s'.f0)\/(e=9/\s'.f3=true)):=by
  obtain⟨e',s',w,i,kp,o⟩:=aA9 h hL hk a (e:=1) (by decide) (by decide);refine⟨e',s',?_,i.mono (by omega),kp,o⟩;unfold bH;rw [if_neg (by simp)];unfold dN;rw [if_neg (by simp),if_neg (by show ¬ decide ((250:Int)<=((bA m 0 r).length:Int))=true;rw [eC];simp only [decide_eq_true_eq];omega)];unfold dL;rw [aMw (λe he=>by cases he) _ (by simp),show WL (⟨(),(cH k m r).f1,(cH k m r).f2⟩:S79).f1 []=([],1) from rfl];simp only [bGi];rw [if_pos (by decide)];simp only [bGi];rw [if_neg (by decide)];unfold eO;rw [show (⟨(),(⟨(),(cH k m r).f1,(cH k m r).f2⟩:S79).f1,(⟨(),(cH k m r).f1,(cH k m r).f2⟩:S79).f2⟩:S79)=cH k m r from rfl,show (⟨s.f0,s.f1,s.f2,s.f3,s.f4⟩:S77)=s from rfl,w];rfl
theorem aOq (hr:r.length<=250) {x:S61} {l:List S61} (hx:x.f0≠(eT 0 r:Int)) (s:S77):bH (cH k m r) (x::l) s=some (7,cH k m r,s):=by unfold bH;rw [if_pos (by simp),show at_ (x::l) 0=some x from rfl];simp only [bGi];rw [aF1 hr];simp only [bGi];unfold dN;rw [if_pos (by simpa using hx)]
def aRs (f:S26) (m:List S61):Nat->List Nat->Nat
  | _,[]=>0
  | a,b::r=>(if wB f (ckL (pc m a b) 0)=true then (fL (pcs 64 (pc m a b)) 0).countP (wB f) else 0)+aRs f m b r
theorem aSd {f:S26} {es:List S46} {i a b q:Nat} {acc:List S61} (hi:i<es.length) (t:es.length<=250) (hL:Lg k m) (h:s.f3=false) (hs:SI kk s) (hx:es[i]?=some (jP m a b)) (hg:get s.f0 (qA a b)=some (aMe k m (jP m a b))) (j:a<b) (hb:b<=m.length) (u:acc.length<=a) (v:q<=16 * i) :
    cP ⟨(),k,es⟩ f s acc (q:Int) (i:Int)=some (.inl (acc++((pc m a b).filter (jR f)).map dD,((q+(if wB f (ckL (pc m a b) 0)=true then (fL (pcs 64 (pc m a b)) 0).countP (wB f) else 0):Nat):Int),((i+1:Nat):Int))):=by
  have hm:=hL.le;have d:=hL.seg j hb;have e:=aCr hL.run a b;have hlen:=zM (m:=m) (a:=a) (b:=b) hb;obtain⟨c2,c3⟩:=aLg e (by omega) 0;have o:wB f ⟨0,0,(a:Int),(b:Int) - 1,aEo (pc m a b),zE (pc m a b),[],[]⟩=wB f (ckL (pc m a b) 0):=by unfold wB aEo zE;rw [c2,c3,hlen];simp only;rw [show (a:Int)+((b - a:Nat):Int) - 1=(b:Int) - 1 by omega]
  have w:=List.length_filter_le (jR f) (pc m a b);have x:=List.countP_le_length (p:=wB f) (l:=fL (pcs 64 (pc m a b)) 0);have y:=d.cks.2.1;have g:∀ (l:List S61) (n:Int),fO (i:Int) l n=some (.inl (l,n,((i+1:Nat):Int))):=λl n=>by unfold fO;rw [lt_,w64 (by omega) (by omega)];rfl
  unfold cP;rw [if_pos (by simp only [decide_eq_true_eq];omega),bB rfl hx];simp only [bGi];rw [show (jP m a b).f1=(a:Int) from rfl,show (jP m a b).f2=(b:Int) from rfl,show (jP m a b).f3=aEo (pc m a b) from rfl,show (jP m a b).f4=zE (pc m a b) from rfl,show (jP m a b).f0=qA a b from rfl,lt_,mE (n:=(b:Int) - 1) (by omega) (by omega),aSu,o];simp only [bGi];by_cases c:wB f (ckL (pc m a b) 0)=true
  · have z:=aN9 a b
    have r:aGz s (qA a b)=(xL (pc m a b) k.toNat,0):=by unfold aGz;rw [if_pos (aDm (aGg (by omega) (by omega)) h),hg];show ((xL (pc m ((a:Int)).toNat ((b:Int)).toNat) k.toNat),(0:Int))=_;rw [Int.toNat_natCast,Int.toNat_natCast]
    rw [if_pos c,if_neg (by simp [c]),hs.Read (by omega),r];simp only [bGi];rw [if_neg (by simp),aP4 d];simp only [bGi];rw [if_neg (by simp),aMt d e (by omega)];simp only [bGi];rw [if_neg (by simp),if_neg (by simp only [bne_iff_ne,ne_eq,Decidable.not_not];omega),show mM (some (zL (pc m a b) k))=some k from rfl];simp only [bGi];unfold fP;rw [if_neg (by simp),aVs d];simp only [bGi];rw [if_neg (by simp),bJ (by rw [List.length_map];omega),lt_,w64 (by omega) (by omega),g];rfl
  · rw [if_neg c,if_pos (by simp [c]),g,aOh (by simpa using c)]
    simp
theorem aKp (f:S26) {es:List S46} (d:es.length<=250) (hL:Lg k m) (g:s.f3=false) (hs:SI kk s) (h:∀ e∈es,get s.f0 e.f0=some (aMe k m e)):∀ (y:List Nat) (i a q:Nat) (acc:List S61),es.drop i=bA m a y->RiseN a y m.length->acc.length<=a->q<=16 * i->i+y.length=es.length ->
    loop (λt:List S61×Int×Int=>cP ⟨(),k,es⟩ f s t.1 t.2.1 t.2.2) (acc,(q:Int),(i:Int))=some (.inl (acc++((pc m a (eT a y)).filter (jR f)).map dD,((q+aRs f m a y:Nat):Int)))
  | [],i,a,q,acc,hd,hr,ha,hq,hi=>by
    refine bE ?_;show cP ⟨(),k,es⟩ f s acc (q:Int) (i:Int)=_;unfold cP;rw [if_neg (by simp only [decide_eq_true_eq];simp only [List.length_nil] at hi;omega)];have:pc m a (eT a [])=[]:=by unfold pc;rw [show eT a [] - a=0 by show a - a=0;omega,List.take_zero]
    rw [this];simp [aRs]
  | b::y,i,a,q,acc,hd,hr,ha,hq,hi=>by
    rw [List.length_cons] at hi;have hm:=hL.le;have j:=hr.1;have n:=RiseN.end_le hr.2;have hx:es[i]?=some (jP m a b):=by have:=congrArg (λl=>l[0]?) hd;simpa [bA] using this
    have hd':es.drop (i+1)=bA m b y:=by have:=congrArg (List.drop 1) hd;rw [List.drop_drop] at this;simpa [bA] using this
    have o:=(hL.seg j (show b<=m.length by omega)).cks.2.1;have r:=List.countP_le_length (p:=wB f) (l:=fL (pcs 64 (pc m a b)) 0);have u:=List.length_filter_le (jR f) (pc m a b);have hlen:=zM (m:=m) (a:=a) (b:=b) (by omega);rw [cD (b:=λt:List S61×Int×Int=>cP ⟨(),k,es⟩ f s t.1 t.2.1 t.2.2) (aSd (by omega) d hL g hs hx (h _ (List.mem_of_getElem? hx)) j (by omega) ha hq)];rw [aKp f d hL g hs h y (i+1) b _ _ hd' hr.2 (by rw [List.length_append,List.length_map];omega) (by split <;> omega) (by omega)];rw [show eT a (b::y)=eT b y from rfl, ← aPl (m:=m) (a:=a) (b:=b) (c:=eT b y) (by omega) n.1,List.filter_append,List.map_append,List.append_assoc];rw [show aRs f m a (b::y)=(if wB f (ckL (pc m a b) 0)=true then (fL (pcs 64 (pc m a b)) 0).countP (wB f) else 0)+aRs f m b y from rfl,Nat.add_assoc]
theorem aMv (f:S26) (h:Cv k m r kk s) (hL:Lg k m) (a:s.f3=false):iC (cH k m r) f s=some (((m.take (eT 0 r)).filter (jR f)).map dD,(aRs f m 0 r:Int),0,cH k m r,s):=by have hf:=h.few hL;have:=aKp f (es:=bA m 0 r) (by rw [eC];omega) hL a h.si h.ct.segs r 0 0 0 [] (by rw [List.drop_zero]) h.ri (Nat.le_refl _) (Nat.le_refl _) (by rw [eC];omega);rw [List.nil_append,aL4,Nat.zero_add] at this;unfold iC cH;rw [show (([]:List S61),(0:Int),(0:Int))=([],((0:Nat):Int),((0:Nat):Int)) from rfl,this];rfl
end
section
variable {k:Int} {m:List S61} {r:List Nat} {kk:Nat} {s:S77}
theorem aPm (hL:Lg k m) {a b:Nat}:∀ e∈pc m a b,(a:Int)<=e.f0/\e.f0<(b:Int) /\ -1099511627776<=e.f2/\e.f2<=1099511627776:=λe he=>by
  obtain⟨i,hi⟩:=List.getElem?_of_mem he;have c:=(aCr hL.run a b).of i e hi;have d:=(List.getElem?_eq_some_iff.1 hi).1;have f:=wJ ((aCr hL.run a b).fm e he);have g:(pc m a b).length<=b - a:=by unfold pc;simp;omega
  omega
theorem aWi (hL:Lg k m) {a d n:Nat} (f:a<=d) (g:d<=n):(m.take n).filter (jR ⟨(a:Int),(d:Int),-1099511627776,1099511627776⟩)=pc m a d:=by
  rw [← aL4, ← aPl (m:=m) (a:=0) (b:=a) (c:=n) (by omega) (by omega), ← aPl (m:=m) (a:=a) (b:=d) (c:=n) f g,List.filter_append,List.filter_append];rw [aJ7 (l:=pc m 0 a) (λe he=>by
    have:=aPm hL e he;unfold jR;simp only [Bool.and_eq_false_iff,decide_eq_false_iff_not];omega)]
  rw [aJ7 (l:=pc m d n) (λe he=>by
    have:=aPm hL e he;unfold jR;simp only [Bool.and_eq_false_iff,decide_eq_false_iff_not];omega)]
  rw [List.nil_append,List.append_nil,List.filter_eq_self];intro e he;have:=aPm hL e he;unfold jR;simp only [Bool.and_eq_true,decide_eq_true_eq];omega
theorem aMn (hr:r.length<=250) {i:Int} (hi:i<0\/(r.length:Int) - 1<=i) (s:S77):bZ (cH k m r) i s=some (1,cH k m r,s):=by
  unfold bZ eN;by_cases c:i<0
  · rw [if_pos (by simpa using c),if_pos rfl]
  · rw [if_neg (by simpa using c),lt_,show ((cH k m r).f2.length:Int)=(r.length:Int) by show ((bA m 0 r).length:Int)=_;rw [eC],w64 (by omega) (by omega),if_pos (by simp only [decide_eq_true_eq];omega)]
theorem aK0 {x y:List Nat} {b d:Nat} (h:Cv k m (x++b::d::y) kk s) (hL:Lg k m) (hk:kk+20000<4611686018427387904) (M:s.f3=false) (N:CleanC (bA m 0 (x++b::d::y)) s.f0) :
    ∃ e s' r',bZ (cH k m (x++b::d::y)) (x.length:Int) s=some (e,cH k m r',s')/\Cv k m r' (kk+2000) s'/\Kp s s' /\
      ((e=0/\s'.f3=false/\r'=x++d::y/\CleanC (bA m 0 r') s'.f0)\/(e=9/\s'.f3=true/\(r'=x++b::d::y\/r'=x++d::y))\/(e=10/\s'.f3=false/\r'=x++b::d::y/\CleanC (bA m 0 r') s'.f0)) /\
      (FitC s (szB m.length+(40 * (x++b::d::y).length+40)) 2->e≠10):=by
  obtain⟨r,hr⟩:∃ r,r=x++b::d::y:=⟨_,rfl⟩;obtain⟨r',B⟩:∃ r',r'=x++d::y:=⟨_,rfl⟩;obtain⟨a,C⟩:∃ a,a=eT 0 x:=⟨_,rfl⟩;have hlen:r.length=x.length+(y.length+2):=by rw [hr];simp
  have d0:r'.length=x.length+(y.length+1):=by rw [B];simp
  have hf:=h.few hL;have hle:=hL.le;have O:=h.ri;obtain⟨rx,rb,rd,ry⟩:=RiseN.app.1 O;rw [← C] at rx rb;have a2:RiseN 0 r' m.length:=by rw [B];exact RiseN.app.2 ⟨by rw [← C];exact rx,by rw [← C];omega,ry⟩
  have A:bA m 0 r=bA m 0 x++jP m a b::jP m b d::bA m d y:=by rw [hr,aDd, ← C];rfl
  have P:bA m 0 r'=bA m 0 x++jP m a d::bA m d y:=by rw [B,aDd, ← C];rfl
  have d1:eT 0 r=eT d y:=by rw [hr,aNg];rfl
  have d2:=RiseN.end_le ry;rw [← hr] at h hf N O ⊢;rw [← B];have a3:jP m a d∉bA m 0 r:=λhe=>by
    rw [A] at he;rcases List.mem_append.1 he with he | he
    · obtain⟨u,v,h1,h2,h3,G⟩:=aAu rx _ he
      have h5:=congrArg S46.f2 G;have H:(d:Int)=(v:Int):=h5;omega
    · rcases List.mem_cons.1 he with he | he
      · have H:(d:Int)=(b:Int):=congrArg S46.f2 he
        omega
      · rcases List.mem_cons.1 he with he | he
        · have H:(a:Int)=(b:Int):=congrArg S46.f1 he
          omega
        · obtain⟨u,v,h1,h2,h3,G⟩:=aAu ry _ he
          have H:(a:Int)=(u:Int):=congrArg S46.f1 G;omega
  have a8:∀ e∈bA m 0 r',e=jP m a d\/e∈bA m 0 r:=λe he=>by
    rw [P] at he;rw [A];rcases List.mem_append.1 he with he | he
    · exact .inr (List.mem_append.2 (.inl he))
    · rcases List.mem_cons.1 he with he | he
      · exact .inl he
      · exact .inr (List.mem_append.2 (.inr (List.mem_cons_of_mem _ (List.mem_cons_of_mem _ he))))
  have D:(bA m 0 x).length=x.length:=eC ..;have a9:(bA m d y).length=y.length:=eC ..;have b1:(bA m 0 r).length=r.length:=eC ..;have b2:(bA m 0 r)[x.length]?=some (jP m a b):=by rw [A,List.getElem?_append_right (by omega),D,Nat.sub_self];rfl
  have b3:(bA m 0 r)[x.length+1]?=some (jP m b d):=by rw [A,List.getElem?_append_right (by omega),D,show x.length+1 - x.length=1 by omega];rfl
  have b4:d<=m.length:=by omega
  obtain⟨e1,s1,w1,I⟩:=aQj (r':=r') (a:=a) (b:=d) (l:=(pc m a d).map dD) h hL (by omega) M N (by omega) b4 (.inr rfl) a2 (by rw [B];simp) a3 a8;have Q:FitC s (szB m.length+(40 * r.length+40)) 2->FitC s (szB (d - a)+(40 * r'.length+40)) 2:=λE=>E.mono (by have:=aFu (a:=d - a) (b:=m.length) (by omega);omega) (Nat.le_refl _);have b6:bZ (cH k m r) (x.length:Int) s=(dL (cH k m r) ((pc m a d).map dD) s).bind λf=>(if (f.2.1==0)=true then ((kD f.2.2.1.f2 0 (x.length:Int)).bind λY=>(ltt (IntKind.i64.wrap ((x.length:Int)+2)) λZ=>((kD f.2.2.1.f2 Z (f.2.2.1.f2.length:Int)).bind λa0=>((aE7 Y [f.1] a0).bind λa1=>((cQ f.2.2.1 a1 f.2.2.2).bind λz=>(cK z.2.2.f0 z.2.2.f1 z.2.2.f2 z.2.2.f3 z.2.2.f4 z.2.1.f1 z.2.1.f2 z.1)))))) else (cK f.2.2.2.f0 f.2.2.2.f1 f.2.2.2.f2 f.2.2.2.f3 f.2.2.2.f4 f.2.2.1.f1 f.2.2.1.f2 f.2.1)):=by have R:=aMv (⟨(a:Int),(d:Int),-1099511627776,1099511627776⟩:S26) h hL M;rw [aWi hL (by omega) (by omega)] at R;unfold bZ;rw [if_neg (by simp only [decide_eq_true_eq];omega),lt_,show ((cH k m r).f2.length:Int)=(r.length:Int) by show ((bA m 0 r).length:Int)=_;rw [b1],w64 (by omega) (by omega),show decide ((r.length:Int) - 1<=(x.length:Int))=false by simp only [decide_eq_false_iff_not];omega];unfold eN;rw [if_neg (by simp),show at_ (cH k m r).f2 (x.length:Int)=some (jP m a b) from bB rfl b2,bGi,lt_,w64 (by omega) (by omega),show at_ (cH k m r).f2 ((x.length:Int)+1)=some (jP m b d) from bB (n:=x.length+1) (by omega) b3,bGi];unfold iO;rw [show (jP m b d).f2=(d:Int) from rfl,show (jP m a b).f1=(a:Int) from rfl,lt_,mE (by omega) (by omega),if_neg (by simp only [decide_eq_true_eq];omega),R,bGi,if_neg (by simp)]
  rw [b6,w1,bGi];rcases I with ⟨c1,S,T,I,t1⟩ | ⟨c1,e2,g,j,w2,J,F,o2,t2⟩
  · rw [if_neg (by simpa using c1)]
    unfold cK;rw [if_neg (by simpa using c1)];unfold cL;rw [show (⟨(),(cH k m r).f1,(cH k m r).f2⟩:S79)=cH k m r from rfl,show (⟨s1.f0,s1.f1,s1.f2,s1.f3,s1.f4⟩:S77)=s1 from rfl];rcases I with ⟨rfl,off⟩ | ⟨rfl,c0⟩
    · rw [xA (.inr rfl)]
      exact⟨9,s1,r,rfl,S.mono (by omega),T,.inr (.inl ⟨rfl,off,.inl rfl⟩),λ_=>by decide⟩
    · obtain⟨e',s',w,i,kp,o⟩:=aA9 S hL (by omega) c0 (e:=10) (by decide) (by decide)
      rw [w];refine⟨e',s',r,rfl,i.mono (by omega),Kp.trans T kp,?_,λE=>absurd rfl (t1 (Q E))⟩;rcases o with ⟨p,q,c⟩ | ⟨p,q⟩
      · exact .inr (.inr ⟨p,q,rfl,c⟩)
      · exact .inr (.inl ⟨p,q,.inl rfl⟩)
  · have c2:kD (cH k m r).f2 0 (x.length:Int)=some (bA m 0 x):=by have:=oG (xs:=bA m 0 r) (l:=0) (u:=x.length) (by omega) (by omega);rw [List.drop_zero,A,List.take_left' D, ← A] at this;exact this
    have c3:kD (cH k m r).f2 ((x.length:Int)+2) ((cH k m r).f2.length:Int)=some (bA m d y):=by have:=oG (xs:=bA m 0 r) (l:=x.length+2) (u:=(bA m 0 r).length) (by omega) (by omega);rw [List.take_length] at this;rw [show ((x.length:Int)+2)=((x.length+2:Nat):Int) by omega];refine this.trans ?_;rw [A, ← List.drop_drop,List.drop_left' D];rfl
    have c4:aE7 (bA m 0 x) [jP m a d] (bA m d y)=some (bA m 0 r'):=by unfold aE7;rw [bJ ⟨by simp,by rw [D,a9];simp only [List.length_singleton];omega⟩,P,List.append_assoc];rfl
    rw [if_pos (by simpa using c1),c2,bGi,lt_,w64 (by omega) (by omega),c3,bGi,c4,bGi,w2,bGi];have K:∀ e:Int,(e=0\/e=9)->∀ (c:S79) (t:S77),cL t.f0 t.f1 t.f2 t.f3 t.f4 c.f1 c.f2 e=some (e,c,t):=λe he c t=>by unfold cL;rw [show (⟨(),c.f1,c.f2⟩:S79)=c from rfl,show (⟨t.f0,t.f1,t.f2,t.f3,t.f4⟩:S77)=t from rfl,xA he];rfl
    unfold cK;rcases o2 with ⟨rfl,L,rfl,d5⟩ | ⟨rfl,off,rfl⟩ | ⟨rfl,L,rfl⟩
    · obtain⟨e3,U,w3,W,X,_,o3⟩:=aI9 J hL (by omega) L
      rw [if_pos (by simp),show (⟨(),(cH k m j).f1,(cH k m j).f2⟩:S79)=cH k m j from rfl,show (⟨g.f0,g.f1,g.f2,g.f3,g.f4⟩:S77)=g from rfl,w3,bGi];rcases o3 with ⟨rfl,c7,c8⟩ | ⟨rfl,c9⟩
      · rw [K 0 (.inl rfl)]
        exact⟨0,U,j,rfl,W.mono (by omega),Kp.trans F X,.inl ⟨rfl,c7,rfl,c8⟩,λ_=>by decide⟩
      · rw [K 9 (.inr rfl)]
        exact⟨9,U,j,rfl,W.mono (by omega),Kp.trans F X,.inr (.inl ⟨rfl,c9,.inr rfl⟩),λ_=>by decide⟩
    · rw [if_neg (by simp),K 9 (.inr rfl)]
      exact⟨9,g,j,rfl,J.mono (by omega),F,.inr (.inl ⟨rfl,off,.inl rfl⟩),λ_=>by decide⟩
    · rw [if_neg (by simp)]
      unfold cL;rw [show (⟨(),(cH k m j).f1,(cH k m j).f2⟩:S79)=cH k m j from rfl,show (⟨g.f0,g.f1,g.f2,g.f3,g.f4⟩:S77)=g from rfl];obtain⟨e',s',w,i,kp,o⟩:=aA9 J hL (by omega) L (e:=10) (by decide) (by decide);rw [w];refine⟨e',s',j,rfl,i.mono (by omega),Kp.trans F kp,?_,λE=>absurd rfl (t2 (Q E))⟩;rcases o with ⟨p,q,c⟩ | ⟨p,q⟩
      · exact .inr (.inr ⟨p,q,rfl,c⟩)
      · exact .inr (.inl ⟨p,q,.inl rfl⟩)
theorem aSv (h:Cv k m r kk s) (hL:Lg k m) (hk:kk+5000<4611686018427387904) (a:s.f3=false) :
    ∃ e s',nD s k=some (if e=0 then some (cH k m r) else none,e,s')/\Cv k m r (kk+500) s'/\Kp s s'/\(∀ f x,get s'.f0 f=some x->get s.f0 f=some x)/\((e=0/\s'.f3=false/\CleanC (bA m 0 r) s'.f0)\/(e=9/\s'.f3=true)):=by
  have hf:=h.few hL;obtain⟨g,j⟩:1<=k/\k<=8:=⟨hL.k1,hL.k8⟩;obtain⟨e,s',w,i,kp,dd,o⟩:=aI9 h hL hk a;refine⟨e,s',?_,i,kp,dd,o⟩;have d:mZ s k (bA m 0 r)=some (if e=0 then some (cH k m r) else none,e,s'):=by
    unfold mZ;rw [show (⟨(),k,bA m 0 r⟩:S79)=cH k m r from rfl,w,bGi];by_cases c:e=0
    · rw [if_neg (by simp [c]),if_pos c,c]
    · rw [if_pos (by simpa using c),if_neg c]
  unfold nD;rw [if_neg (by simp only [decide_eq_true_eq];omega),show decide (8<k)=false by simp only [decide_eq_false_iff_not];omega];unfold pW;rw [if_neg (by simp),show ([99,97,116]:List UInt8)=vL from rfl,h.si.Read (by decide),bGi];by_cases c:r=[]
  · have b:aGz s vL=([],5):=by unfold aGz;rw [if_pos (aDm aHv a),h.ct.cat0 c]
    rw [b];subst c;rw [if_pos (by rfl)];exact d
  · have b:aGz s vL=(jQ 99 (aE6 k (bA m 0 r)),0):=by unfold aGz;rw [if_pos (aDm aHv a),h.ct.cat c];rfl
    rw [b,if_neg (by simp),if_pos (by simp),aWr ⟨g,j⟩ (aBi hL h.ri) (by rw [eC];omega),bGi,if_neg (by simp)];exact d
end
def aAi (k:Int) (m:List S61) (r:List Nat):List S98:=(if r=[] then [] else [aNl vL (aV0 k m r)])++(bA m 0 r).map (aMe k m)
theorem aH5 {m:List S61}:∀ {r:List Nat} {a n:Nat},RiseN a r n->n<=250->((bA m a r).map λe=>e.f0).Nodup
  | [],_,_,_,_=>List.nodup_nil
  | b::r,a,n,h,hn=>by have f:=h.1;have g:=RiseN.end_le h.2;refine List.nodup_cons.2 ⟨λhm=>?_,aH5 h.2 hn⟩;obtain⟨e,he,q⟩:=List.mem_map.1 hm;obtain⟨x,y,i,j,k,rfl⟩:=aAu h.2 e he;have:=(aN8 (a:=x) (b:=y) (c:=a) (d:=b) (by omega) (by omega) (by omega) (by omega) q).1;omega
theorem aAl {α β:Type} (f:α->β):∀ {l:List α},(l.map f).Nodup->l.Nodup
  | [],_=>List.nodup_nil
  | x::l,h=>by obtain⟨a,b⟩:=List.nodup_cons.1 h;exact List.nodup_cons.2 ⟨λhm=>a (List.mem_map.2 ⟨x,hm,rfl⟩),aAl f b⟩
section
variable {k:Int} {m:List S61} {r:List Nat} {kk:Nat} {s:S77}
theorem aLp (hL:Lg k m) (hr:RiseN 0 r m.length):(aAi k m r).Nodup:=by
  refine aAl S98.f0 ?_;have a:=aH5 (m:=m) hr hL.le;have b:((bA m 0 r).map (aMe k m)).map S98.f0=(bA m 0 r).map λe=>e.f0:=by rw [List.map_map];rfl
  unfold aAi;rw [List.map_append,b];split
  · exact a
  · refine List.nodup_cons.2 ⟨λhm=>?_,a⟩
    obtain⟨e,he,q⟩:=List.mem_map.1 hm;exact (aFr (aDe hL hr he).1).2 q
theorem Cv.mem (h:Cv k m r kk s) (hL:Lg k m) (b:CleanC (bA m 0 r) s.f0) (x:S98):x∈s.f0↔x∈aAi k m r:=by
  constructor
  · intro hx
    have hg:=aLx h.si.rise hx;have a:=b _ _ hg;unfold aAi;rw [List.mem_append];rcases h.dom _ _ hg with e | e | e
    · by_cases c:r=[]
      · rw [e,h.ct.cat0 c] at hg;cases hg
      · rw [e,h.ct.cat c] at hg
        cases hg;rw [if_neg c];exact .inl List.mem_cons_self
    · rw [e,aId] at a;cases a
    · unfold tC at a
      rw [e] at a;simp only [Bool.or_eq_false_iff,Bool.true_and,Bool.not_eq_false'] at a;obtain⟨en,he,q⟩:=List.any_eq_true.1 a.2;have d:en.f0=x.f0:=by simpa using q
      rw [← d,h.ct.segs en he] at hg;cases hg;exact .inr (List.mem_map.2 ⟨en,he,rfl⟩)
  · intro hx
    unfold aAi at hx;rw [List.mem_append] at hx;rcases hx with hx | hx
    · split at hx
      · cases hx
      · rename_i c
        obtain rfl:=List.mem_singleton.1 hx;exact (yE (h.ct.cat c)).1
    · obtain⟨e,he,rfl⟩:=List.mem_map.1 hx
      exact (yE (h.ct.segs e he)).1
theorem Cv.perm (h:Cv k m r kk s) (hL:Lg k m) (a:CleanC (bA m 0 r) s.f0):s.f0.Perm (aAi k m r) :=
  (List.perm_ext_iff_of_nodup (aAl S98.f0 (aCl h.si.rise)) (aLp hL h.ri)).2 λx=>h.mem hL a x
theorem Cv.count (h:Cv k m r kk s) (hL:Lg k m) (a:CleanC (bA m 0 r) s.f0):s.f0.length=(if r=[] then 0 else 1)+r.length:=by rw [(h.perm hL a).length_eq];unfold aAi;rw [List.length_append,List.length_map,eC];split <;> rfl
theorem aKq (hL:Lg k m):∀ {r:List Nat} {a:Nat},RiseN a r m.length->used ((bA m a r).map (aMe k m))<=r.length * szB m.length
  | [],_,_=>Nat.zero_le _
  | b::r,a,h=>by
    have c:=h.1;have d:=RiseN.end_le h.2;have ih:=aKq hL h.2;have hs:=(hL.seg c (show b<=m.length by omega)).size;have hm:=aFu (a:=(pc m a b).length) (b:=m.length) (by rw [zM (by omega)];omega);show used (aMe k m (jP m a b)::(bA m b r).map (aMe k m))<=(r.length+1) * _;rw [yM,Nat.add_mul];have e:(aMe k m (jP m a b)).f1.length=(xL (pc m a b) k.toNat).length:=by show (xL (pc m ((a:Int)).toNat ((b:Int)).toNat) k.toNat).length=_;rw [Int.toNat_natCast,Int.toNat_natCast]
    rw [e];omega
theorem Cv.used (h:Cv k m r kk s) (hL:Lg k m) (a:CleanC (bA m 0 r) s.f0):used s.f0<=40 * r.length+40+r.length * szB m.length:=by
  have hf:=h.few hL;have hu:P.used s.f0=P.used (aAi k m r):=by show (s.f0.map λx=>x.f1.length).sum=((aAi k m r).map λx=>x.f1.length).sum;exact ((h.perm hL a).map _).sum_nat
  have b:=aKq hL h.ri;rw [hu];unfold aAi;rw [uI];have c:P.used (if r=[] then [] else [aNl vL (aV0 k m r)])<=40 * r.length+40:=by
    split
    · exact Nat.zero_le _
    · have:=aM2 ⟨hL.k1,hL.k8⟩ (aBi hL h.ri) (by rw [eC];omega)
      rw [eC] at this;show (aV0 k m r).length+0<=_;exact this
  omega
structure Sv (k:Int) (m:List S61) (r:List Nat) (R:Int) (kk:Nat) (s:S77):Prop where
  ctv:Cv k m r kk s
  cl:CleanC (bA m 0 r) s.f0
  f1:s.f1=R
  f2:s.f2=0
  f3:s.f3=false
theorem Sv.mono {R:Int} {a:Nat} (h:Sv k m r R kk s) (hk:kk<=a):Sv k m r R a s:=⟨h.ctv.mono hk,h.cl,h.f1,h.f2,h.f3⟩
theorem aSq (k:Int) (m:List S61) {R:Int} (h:1<=R) (a:R<=16777216):Sv k m [] R 0 (onS [] R 0) :=
  ⟨⟨aZf h a,⟨λ_=>rfl,λh=>absurd rfl h,λe he=>(by cases he)⟩,λf x hx=>(by cases hx),Nat.zero_le _⟩,λf x hx=>(by cases hx),rfl,rfl,rfl⟩
theorem Sv.fit {R:Int} (h:Sv k m r R kk s) (hL:Lg k m) {c:Nat} (hc:c<=r.length+1) (a:((r.length+1) * szB m.length+80 * (r.length+2):Nat)<=R):FitC s (szB m.length+(40 * c+40)) 2:=by
  have d:=h.ctv.used hL h.cl;have b:=h.ctv.count hL h.cl;have e:=(h.ctv.few hL).1;refine⟨?_,?_⟩
  · rw [h.f1]
    rw [Nat.add_mul] at a;omega
  · rw [b];split <;> omega
theorem aLa {R:Int} {b:Nat} (h:Sv k m r R kk s) (hL:Lg k m) (hk:kk+20000<4611686018427387904) (hr:r.length<200) (d:eT 0 r<b) (hb:b<=m.length) (f:((r.length+1) * szB m.length+80 * (r.length+2):Nat)<=R) :
    ∃ s',bH (cH k m r) (pc m (eT 0 r) b) s=some (0,cH k m (r++[b]),s')/\Sv k m (r++[b]) R (kk+1000) s':=by
  obtain⟨e,s',r',w,C,kp,o,ft⟩:=aRn h.ctv hL (by omega) h.f3 h.cl (by omega) d hb;obtain⟨g,i⟩:=kp.2 h.f2 h.f3;rcases o with ⟨rfl,on,rfl,cl⟩ | ⟨rfl,off,_⟩ | ⟨rfl,_⟩
  · exact⟨s',w,C,cl,kp.1.trans h.f1,g,on⟩
  · rw [i] at off;cases off
  · refine absurd rfl (ft ((h.fit hL (c:=r.length+1) (Nat.le_refl _) f).mono ?_ (Nat.le_refl _)))
    have:=aFu (a:=b - eT 0 r) (b:=m.length) (by omega);omega
theorem aK9 {R:Int} (h:Sv k m r R kk s) (hL:Lg k m) (hk:kk+20000<4611686018427387904) (hr:r.length<200) :
    ∃ s',bH (cH k m r) [] s=some (1,cH k m r,s')/\Sv k m r R (kk+1000) s':=by
  obtain⟨e,s',w,C,kp,o⟩:=aRm h.ctv hL (by omega) h.f3 (by omega);obtain⟨a,b⟩:=kp.2 h.f2 h.f3;rcases o with ⟨rfl,on,cl⟩ | ⟨rfl,off⟩
  · exact⟨s',w,C,cl,kp.1.trans h.f1,a,on⟩
  · rw [b] at off;cases off
theorem aHk {R:Int} {x y:List Nat} {b d:Nat} (h:Sv k m (x++b::d::y) R kk s) (hL:Lg k m) (hk:kk+20000<4611686018427387904)
    (a:(((x++b::d::y).length+1) * szB m.length+80 * ((x++b::d::y).length+2):Nat)<=R) :
    ∃ s',bZ (cH k m (x++b::d::y)) (x.length:Int) s=some (0,cH k m (x++d::y),s')/\Sv k m (x++d::y) R (kk+2000) s':=by
  obtain⟨e,s',r',w,C,kp,o,ft⟩:=aK0 h.ctv hL hk h.f3 h.cl;obtain⟨f,g⟩:=kp.2 h.f2 h.f3;rcases o with ⟨rfl,on,rfl,cl⟩ | ⟨rfl,off,_⟩ | ⟨rfl,_⟩
  · exact⟨s',w,C,cl,kp.1.trans h.f1,f,on⟩
  · rw [g] at off;cases off
  · exact absurd rfl (ft (h.fit hL (c:=(x++b::d::y).length) (by omega) a))
theorem aK7 {R:Int} (h:Sv k m r R kk s) (hL:Lg k m) (hk:kk+20000<4611686018427387904) :
    ∃ s',nD s k=some (some (cH k m r),0,s')/\Sv k m r R (kk+500) s':=by
  obtain⟨e,s',w,C,kp,_,o⟩:=aSv h.ctv hL (by omega) h.f3;obtain⟨a,b⟩:=kp.2 h.f2 h.f3;rcases o with ⟨rfl,on,cl⟩ | ⟨rfl,off⟩
  · exact⟨s',w,C,cl,kp.1.trans h.f1,a,on⟩
  · rw [b] at off;cases off
theorem aS5 (r:List Nat) (i:Nat) (h:i+1<r.length):∃ x b d y,r=x++b::d::y/\x.length=i:=by refine⟨r.take i,r[i],r[i+1],r.drop (i+2),?_,by rw [List.length_take];omega⟩;have a:=List.take_append_drop i r;rw [List.drop_eq_getElem_cons (by omega),List.drop_eq_getElem_cons (by omega)] at a;exact a.symm
end
theorem aIn (a0:List S61) (hg:∀ e∈a0,Gd e) (k:Int):∀ (n i:Nat) (out:List S61),i+n=min a0.length 250->Run k 0 out->out.length<=i ->
    ∃ m,loop (λs:List S61×Int=>nQ a0 k s.1 s.2) (out,(i:Int))=some m/\Run k 0 m/\m.length<=250
  | 0,i,out,hi,hr,hl=>by
    refine⟨out,bE ?_,hr,by omega⟩;show nQ a0 k out (i:Int)=_;unfold nQ sF;by_cases h:i<a0.length
    · rw [if_pos (by simp only [decide_eq_true_eq];omega),show decide ((i:Int)<250)=false by simp only [decide_eq_false_iff_not];omega];rfl
    · rw [if_neg (by simp only [decide_eq_true_eq];omega)];rfl
  | n+1,i,out,hi,hr,hl=>by
    have f:i<a0.length:=by omega
    have hx:=List.getElem?_eq_getElem (l:=a0) (i:=i) f;obtain⟨o,g⟩:=hg _ (List.getElem_mem f);generalize a0[i]=e at hx o g;have a:nQ a0 k out (i:Int)=some (.inl (if pZ ⟨out.length,e.f1,e.f2,e.f3,e.f4⟩ k=true then out++[⟨out.length,e.f1,e.f2,e.f3,e.f4⟩] else out,((i+1:Nat):Int))):=by
      unfold nQ sF;rw [if_pos (by simp only [decide_eq_true_eq];omega),show decide ((i:Int)<250)=true by simp only [decide_eq_true_eq];omega,if_pos rfl,bB rfl hx];simp only [bGi,lt_];rw [mE (n:=(out.length:Int)) (by omega) (by omega),aUt];simp only [bGi];split
      · rw [bJ (by simp;omega)]
        unfold sE;rw [lt_,w64 (by omega) (by omega)];rfl
      · unfold sE
        rw [lt_,w64 (by omega) (by omega)];rfl
    by_cases hb:pZ ⟨out.length,e.f1,e.f2,e.f3,e.f4⟩ k=true
    · rw [if_pos hb] at a
      have p:Run k 0 (out++[⟨out.length,e.f1,e.f2,e.f3,e.f4⟩]):=by
        refine⟨λx hx=>?_,λx hx=>?_,λj x hx=>?_⟩
        · rcases List.mem_append.1 hx with h | h
          · exact hr.fm x h
          · simp at h;subst h;exact hb
        · rcases List.mem_append.1 hx with h | h
          · exact hr.gd x h
          · simp at h;subst h
            exact⟨⟨by show 0<=(out.length:Int);omega,by show (out.length:Int)<_;omega⟩,g⟩
        · rw [List.getElem?_append] at hx
          split at hx
          · exact hr.of j x hx
          · rename_i r
            have q:j=out.length:=by have:=(List.getElem?_eq_some_iff.1 hx).1;simp at this;omega
            subst q;rw [Nat.sub_self] at hx;cases hx;show (out.length:Int)=0+out.length;omega
      obtain⟨m,b,c,d⟩:=aIn a0 hg k n (i+1) _ (by omega) p (by simp;omega);exact⟨m,(cD a).trans b,c,d⟩
    · rw [if_neg hb] at a
      obtain⟨m,b,c,d⟩:=aIn a0 hg k n (i+1) out (by omega) hr (by omega);exact⟨m,(cD a).trans b,c,d⟩
theorem aZ6 {a0:List S61} (hg:∀ e∈a0,Gd e) {k:Int} (hk:1<=k/\k<=8):∃ m,aAy a0 k=some m/\Lg k m:=by obtain⟨m,a,b,c⟩:=aIn a0 hg k (min a0.length 250) 0 [] (by omega) ⟨λe he=>(by cases he),λe he=>(by cases he),λi x hx=>(by simp at hx)⟩ (Nat.le_refl _);refine⟨m,?_,b,c,hk.1,hk.2⟩;unfold aAy;rw [show (([]:List S61),(0:Int))=([],((0:Nat):Int)) from rfl,a];rfl
def wR (r:List Nat):List Int:=r.map λn:Nat=>(n:Int)
section
variable {k:Int} {m:List S61} {r:List Nat} {kk:Nat} {s:S77}
theorem aJy {es:List S46} (c:S79) (d:es.length<=250) (hm:m.length<=250):∀ (y:List Nat) (i a:Nat) (acc:List Int),es.drop i=bA m a y->RiseN a y m.length->acc.length<=i->i+y.length=es.length ->
    loop (λt:List Int×Int×Int=>kG (es,c) t.1 t.2.1 t.2.2) (acc,(a:Int),(i:Int))=some (.inl (acc++wR y))
  | [],i,a,acc,hd,hr,ha,hi=>by refine bE ?_;show kG (es,c) acc (a:Int) (i:Int)=_;unfold kG;rw [if_neg (by simp only [decide_eq_true_eq];simp only [List.length_nil] at hi;omega)];simp [wR]
  | b::y,i,a,acc,hd,hr,ha,hi=>by
    rw [List.length_cons] at hi;have f:=hr.1;have hx:es[i]?=some (jP m a b):=by have:=congrArg (λl=>l[0]?) hd;simpa [bA] using this
    have hd':es.drop (i+1)=bA m b y:=by have:=congrArg (List.drop 1) hd;rw [List.drop_drop] at this;simpa [bA] using this
    have e:kG (es,c) acc (a:Int) (i:Int)=some (.inl (acc++[(b:Int)],(b:Int),((i+1:Nat):Int))):=by unfold kG;dsimp only;rw [if_pos (by simp only [decide_eq_true_eq];omega),bB rfl hx,bGi,show (jP m a b).f1=(a:Int) from rfl,show (jP m a b).f2=(b:Int) from rfl,if_neg (by simp),show decide ((b:Int)<=(a:Int))=false by simp only [decide_eq_false_iff_not];omega];unfold tD;dsimp only;rw [if_neg (by simp),bB rfl hx,bGi,show (jP m a b).f2=(b:Int) from rfl,bJ (by simp only [List.length_singleton];omega),lt_,w64 (by omega) (by omega)];rfl
    rw [cD (b:=λt:List Int×Int×Int=>kG (es,c) t.1 t.2.1 t.2.2) e,aJy c d hm y (i+1) b _ hd' hr.2 (by simp;omega) (by omega),List.append_assoc];rfl
theorem aV5 (hL:Lg k m) (hr:RiseN 0 r m.length):zH (cH k m r)=some (wR r,cH k m r):=by have hl:=RiseN.len hr;have he:=RiseN.end_le hr;have hm:=hL.le;unfold zH;rw [zT (by omega),bGi];have:=aJy (es:=bA m 0 r) (cH k m r) (by rw [eC];omega) hm r 0 0 [] (by rw [List.drop_zero]) hr (Nat.le_refl _) (by rw [eC];omega);rw [List.nil_append] at this;rw [show (([]:List Int),(0:Int),(0:Int))=([],((0:Nat):Int),((0:Nat):Int)) from rfl,this];rfl
theorem aKo (p q:List Int) (hp:p.length<=100000) (a:p.length=q.length):∀ (n i:Nat),i+n=p.length ->
    ((loop (λs=>iN p q s) (i:Int)).bind λt=>match t with | (.inl t)=>tK | (.inr t)=>some t)=some (decide (p.drop i=q.drop i))
  | 0,i,hi=>by
    rw [bE (b:=λs=>iN p q s) (t:=.inl ()) (by
      unfold iN;rw [if_neg (by simp only [decide_eq_true_eq];omega)]),List.drop_of_length_le (by omega),List.drop_of_length_le (by omega)]
    rfl
  | n+1,i,hi=>by
    have hx:=List.getElem?_eq_getElem (l:=p) (i:=i) (by omega);have d:=List.getElem?_eq_getElem (l:=q) (i:=i) (by omega);have hs:iN p q (i:Int)=if p[i]=q[i] then some (.inl ((i+1:Nat):Int)) else some (.inr (.inr false)):=by
      unfold iN;rw [if_pos (by simp only [decide_eq_true_eq];omega),bB rfl hx,bGi,bB rfl d,bGi];by_cases c:p[i]=q[i]
      · rw [if_neg (by simpa using c),if_pos c,lt_,w64 (by omega) (by omega)]
        rfl
      · rw [if_pos (by simpa using c),if_neg c]
    rw [List.drop_eq_getElem_cons (by omega),List.drop_eq_getElem_cons (by omega:i<q.length)];by_cases c:p[i]=q[i]
    · rw [if_pos c] at hs
      rw [cD (b:=λs=>iN p q s) hs,aKo p q hp a n (i+1) (by omega),c];congr 1;rw [decide_eq_decide];exact⟨λe=>by rw [e],λe=>(List.cons.inj e).2⟩
    · rw [if_neg c] at hs
      rw [bE (b:=λs=>iN p q s) hs];show some false=_;congr 1;symm;rw [decide_eq_false_iff_not];exact λe=>c (List.cons.inj e).1
theorem aW5 {p q:List Int} (hp:p.length<=100000):zJ p q=some (decide (p=q)):=by
  unfold zJ;by_cases c:p.length=q.length
  · have h:=aKo p q hp c p.length 0 (by omega)
    rw [List.drop_zero,List.drop_zero] at h;rw [if_neg (by simp;omega)];exact h
  · rw [if_pos (by simp only [bne_iff_ne,ne_eq];omega)]
    congr 1;symm;rw [decide_eq_false_iff_not];exact λe=>c (by rw [e])
theorem aT1 {es:List S46} {i a b:Nat} (c:S79) (hx:es[i]?=some (jP m a b)) (h:a<b) (hb:b<=m.length) (hm:m.length<=250) {x:S61} (f:m[a]?=some x) :
    loop (λt:Int×Int×Int=>iX m (es,c) (i:Int) t.1 t.2.1 t.2.2) (x.f2,x.f2,(a:Int))=some (aEo (pc m a b),zE (pc m a b)):=by
  have hlen:=zM (m:=m) (a:=a) (b:=b) hb;have d:(pc m a b)[0]?=some x:=by unfold pc;rw [List.getElem?_take,if_pos (by omega),List.getElem?_drop,Nat.add_zero,f]
  have e0:ckL (pc m a b) 0=(pc m a b).foldl ckF (ck0 (pc m a b) 0 x):=by
    generalize pc m a b=l at d;cases l with
    | nil=>cases d
    | cons y l=>cases d;rfl
  have hk:=iY (b:=λt:Int×Int×Int=>iX m (es,c) (i:Int) t.1 t.2.1 t.2.2)
    (λj=>((((pc m a b).take j).foldl ckF (ck0 (pc m a b) 0 x)).f4,(((pc m a b).take j).foldl ckF (ck0 (pc m a b) 0 x)).f5,((a+j:Nat):Int)))
    (t:=(((pc m a b).foldl ckF (ck0 (pc m a b) 0 x)).f4,((pc m a b).foldl ckF (ck0 (pc m a b) 0 x)).f5)) (b - a) (λj k=>by
      have e:=List.getElem?_eq_getElem (l:=pc m a b) (i:=j) (by omega);have hz:m[a+j]?=some (pc m a b)[j]:=by rw [← e];unfold pc;rw [List.getElem?_take,if_pos (by omega),List.getElem?_drop]
      generalize (pc m a b)[j]=v at e hz;show iX m (es,c) (i:Int) _ _ ((a+j:Nat):Int)=_;rw [aEn ckF _ e];generalize ((pc m a b).take j).foldl ckF (ck0 (pc m a b) 0 x)=cc;have g:∀ (p q:Int),oV ((a+j:Nat):Int) p q=some (.inl (p,q,((a+(j+1):Nat):Int))):=λp q=>by unfold oV;rw [lt_,mE (by omega) (by omega)];rfl
      unfold iX;dsimp only;rw [bB rfl hx,bGi,show (jP m a b).f2=(b:Int) from rfl,if_pos (by simp only [decide_eq_true_eq];omega),bB rfl hz,bGi];unfold rL;rw [bB rfl hz];simp only [bGi,g];unfold ckF;dsimp only;by_cases c1:v.f2<cc.f4
      · rw [if_pos (by simpa using c1),if_pos c1]
        by_cases c2:cc.f5<v.f2
        · rw [if_pos (by simpa using c2),if_pos c2]
        · rw [if_neg (by simpa using c2),if_neg c2]
      · rw [if_neg (by simpa using c1),if_neg c1]
        by_cases c2:cc.f5<v.f2
        · rw [if_pos (by simpa using c2),if_pos c2]
        · rw [if_neg (by simpa using c2),if_neg c2]) (by
      show iX m (es,c) (i:Int) _ _ ((a+(b - a):Nat):Int)=_;unfold iX;dsimp only;rw [bB rfl hx,bGi,show (jP m a b).f2=(b:Int) from rfl,if_neg (by simp only [decide_eq_true_eq];omega),List.take_of_length_le (by omega)])
  unfold aEo zE;rw [e0];exact hk
theorem aIe {es:List S46} (c:S79) (Y:List S61×Int×Int×S79×S77) (f:es.length<=250) (hm:m.length<=250):∀ (y:List Nat) (i a:Nat),es.drop i=bA m a y->RiseN a y m.length->i+y.length=es.length ->
    loop (λt:Int=>kN m (es,c) Y t) (i:Int)=some (.inl ())
  | [],i,a,hd,hr,hi=>by refine bE ?_;unfold kN;rw [if_neg (by simp only [decide_eq_true_eq];simp only [List.length_nil] at hi;omega)]
  | b::y,i,a,hd,hr,hi=>by
    rw [List.length_cons] at hi;have g:=hr.1;have j:=RiseN.end_le hr.2;have hx:es[i]?=some (jP m a b):=by have:=congrArg (λl=>l[0]?) hd;simpa [bA] using this
    have hd':es.drop (i+1)=bA m b y:=by have:=congrArg (List.drop 1) hd;rw [List.drop_drop] at this;simpa [bA] using this
    have d:=List.getElem?_eq_getElem (l:=m) (i:=a) (by omega);have e:=aT1 c hx g (by omega) hm d;have h:kN m (es,c) Y (i:Int)=some (.inl ((i+1:Nat):Int)):=by unfold kN;dsimp only at e ⊢;rw [if_pos (by simp only [decide_eq_true_eq];omega),bB rfl hx,bGi,show (jP m a b).f1=(a:Int) from rfl,bB rfl d,bGi,e,bGi];unfold sD vI;dsimp only;rw [bB rfl hx,bGi,show (jP m a b).f3=aEo (pc m a b) from rfl,show (jP m a b).f4=zE (pc m a b) from rfl,if_neg (by simp),bne_self_eq_false];unfold rK;rw [if_neg (by simp),lt_,w64 (by omega) (by omega)];rfl
    rw [cD (b:=λt:Int=>kN m (es,c) Y t) h];exact aIe c Y f hm y (i+1) b hd' hr.2 (by omega)
theorem aT0 (h:Cv k m r kk s) (hL:Lg k m) (b:s.f3=false) (c:CleanC (bA m 0 r) s.f0):law08_holds s (cH k m r) m=some (true,s,cH k m r):=by
  have hf:=h.few hL;have hm:=hL.le;have hc:=h.count hL c;have d:r.length<=s.f0.length/\s.f0.length<=r.length+1:=by rw [hc];split <;> omega
  unfold law08_holds;rw [zT (by omega),bGi,h.si.Names,bGi];dsimp only;rw [eC,List.length_map,lt_,w64 (by omega) (by omega),if_neg (by simp only [decide_eq_true_eq];omega),if_neg (by simp only [decide_eq_true_eq];omega),aF1 (by omega),bGi,lt_,mE (by omega) (by omega),show decide ((m.length:Int)<(eT 0 r:Int))=false by simp only [decide_eq_false_iff_not];omega];unfold oW;rw [if_neg (by simp)];unfold aDk;rw [bGi,show (⟨(),(cH k m r).f1,(cH k m r).f2⟩:S79)=cH k m r from rfl,aMv _ h hL b,bGi,show (0:Int)=((0:Nat):Int) from rfl,aIe (cH k m r) _ (by rw [eC];omega) hm r 0 0 (by rw [List.drop_zero]) h.ri (by rw [eC];omega),bGi];unfold sC vH;have a:=oG (xs:=m) (l:=0) (u:=eT 0 r) (by omega) (by omega);rw [List.drop_zero] at a;have hw:=aS0 (hL.run.take (eT 0 r)) (by omega);rw [show ((0:Nat):Int)=0 from rfl] at a ⊢;rw [hw,if_pos (by simp),aF1 (by omega),bGi,a,bGi,aK8 _ (by simp;omega),bGi]
end
def awakeL:List S61:=aC7 20
theorem aRq:Lg 1 awakeL:=by
  have hl:awakeL.length=20:=by simp [awakeL,aC7]
  refine⟨⟨λe he=>?_,λe he=>?_,λi x hx=>?_⟩,by omega,by omega,by omega⟩
  · obtain⟨i,hi⟩:=List.getElem?_of_mem he
    obtain⟨rfl,h⟩:=aJe hi;unfold pZ;simp only [Bool.and_eq_true,decide_eq_true_eq,List.length_nil];omega
  · obtain⟨i,hi⟩:=List.getElem?_of_mem he
    obtain⟨rfl,h⟩:=aJe hi;exact⟨⟨by show (0:Int)<=i;omega,by show (i:Int)<_;omega⟩,by show 0<18446744073709551616;omega⟩
  · obtain⟨rfl,h⟩:=aJe hx
    show (i:Int)=0+i;omega
theorem aMy:loop (λs:List S61×Int=>iW s.1 s.2) ([],0)=some awakeL:=by
  have h:=iY (b:=λs:List S61×Int=>iW s.1 s.2) (λk=>(aC7 k,(k:Int))) (t:=awakeL) 20 (λk hk=>by
    show iW (aC7 k) (k:Int)=_;have hl:(aC7 k).length=k:=by simp [aC7]
    unfold iW;rw [if_pos (by simp only [decide_eq_true_eq];omega),lt_,mE (by omega) (by omega),bJ (by rw [hl];simp only [List.length_singleton];omega),lt_,w64 (by omega) (by omega)];unfold aC7;rw [List.range_succ,List.map_append];rfl) (by
    show iW (aC7 20) _=_;unfold iW;rw [if_neg (by simp)];rfl)
  exact h
theorem aRp:wU=some true:=by
  have hl:awakeL.length=20:=by simp [awakeL,aC7]
  have hL:=aRq;have hz:szB awakeL.length=8522:=by rw [hl];rfl
  have c1:kD awakeL 0 10=some (pc awakeL 0 10):=by have:=oG (xs:=awakeL) (l:=0) (u:=10) (by omega) (by omega);rw [List.drop_zero, ← aL4] at this;exact this
  have c2:kD awakeL 10 (awakeL.length:Int)=some (pc awakeL 10 20):=by have:=oG (xs:=awakeL) (l:=10) (u:=awakeL.length) (by omega) (by omega);refine this.trans ?_;unfold pc;rw [List.take_length,List.take_of_length_le (by simp;omega)]
  obtain⟨s0,e,v0⟩:=aK7 (aSq 1 awakeL (R:=65536) (by decide) (by decide)) hL (by omega);obtain⟨s1,a,f⟩:=aLa (b:=10) v0 hL (by omega) (by simp) (by show 0<10;omega) (by omega) (by rw [hz];decide);obtain⟨i,c,g⟩:=aLa (b:=20) f hL (by omega) (by simp) (by show 10<20;omega) (by omega) (by rw [hz];decide);obtain⟨j,h,v3⟩:=aHk (x:=[]) (b:=10) (d:=20) (y:=[]) g hL (by omega) (by rw [hz];decide);rw [show eT 0 []=0 from rfl] at a;rw [show eT 0 ([]++[10])=10 from rfl] at c;unfold wU;rw [aP2 (by decide) (by decide),bGi,bGi,e,bGi,bGi,if_neg (by simp),aMy,bGi];unfold sB vG;rw [c1,bGi,a,bGi,if_neg (by simp),c2,bGi,c,bGi,if_neg (by simp)];rw [show ([]++[10]++[20]:List Nat)=[]++10::20::[] from rfl,show (0:Int)=((([]:List Nat).length:Nat):Int) from rfl,h,bGi];unfold oU;rw [if_neg (by simp),show (⟨(),(cH 1 awakeL ([]++20::[])).f1,(cH 1 awakeL ([]++20::[])).f2⟩:S79)=cH 1 awakeL [20] from rfl,zT (by simp),bGi];rw [if_pos (by rfl),show at_ (bA awakeL 0 [20]) 0=some (jP awakeL 0 20) from rfl,bGi,if_pos (by rw [show (jP awakeL 0 20).f0=qA 0 20 from rfl];decide +kernel),aF1 (by simp),bGi];rfl
theorem bAb {m:List S61} {a b:Nat} (h:a<=b) (hb:b<=m.length):kD m (a:Int) (b:Int)=some (pc m a b):=by rw [oG h hb];unfold pc;rw [List.drop_take]
section
variable {k:Int} {m:List S61} {r:List Nat} {R:Int}
theorem aQ5 (hL:Lg k m) {n:Nat} (hn:n<=25) (c:700000<=R):((n+1) * szB m.length+80 * (n+2):Nat)<=R:=by have a:szB m.length<=26822:=aFu (b:=250) hL.le;have d:=Nat.mul_le_mul (show n+1<=26 by omega) a;omega
theorem aU6 (hL:Lg k m) (hr:r.length<=25) (c:RiseN 0 r m.length) (a:700000<=R) {n:Nat} (hn:eT 0 r+n<=m.length) :
    ∃ e r',((n=0/\e=1/\r'=r)\/(0<n/\e=0/\r'=r++[eT 0 r+n]))/\∀ kk s,Sv k m r R kk s->kk<=1000000000->∃ s',bH (cH k m r) (pc m (eT 0 r) (eT 0 r+n)) s=some (e,cH k m r',s')/\Sv k m r' R (kk+2000) s':=by
  rcases Nat.eq_zero_or_pos n with h0 | h0
  · subst h0
    refine⟨1,r,.inl ⟨rfl,rfl,rfl⟩,λkk s h hk=>?_⟩;obtain⟨s',w,v⟩:=aK9 h hL (by omega) (by omega);have:pc m (eT 0 r) (eT 0 r+0)=[]:=by unfold pc;rw [show eT 0 r+0 - eT 0 r=0 by omega,List.take_zero]
    rw [this];exact⟨s',w,v.mono (by omega)⟩
  · refine⟨0,r++[eT 0 r+n],.inr ⟨h0,rfl,rfl⟩,λkk s h hk=>?_⟩
    obtain⟨s',w,v⟩:=aLa (b:=eT 0 r+n) h hL (by omega) (by omega) (by omega) hn (aQ5 hL hr a);exact⟨s',w,v.mono (by omega)⟩
theorem aM6 (hL:Lg k m) (hr:r.length<=25) (a:700000<=R) (i:Int) :
    ∃ e r',(((i<0\/(r.length:Int) - 1<=i)/\e=1/\r'=r)\/(∃ x b d y,r=x++b::d::y/\i=(x.length:Int)/\e=0/\r'=x++d::y))/\∀ kk s,Sv k m r R kk s->kk<=1000000000->∃ s',bZ (cH k m r) i s=some (e,cH k m r',s')/\Sv k m r' R (kk+2000) s':=by
  by_cases c:i<0\/(r.length:Int) - 1<=i
  · exact⟨1,r,.inl ⟨c,rfl,rfl⟩,λkk s h hk=>⟨s,aMn (by omega) c s,h.mono (by omega)⟩⟩
  · obtain⟨n,rfl⟩:∃ n:Nat,i=n:=⟨i.toNat,by omega⟩
    obtain⟨x,b,d,y,rfl,rfl⟩:=aS5 r n (by omega);refine⟨0,x++d::y,.inr ⟨x,b,d,y,rfl,rfl,rfl,rfl⟩,λkk s h hk=>?_⟩;obtain⟨s',w,v⟩:=aHk h hL (by omega) (aQ5 hL hr a);exact⟨s',w,v.mono (by omega)⟩
end
section
variable {m:List S61} {r:List Nat}
theorem aVb {x:Int} (h:gI .u8 x) (n:Nat) (hn:0<n):∃ a:Nat,x.tmod (n:Int)=(a:Int)/\a<n/\a<256:=by obtain⟨c,d⟩:=bDm h;obtain⟨b,rfl⟩:=Int.eq_ofNat_of_zero_le c;refine⟨b % n,rfl,Nat.mod_lt _ hn,Nat.lt_of_le_of_lt (Nat.mod_le _ _) (by omega)⟩
end
theorem zF (a b:List Nat):wR (a++b)=wR a++wR b:=List.map_append ..
theorem zG (a:List Nat):(wR a).length=a.length:=List.length_map ..
section
variable {k:Int} {m:List S61} {r:List Nat}
abbrev PlS:=List S98×Int×Int×Bool×Int×Int×List S46×List Int×Int
def plT (s:S77) (c:S79) (e:List Int) (i:Nat):PlS:=(s.f0,s.f1,s.f2,s.f3,s.f4,c.f1,c.f2,e,(i:Int))
theorem aCs {i K:Nat} {s:S77} (hL:Lg k m) (hi:i<25) (h:Sv k m r 4194304 K s) :
    dB k m (i:Int) s.f0 s.f1 s.f2 s.f3 s.f4 (cH k m r).f1 (cH k m r).f2 (wR r)=some (.inl (plT s (cH k m r) (wR r) (i+1))):=by
  have hf:=h.ctv.few hL;unfold dB;rw [show (⟨(),(cH k m r).f1,(cH k m r).f2⟩:S79)=cH k m r from rfl,show (⟨s.f0,s.f1,s.f2,s.f3,s.f4⟩:S77)=s from rfl,aV5 hL h.ctv.ri,bGi,aW5 (by rw [zG];omega),bGi,decide_eq_true rfl,if_neg (by simp),aT0 h.ctv hL h.f3 h.cl,bGi,if_neg (by simp),show mJ (cH k m r)=some (k,cH k m r) from rfl,bGi,bne_self_eq_false];unfold hG hD;rw [if_neg (by simp),lt_,w64 (by omega) (by omega)];rfl
theorem aNz {acts:List S52} (hg:∀ a∈acts,g52 a) {i:Nat} {s:S77} (hL:Lg k m) (hi:i<acts.length) (f:i<25) (hr:r.length<=i) (hs:Sv k m r 4194304 (3000 * i+1000) s) :
    ∃ r' s',eJ acts k m s.f0 s.f1 s.f2 s.f3 s.f4 (cH k m r).f1 (cH k m r).f2 (wR r) (i:Int)=some (.inl (plT s' (cH k m r') (wR r') (i+1)))/\r'.length<=i+1/\Sv k m r' 4194304 (3000 * (i+1)+1000) s':=by
  have hf:=hs.ctv.few hL;have hm:=hL.le;have hx:=List.getElem?_eq_getElem hi;have j:=hg _ (List.getElem_mem hi);unfold eJ;rw [if_pos (by simp only [decide_eq_true_eq];omega),show decide ((i:Int)<25)=true by simp only [decide_eq_true_eq];omega];unfold hF;rw [if_pos rfl,bB rfl hx,bGi];generalize acts[i]=a at hx j;obtain⟨C,o,H⟩:=j;obtain⟨n1,p,b1,_⟩:=aVb o 40 (by decide);obtain⟨n2,q,b2,_⟩:=aVb C 10 (by decide);obtain⟨n3,t,I,_⟩:=aVb o 8 (by decide);rw [show ((40:Nat):Int)=40 from rfl] at p;rw [show ((10:Nat):Int)=10 from rfl] at q;rw [show ((8:Nat):Int)=8 from rfl] at t;rw [show (⟨(),(cH k m r).f1,(cH k m r).f2⟩:S79)=cH k m r from rfl,show (⟨s.f0,s.f1,s.f2,s.f3,s.f4⟩:S77)=s from rfl,aF1 (by omega),bGi,lt_,q];by_cases c1:n2<5
  · rw [if_pos (by simp only [decide_eq_true_eq];omega),lt_,lt_,lt_,lt_,p,mE (n:=(n1:Int)) (by omega) (by omega),mE (n:=(m.length:Int)) (by omega) (by omega),mE (n:=(m.length:Int) - (eT 0 r:Int)) (by omega) (by omega)]
    have z:∀ n:Nat,eT 0 r+n<=m.length->∃ r' s',hJ k m s.f0 s.f1 s.f2 s.f3 s.f4 (wR r) (i:Int) ((eT 0 r:Int),cH k m r) (n:Int)=some (.inl (plT s' (cH k m r') (wR r') (i+1)))/\r'.length<=i+1/\Sv k m r' 4194304 (3000 * (i+1)+1000) s':=by
      intro n hn;obtain⟨e,r',hc,g⟩:=aU6 (R:=4194304) hL (by omega) hs.ctv.ri (by decide) hn;obtain⟨s',ws,vs⟩:=g _ s hs (by omega);have D:kD m ((eT 0 r:Nat):Int) ((eT 0 r:Int)+(n:Int))=some (pc m (eT 0 r) (eT 0 r+n)):=bAb (Nat.le_add_right _ _) hn;refine⟨r',s',?_,?_,vs.mono (by omega)⟩
      · unfold hJ
        rw [lt_,mE (by omega) (by omega),D,bGi,show (⟨s.f0,s.f1,s.f2,s.f3,s.f4⟩:S77)=s from rfl,ws,bGi];rcases hc with ⟨h0,rfl,rfl⟩ | ⟨h0,rfl,rfl⟩
        · rw [if_pos (by simp [h0]),if_neg (by simp),if_neg (by simp [h0])]
          unfold dM;rw [if_neg (by simp),if_neg (by simp [h0])];exact aCs hL f vs
        · rw [if_neg (by simp;omega),if_pos (by simp only [decide_eq_true_eq];omega)]
          unfold dM;rw [if_neg (by simp),if_pos (by simp only [decide_eq_true_eq];omega),lt_,mE (by omega) (by omega),bJ (by rw [zG];simp only [List.length_singleton];omega)];have:=aCs hL f vs;rw [zF] at this ⊢;exact this
      · rcases hc with ⟨_,_,rfl⟩ | ⟨_,_,rfl⟩
        · omega
        · rw [List.length_append,List.length_singleton];omega
    by_cases c:(m.length:Int) - (eT 0 r:Int)<(n1:Int)
    · rw [if_pos (by simpa using c)]
      have:=z (m.length - eT 0 r) (by omega);rw [show ((m.length - eT 0 r:Nat):Int)=(m.length:Int) - (eT 0 r:Int) by omega] at this;exact this
    · rw [if_neg (by simpa using c)]
      exact z n1 (by omega)
  rw [if_neg (by simp only [decide_eq_true_eq];omega)];by_cases c2:n2=5
  · obtain⟨e,r',hc,g⟩:=aM6 (r:=r) (R:=4194304) hL (by omega) (by decide) ((n3:Int) - 1)
    obtain⟨s',ws,vs⟩:=g _ s hs (by omega);rw [if_pos (by simp [c2]),lt_,lt_,lt_,t,w64 (n:=(n3:Int)) (by omega) (by omega),w64 (n:=(n3:Int) - 1) (by omega) (by omega),ws,bGi,lt_,zG,w64 (by omega) (by omega)];have E:(if decide ((n3:Int) - 1<0)=true then eI k m (wR r) (i:Int) ((n3:Int) - 1) (e,cH k m r',s') true else eI k m (wR r) (i:Int) ((n3:Int) - 1) (e,cH k m r',s') (decide ((r.length:Int) - 1<=(n3:Int) - 1)))=eI k m (wR r) (i:Int) ((n3:Int) - 1) (e,cH k m r',s') (decide ((n3:Int) - 1<0)||decide ((r.length:Int) - 1<=(n3:Int) - 1)):=by cases decide ((n3:Int) - 1<0) <;> rfl
    rw [E];unfold eI;rcases hc with ⟨hc,rfl,rfl⟩ | ⟨x,b,d,y,rfl,hi',rfl,rfl⟩
    · refine⟨r',s',?_,by omega,vs.mono (by omega)⟩
      rw [if_pos (by simpa using hc),if_neg (by simp)];unfold hD;rw [lt_,w64 (by omega) (by omega)];rfl
    · simp only [List.length_append,List.length_cons] at hr hf
      refine⟨x++d::y,s',?_,by simp only [List.length_append,List.length_cons];omega,vs.mono (by omega)⟩;have hlen:(wR (x++b::d::y)).length=x.length+(y.length+2):=by rw [zG];simp
      have A:=oG (xs:=wR (x++b::d::y)) (l:=0) (u:=x.length) (by omega) (by omega);rw [List.drop_zero,zF,List.take_left' (zG x), ← zF] at A;have B:=oG (xs:=wR (x++b::d::y)) (l:=x.length+1) (u:=(wR (x++b::d::y)).length) (by omega) (by omega);rw [List.take_length,zF, ← List.drop_drop,List.drop_left' (zG x), ← zF] at B;rw [hi',if_neg (by simp only [List.length_append,List.length_cons,Bool.or_eq_true,decide_eq_true_eq];omega),if_neg (by simp),show (0:Int)=((0:Nat):Int) from rfl,A,bGi,bJ (by simp only [List.length_nil,zG];omega),lt_,w64 (by omega) (by omega),show (x.length:Int)+1=((x.length+1:Nat):Int) by omega,B,bGi,bJ (by simp only [List.length_drop,wR];simp;omega)];have:=aCs hL f vs;rw [zF] at this;rw [zF];exact this
  rw [if_neg (by simp;omega)];by_cases c3:n2=9
  · refine⟨r,s,?_,by omega,hs.mono (by omega)⟩
    rw [if_pos (by simp [c3])];have hb:=aCs hL f hs;by_cases F:0<m.length
    · have G:=List.getElem?_eq_getElem (l:=m) (i:=0) F
      rw [if_pos (by simp only [decide_eq_true_eq];omega)];unfold hM;by_cases h:(eT 0 r:Int)=3
      · rw [if_neg (by simp [h])]
        exact hb
      · rw [if_pos (by simpa using h),show at_ m 0=_ from G,bGi,show (⟨s.f0,s.f1,s.f2,s.f3,s.f4⟩:S77)=s from rfl,aOq (by omega) (by show (3:Int)≠_;exact λe=>h e.symm),bGi,if_neg (by simp)]
        exact hb
    · rw [if_neg (by simp only [decide_eq_true_eq];omega)]
      unfold hM;rw [if_neg (by simp)];exact hb
  rw [if_neg (by simp;omega)];obtain⟨s',w,v⟩:=aK7 hs hL (by omega);refine⟨r,s',?_,by omega,v.mono (by omega)⟩;rw [w,bGi,bGi,if_neg (by simp)];exact aCs hL f v
noncomputable abbrev plL (acts:List S52) (k:Int) (m:List S61) (q:PlS) :=
  loop (λs=>eJ acts k m s.1 s.2.1 s.2.2.1 s.2.2.2.1 s.2.2.2.2.1 s.2.2.2.2.2.1 s.2.2.2.2.2.2.1 s.2.2.2.2.2.2.2.1 s.2.2.2.2.2.2.2.2) q
theorem aIz {acts:List S52} (hg:∀ a∈acts,g52 a) (hL:Lg k m):∀ (n i:Nat) (r:List Nat) (s:S77),i+n=min acts.length 25->r.length<=i->Sv k m r 4194304 (3000 * i+1000) s ->
    plL acts k m (plT s (cH k m r) (wR r) i)=some (.inl ())
  | 0,i,r,s,hi,hr,hs=>by
    refine bE ?_;show eJ acts k m s.f0 s.f1 s.f2 s.f3 s.f4 (cH k m r).f1 (cH k m r).f2 (wR r) (i:Int)=_;unfold eJ hF;by_cases c:i<acts.length
    · rw [if_pos (by simp only [decide_eq_true_eq];omega),if_neg (by simp only [decide_eq_true_eq];omega)]
    · rw [if_neg (by simp only [decide_eq_true_eq];omega),if_neg (by simp)]
  | n+1,i,r,s,hi,hr,hs=>by obtain⟨r',s',w,b,vs⟩:=aNz hg hL (i:=i) (by omega) (by omega) hr hs;exact (cD w).trans (aIz hg hL n (i+1) r' s' (by omega) b vs)
end
theorem CatalogPlays (a0:List S61) (a:List S52) (a2:Int) (h0:gL 48 g61 a0) (c:gL 32 g52 a) (d:gI .u8 a2):mB a0 a a2=some true:=by have hk:=aUp d;unfold mB;rw [aRp,bGi,if_neg (by simp),lt_,lt_];generalize IntKind.i64.wrap (1+(IntKind.i64.wrap a2).tmod 8)=k at hk ⊢;obtain⟨m,hm,hL⟩:=aZ6 (bCv h0) hk;obtain⟨s0,e,v0⟩:=aK7 (aSq k m (R:=4194304) (by decide) (by decide)) hL (by omega);have b:=aIz c.2 hL (min a.length 25) 0 [] s0 (by omega) (Nat.le_refl _) (v0.mono (by omega));rw [hm,bGi,aP2 (by decide) (by decide),bGi,bGi,e,bGi,bGi,if_neg (by simp)];unfold plL plT at b;rw [show ((0:Nat):Int)=0 from rfl,show wR []=[] from rfl] at b;rw [b];rfl
end Go.Proofs.YtdkpjpoajlmmfaaGreatDoor.P
