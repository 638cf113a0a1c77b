/- Texts of the claim, joined: what it uses of Ea, Eb, Ec, Ed, Ee, Ef, Eg. -/
import Derived.WalkKit
import Derived.KernelRfl
import Derived.Maps.AppendAt
import Derived.Deep.AppendLies
import Derived.Orders
namespace Go.Proofs.YtdkpjpoajlmmfaaGreatDoor.E
open Go Go.RowKit
set_option linter.unusedVariables false
set_option linter.unusedSimpArgs false
theorem bGi {α β:Type _} (a:α) (f:α->Option β):(some a).bind f=f a:=rfl
def lk:List (Nat×Value)->Nat->Option Value
 | [],_=>none
 | (k,v)::r,t=>bif Nat.beq k t then some v else lk r t
structure FR (n:Nat) (D:List Deferred) (a:Act) (F:List (Nat×Value)):Prop where
 size:a.tmps.size=n
 defers:a.defers=D
 at_:∀ t v,lk F t=some v->a.tmps[t]?=some v
def ev (F:List (Nat×Value)):Operand->Option Value
 | .tmp t=>lk F t
 | .const v=>some v
 | .global g=>some (.pointer (some ⟨g,0,none⟩))
 | .func f=>some (.func (.func f) #[] #[])
section
variable {n:Nat} {D:List Deferred} {a:Act} {F:List (Nat×Value)}
theorem FR.ev (h:FR n D a F) {x:Operand} {v:Value} (hx:ev F x=some v):a.eval x=v:=by
 cases x with
 | tmp t =>
  have:=h.at_ t v hx;simp only [Act.eval,Array.getD_eq_getD_getElem?,this,Option.getD_some]
 | const c=>exact Option.some.inj hx
 | global g=>exact Option.some.inj hx
 | func f=>exact Option.some.inj hx
theorem FR.put (h:FR n D a F) (t:Nat) (v:Value) (ht:t<n):FR n D (a.put (some t) v) ((t,v)::F):=by
 refine⟨by simp [Act.put,h.size],h.defers,λt' c b=>?_⟩;simp only [lk] at b;by_cases e:Nat.beq t t'=true
 ·rw [e] at b;have e':=Nat.eq_of_beq_eq_true e;subst e';cases b;simp [Act.put,h.size,ht]
 ·have e0:Nat.beq t t'=false:=Bool.eq_false_iff.2 e;rw [e0] at b;have d:t≠t':=λe'=>by subst e';simp at e0
  simp only [Act.put,Array.getElem?_setIfInBounds,if_neg d];exact h.at_ t' c b
theorem FR.none (h:FR n D a F) (v:Value):FR n D (a.put none v) F:=h
theorem FR.sub (h:FR n D a F) (F':List (Nat×Value)) (hs:F'.map (λp=>lk F p.1)=F'.map λp=>some p.2):FR n D a F':=by
 refine⟨h.size,h.defers,λt v b=>?_⟩
 induction F' with
 | nil=>cases b
 | cons p r ih =>
  obtain⟨k,u⟩:=p;simp only [List.map_cons,List.cons.injEq] at hs;simp only [lk] at b;by_cases e:Nat.beq k t=true
  ·rw [e] at b;have e':=Nat.eq_of_beq_eq_true e;subst e';cases b;exact h.at_ _ _ hs.1
  ·have e0:Nat.beq k t=false:=Bool.eq_false_iff.2 e;rw [e0] at b;exact ih hs.2 b
end
structure HP where
 P:World->(Nat->Prop)->Prop
 fr:∀ {w w':World} {S:Nat->Prop},P w S->(∀ k,S k->w'.heap[k]?=w.heap[k]?)->P w' S
 mono:∀ {w:World} {S S':Nat->Prop},P w S->(∀ k,S k->S' k)->P w S'
def Sep:List HP->World->(Nat->Prop)->Prop
 | [],_,_=>True
 | A::L,w,S=>∃ S1 a:Nat->Prop,(∀ k,S1 k->S k)/\(∀ k,a k->S k)/\(∀ k,S1 k->¬ a k)/\A.P w S1/\Sep L w a
structure SH (r:World) (L:List HP) (w:World):Prop where
 os:w.os=r.os
 tape:w.tape=r.tape
 output:w.output=r.output
 sep:Sep L w (λk=>k<w.heap.size)
theorem Sep.fr {w w':World}:∀ {L:List HP} {S:Nat->Prop},Sep L w S->(∀ k,S k->w'.heap[k]?=w.heap[k]?)->Sep L w' S
 | [],_,_,_=>trivial
 | A::L,S,⟨S1,S2,h1,h2,hd,hA,hL⟩,h=>⟨S1,S2,h1,h2,hd,A.fr hA λk hk=>h k (h1 k hk),Sep.fr hL λk hk=>h k (h2 k hk)⟩
theorem Sep.mono {w:World}:∀ {L:List HP} {S a:Nat->Prop},Sep L w S->(∀ k,S k->a k)->Sep L w a
 | [],_,_,_,_=>trivial
 | _::_,_,_,⟨S1,S2,h1,h2,hd,hA,hL⟩,h=>⟨S1,S2,λk hk=>h k (h1 k hk),λk hk=>h k (h2 k hk),hd,hA,hL⟩
def pk:Nat->List HP->List HP
 | _,[]=>[]
 | 0,L=>L
 | i+1,A::L=>match pk i L with
  | []=>[A]
  | B::M=>B::A::M
theorem Sep.swap {A B:HP} {L:List HP} {w:World} {S:Nat->Prop} (h:Sep (A::B::L) w S):Sep (B::A::L) w S:=by
 obtain⟨S1,i,e,a,hd,hA,f,b,c,d,hd',hB,hL⟩:=h;exact⟨f,λk=>S1 k\/b k,λk hk=>a k (c k hk),λk hk=>hk.elim (e k) (λq=>a k (d k q)),
  λk hk g=>g.elim (λq=>hd k q (c k hk)) (λq=>hd' k hk q),hB,S1,b,λk hk=>.inl hk,λk hk=>.inr hk,
  λk hk q=>hd k hk (d k q),hA,hL⟩
theorem Sep.pk {w:World}:∀ (i:Nat) {L:List HP} {S:Nat->Prop},Sep L w S->Sep (pk i L) w S
 | 0,[],_,h=>h
 | _+1,[],_,h=>h
 | 0,_::_,_,h=>h
 | i+1,A::L,S,⟨S1,S2,h1,h2,hd,hA,hL⟩=>by
  have ih:=Sep.pk i hL;simp only [E.pk];split
  ·exact⟨S1,S2,h1,h2,hd,hA,trivial⟩
  ·rename_i B M e;rw [e] at ih;exact Sep.swap ⟨S1,S2,h1,h2,hd,hA,ih⟩
section
variable {r w w':World} {L L':List HP} {A B:HP}
theorem SH.pk (h:SH r L w) (i:Nat):SH r (pk i L) w:=⟨h.os,h.tape,h.output,h.sep.pk i⟩
theorem SH.tail (h:SH r (A::L) w):SH r L w:=by obtain⟨S1,b,c,a,hd,hA,hL⟩:=h.sep;exact⟨h.os,h.tape,h.output,hL.mono a⟩
theorem SH.drop (h:SH r L w) (i:Nat):SH r (E.pk i L).tail w:=by
 have a:=h.pk i;cases hp:E.pk i L with
 | nil=>rw [hp] at a;exact a
 | cons A M=>rw [hp] at a;exact a.tail
theorem SH.head (h:SH r (A::L) w):∃ S1 a:Nat->Prop,(∀ k,S1 k->k<w.heap.size)/\(∀ k,a k->k<w.heap.size)/\(∀ k,S1 k->¬ a k)/\A.P w S1/\Sep L w a:=h.sep
theorem SH.upd (h:SH r (A::L) w) {S1 a:Nat->Prop} (j:∀ k,S1 k->k<w.heap.size) (d:∀ k,a k->k<w.heap.size) (hd:∀ k,S1 k->¬ a k) (hL:Sep L w a)
  (l:w'.os=w.os) (ht:w'.tape=w.tape) (hp:w'.output=w.output) (hs:w.heap.size<=w'.heap.size)
  (hk:∀ k,k<w.heap.size->¬ S1 k->w'.heap[k]?=w.heap[k]?)
  {Ls:List HP} (hB:∀ S:Nat->Prop,(∀ k,S1 k->S k)->(∀ k,w.heap.size<=k->k<w'.heap.size->S k)->(∀ k,S k->k<w'.heap.size)->Sep Ls w' S) :
  SH r (Ls++L) w':=by
 refine⟨l.trans h.os,ht.trans h.tape,hp.trans h.output,?_⟩;have m:Sep L w' a:=hL.fr λk f=>hk k (d k f) λn=>hd k n f;have o:Sep Ls w' (λk=>(S1 k\/w.heap.size<=k)/\k<w'.heap.size):=hB _ (λk q=>⟨.inl q,by have:=j k q;omega⟩) (λk q e=>⟨.inr q,e⟩) (λk q=>q.2);have hd':∀ k,((S1 k\/w.heap.size<=k)/\k<w'.heap.size)->¬ a k:=λk q b=>q.1.elim (λc=>hd k c b) (λc=>by have:=d k b;omega);have key:∀ (Ls:List HP) (T:Nat->Prop),(∀ k,T k->k<w'.heap.size)->(∀ k,T k->¬ a k)->Sep Ls w' T->Sep (Ls++L) w' (λk=>T k\/a k):=by
  intro Ls
  induction Ls with
  | nil=>intro T _ _ _;exact m.mono λk q=>.inr q
  | cons C Ls ih =>
   intro T p g hC;obtain⟨s,i,c,b,qd,qC,qL⟩:=hC;exact⟨s,λk=>i k\/a k,λk q=>.inl (c k q),λk q=>q.elim (λq=>.inl (b k q)) .inr,
    λk q e=>e.elim (qd k q) (g k (c k q)),qC,ih i (λk q=>p k (b k q)) (λk q=>g k (b k q)) qL⟩
 exact (key Ls _ (λk q=>q.2) hd' o).mono λk q=>q.elim (λq=>q.2) (λq=>by have:=d k q;omega)
theorem SH.keep (h:SH r L w) (a:w'.os=w.os) (ht:w'.tape=w.tape) (hp:w'.output=w.output) (hs:w.heap.size<=w'.heap.size)
  (hk:∀ k,k<w.heap.size->w'.heap[k]?=w.heap[k]?):SH r L w' :=
 ⟨a.trans h.os,ht.trans h.tape,hp.trans h.output,(h.sep.fr hk).mono λk q=>by omega⟩
theorem SH.drew (h:SH r L w):SH r L w.drew:=h.keep rfl rfl rfl (Nat.le_refl _) λ_ _=>rfl
end
def aG7 {σ τ:Type} (b:σ->Option (σ⊕τ)):Nat->σ->Option τ
 | 0,_=>none
 | k+1,s=>match b s with
  | none=>none
  | some (.inl s')=>aG7 b k s'
  | some (.inr t)=>some t
open Classical in
noncomputable def loop {σ τ:Type} (b:σ->Option (σ⊕τ)) (s:σ):Option τ :=
 if h:∃ k t,aG7 b k s=some t then some h.choose_spec.choose else none
section
variable {σ τ:Type} {b:σ->Option (σ⊕τ)} {s:σ} {t:τ}
theorem aJ1 {k:Nat}:∀ {s:σ},aG7 b k s=some t->∀ j,k<=j->aG7 b j s=some t:=by
 induction k with
 | zero=>intro s h;cases h
 | succ k ih =>
  intro s h j a;obtain⟨j,rfl⟩:∃ m,j=m+1:=⟨j - 1,by omega⟩;simp only [aG7] at h ⊢;cases e:b s with
  | none=>rw [e] at h;cases h
  | some x =>
   rw [e] at h;cases x with
   | inl s'=>exact ih h j (by omega)
   | inr t'=>exact h
theorem zK:loop b s=some t↔∃ k,aG7 b k s=some t:=by
 unfold loop;constructor
 ·intro h;split at h
  ·rename_i hx;cases h;exact⟨hx.choose,hx.choose_spec.choose_spec⟩
  ·cases h
 ·rintro⟨k,hk⟩;have hx:∃ k t,aG7 b k s=some t:=⟨k,t,hk⟩;rw [dif_pos hx];have c:=aJ1 hx.choose_spec.choose_spec (max k hx.choose) (Nat.le_max_right _ _);have a:=aJ1 hk (max k hx.choose) (Nat.le_max_left _ _);rw [c] at a;exact a
theorem cD {s':σ} (hb:b s=some (.inl s')):loop b s=loop b s':=by
 cases h:loop b s' with
 | some t =>
  obtain⟨k,hk⟩:=zK.1 h;exact zK.2 ⟨k+1,by simp only [aG7,hb];exact hk⟩
 | none =>
  cases h':loop b s with
  | none=>rfl
  | some t =>
   obtain⟨k,hk⟩:=zK.1 h';cases k with
   | zero=>cases hk
   | succ k =>
    simp only [aG7,hb] at hk;rw [zK.2 ⟨k,hk⟩] at h;cases h
theorem bE (hb:b s=some (.inr t)):loop b s=some t:=zK.2 ⟨1,by simp only [aG7,hb]⟩
theorem aDn (I:σ->Prop) (μ:σ->Nat) (R:τ->Prop) (h0:I s)
  (round:∀ s,I s->(∃ s',b s=some (.inl s')/\I s'/\μ s'<μ s)\/∃ t,b s=some (.inr t)/\R t):∃ t,loop b s=some t/\R t:=by
 generalize hn:μ s=n
 induction n using Nat.strongRecOn generalizing s with
 | _ n ih =>
  rcases round s h0 with ⟨s',hb,c,d⟩ | ⟨t,hb,a⟩
  ·obtain⟨t,ht,a⟩:=ih (μ s') (by omega) c rfl;exact⟨t,(cD hb).trans ht,a⟩
  ·exact⟨t,bE hb,a⟩
end
theorem aT {σ τ:Type} {P:Program} {c:Code} {Q:Exit->Act->World->Prop} {b:σ->Option (σ⊕τ)} {s0:σ} {t:τ} (h:loop b s0=some t)
  (Lab:σ->Act->World->Prop) {a:Act} {w:World} (h0:Lab s0 a w)
  (round:∀ (N:σ->Prop) (s:σ) (o:σ⊕τ),b s=some o->(∀ s',o=.inl s'->N s')->(∀ t',o=.inr t'->t'=t)->∀ a w,Lab s a w ->
   c.wp P (Exit.then (λa w=>∃ s',N s'/\Lab s' a w) Q) a w):(Code.loop c).wp P Q a w:=by
 obtain⟨k,hk⟩:=zK.1 h;refine wp_loop_rounds k ?_;clear h
 induction k generalizing s0 a w with
 | zero=>cases hk
 | succ k ih =>
  rw [rounds_succ];simp only [aG7] at hk;split at hk
  ·cases hk
  ·rename_i s' e;refine Code.wp_mono (λex a w q=>?_) (round (λd=>aG7 b k d=some t) s0 _ e (λd h=>by cases h;exact hk) (λt' h=>by cases h) a w h0);cases ex <;> try exact q
   obtain⟨d,f,hL⟩:=q;exact ih hL f
  ·rename_i t' e;cases hk;refine Code.wp_mono (λex a w q=>?_) (round (λ_=>False) s0 _ e (λd h=>by cases h) (λg h=>by cases h;rfl) a w h0);cases ex <;> try exact q
   obtain⟨d,f,hL⟩:=q;exact f.elim
structure Kd (α:Type) where
 sz:Nat
 V:α->List Value->Prop
 len:∀ {x cs},V x cs->cs.length=sz
 one:∀ {x cs},V x cs->∀ v∈cs,v.oneCell'=true
def Lay {α:Type} (d:Kd α):List α->List Value->Prop
 | [],cs=>cs=[]
 | x::xs,cs=>∃ c1 c2,cs=c1++c2/\d.V x c1/\Lay d xs c2
def RdA {α:Type} (d:Kd α) (w:World) (ad:Addr) (xs:List α):Prop :=
 ∀ j x,xs[j]?=some x->∃ cs,d.V x cs/\∀ q u,cs[q]?=some u->w.cell? (ad.add (j * d.sz+q))=some u
def Rd {α:Type} (d:Kd α) (w:World) (A:Option Addr) (xs:List α):Prop:=0<xs.length->∃ ad,A=some ad/\RdA d w ad xs
theorem aAs (a:Addr) (n:Nat):(a.add n).block=a.block:=by unfold Addr.add;split <;> rfl
theorem add_add' (a:Addr) (i j:Nat):(a.add i).add j=a.add (i+j):=by unfold Addr.add;by_cases hi:i=0 <;> by_cases b:j=0 <;> simp [hi,b,Nat.add_assoc]
theorem aDb (a:Addr):a.add 0=a:=by simp [Addr.add]
theorem gJ (g i j:Nat):(⟨g,i,none⟩:Addr).add j=⟨g,i+j,none⟩:=by unfold Addr.add;split <;> simp_all
section
variable {α:Type} {d:Kd α}
theorem Lay.length:∀ {xs:List α} {cs:List Value},Lay d xs cs->cs.length=xs.length * d.sz
 | [],_,h=>by cases h;simp
 | x::xs,_,⟨c1,c2,e,hV,hL⟩=>by rw [e,List.length_append,d.len hV,Lay.length hL,List.length_cons,Nat.add_mul];omega
theorem Lay.one:∀ {xs:List α} {cs:List Value},Lay d xs cs->∀ v∈cs,v.oneCell'=true
 | [],_,h=>by cases h;simp
 | x::xs,_,⟨c1,c2,e,hV,hL⟩=>by
  subst e;intro v a;rcases List.mem_append.1 a with h | h
  ·exact d.one hV v h
  ·exact Lay.one hL v h
theorem Lay.append:∀ {xs ys:List α} {c1 c2:List Value},Lay d xs c1->Lay d ys c2->Lay d (xs++ys) (c1++c2)
 | [],_,_,_,h,h2=>by cases h;exact h2
 | x::xs,ys,_,c2,⟨q1,q2,e,hV,hL⟩,h2=>⟨q1,q2++c2,by rw [e,List.append_assoc],hV,Lay.append hL h2⟩
theorem Lay.get:∀ {xs:List α} {cs:List Value},Lay d xs cs->∀ {j:Nat} {x:α},xs[j]?=some x->∃ c,d.V x c/\∀ q u,c[q]?=some u->cs[j * d.sz+q]?=some u
 | [],_,_,j,x,h=>by simp at h
 | y::xs,_,⟨c1,c2,e,hV,hL⟩,j,x,h=>by
  subst e;cases j with
  | zero =>
   simp only [List.getElem?_cons_zero,Option.some.injEq] at h;subst h;refine⟨c1,hV,λq u hu=>?_⟩;have a:q<c1.length:=(List.getElem?_eq_some_iff.1 hu).1;rw [Nat.zero_mul,Nat.zero_add,List.getElem?_append_left a];exact hu
  | succ j =>
   obtain⟨c,hc,hg⟩:=Lay.get hL (j:=j) (x:=x) (by simpa using h);refine⟨c,hc,λq u hu=>?_⟩;have:=d.len hV;rw [List.getElem?_append_right (by rw [this,Nat.add_mul];omega),this];rw [show (j+1) * d.sz+q - d.sz=j * d.sz+q by rw [Nat.add_mul];omega];exact hg q u hu
theorem Lay.set:∀ {xs:List α} {cs:List Value},Lay d xs cs->∀ {j:Nat} {x:α} {c:List Value},j<xs.length->d.V x c ->
  Lay d (xs.set j x) (cs.take (j * d.sz)++c++cs.drop (j * d.sz+d.sz))
 | [],_,_,j,x,c,h,_=>by simp at h
 | y::xs,_,⟨c1,c2,e,hV,hL⟩,j,x,c,h,hc=>by
  subst e;have hl:=d.len hV;cases j with
  | zero =>
   refine⟨c,c2,?_,hc,hL⟩;simp only [Nat.zero_mul,List.take_zero,List.nil_append,Nat.zero_add];rw [← hl,List.drop_append_of_le_length (Nat.le_refl _),List.drop_length,List.nil_append]
  | succ j =>
   refine⟨c1,_,?_,hV,Lay.set hL (j:=j) (by simpa using h) hc⟩;have a:(j+1) * d.sz=c1.length+j * d.sz:=by rw [hl,Nat.add_mul];omega
   rw [a,List.take_append,List.take_of_length_le (by omega),Nat.add_sub_cancel_left,Nat.add_assoc,List.drop_append,List.drop_eq_nil_of_le (by omega),List.nil_append,Nat.add_sub_cancel_left];simp [List.append_assoc]
theorem Lay.take:∀ {xs:List α} {cs:List Value},Lay d xs cs->∀ m,Lay d (xs.take m) (cs.take (m * d.sz))
 | [],_,h,m=>by cases h;simp [Lay]
 | x::xs,_,⟨c1,c2,e,hV,hL⟩,0=>by simp [Lay]
 | x::xs,_,⟨c1,c2,e,hV,hL⟩,m+1=>by subst e;have hl:=d.len hV;refine⟨c1,_,?_,hV,Lay.take hL m⟩;rw [show (m+1) * d.sz=c1.length+m * d.sz by rw [hl,Nat.add_mul];omega,List.take_append,List.take_of_length_le (by omega),Nat.add_sub_cancel_left]
theorem Lay.drop:∀ {xs:List α} {cs:List Value},Lay d xs cs->∀ m,Lay d (xs.drop m) (cs.drop (m * d.sz))
 | [],_,h,m=>by cases h;simp [Lay]
 | x::xs,cs,h,0=>by simpa using h
 | x::xs,_,⟨c1,c2,e,hV,hL⟩,m+1=>by subst e;have hl:=d.len hV;show Lay d (xs.drop m) _;rw [show (m+1) * d.sz=c1.length+m * d.sz by rw [hl,Nat.add_mul];omega,List.drop_append,List.drop_eq_nil_of_le (show c1.length<=c1.length+m * d.sz by omega),List.nil_append,Nat.add_sub_cancel_left];exact Lay.drop hL m
theorem Lay.of_cells {w:World} {ad:Addr}:∀ {xs:List α} {k:Nat},(∀ j x,xs[j]?=some x->∃ cs,d.V x cs/\∀ q u,cs[q]?=some u->w.cell? (ad.add ((k+j) * d.sz+q))=some u) ->
  ∃ cs,Lay d xs cs/\∀ q u,cs[q]?=some u->w.cell? (ad.add (k * d.sz+q))=some u
 | [],k,_=>⟨[],rfl,λq u h=>by simp at h⟩
 | x::xs,k,h=>by
  obtain⟨c1,a,hc⟩:=h 0 x rfl;obtain⟨c2,hL,c⟩:=Lay.of_cells (xs:=xs) (k:=k+1) (λj y e=>by
   obtain⟨cs,a,hc⟩:=h (j+1) y (by simpa using e);exact⟨cs,a,λq u hu=>by have:=hc q u hu;rwa [show k+(j+1)=k+1+j by omega] at this⟩)
  refine⟨c1++c2,⟨c1,c2,rfl,a,hL⟩,λq u hu=>?_⟩;have hl:=d.len a;rcases Nat.lt_or_ge q c1.length with b | b
  ·rw [List.getElem?_append_left b] at hu;exact hc q u hu
  ·rw [List.getElem?_append_right b] at hu;have:=c _ u hu
   rwa [show (k+1) * d.sz+(q - c1.length)=k * d.sz+q by rw [Nat.add_mul];omega] at this
theorem RdA.cells {w:World} {ad:Addr} {xs:List α} (h:RdA d w ad xs):∃ cs,Lay d xs cs/\∀ q u,cs[q]?=some u->w.cell? (ad.add q)=some u:=by obtain⟨cs,hL,hc⟩:=Lay.of_cells (k:=0) (λj x hx=>by simpa using h j x hx);exact⟨cs,hL,λq u hu=>by simpa using hc q u hu⟩
theorem RdA.of_lay {w:World} {ad:Addr} {xs:List α} {cs:List Value} (h:Lay d xs cs) (hc:∀ q u,cs[q]?=some u->w.cell? (ad.add q)=some u):RdA d w ad xs:=by intro j x hx;obtain⟨c,a,hg⟩:=h.get hx;exact⟨c,a,λq u hu=>hc _ u (hg q u hu)⟩
theorem RdA.drop {w:World} {ad:Addr} {xs:List α} (h:RdA d w ad xs) (m:Nat):RdA d w (ad.add (m * d.sz)) (xs.drop m):=by intro j x hx;obtain⟨cs,a,hc⟩:=h (m+j) x (by simpa using hx);exact⟨cs,a,λq u hu=>by rw [add_add',show m * d.sz+(j * d.sz+q)=(m+j) * d.sz+q by rw [Nat.add_mul];omega];exact hc q u hu⟩
theorem RdA.take {w:World} {ad:Addr} {xs:List α} (h:RdA d w ad xs) (m:Nat):RdA d w ad (xs.take m):=by
 intro j x hx;rw [List.getElem?_take] at hx;split at hx
 ·exact h j x hx
 ·cases hx
theorem Rd.cut {w:World} {A:Option Addr} {xs:List α} (h:Rd d w A xs) {l u m:Nat} (b:l<=u) (hu:u<=xs.length) (hm:u<=m) :
  Rd d w (if m=l then A else A.map (·.add (l * d.sz))) ((xs.take u).drop l):=by
 intro a;have hl:l<u:=by simp at a;omega
 obtain⟨ad,rfl,hr⟩:=h (by omega);rw [if_neg (by omega)];exact⟨_,rfl,(hr.take u).drop l⟩
end
def blk (g:Nat) (T:TypeId) (cs:List Value):HP where
 P w S:=S g/\w.heap[g]?=some (.cells cs.toArray T (0,0))
 fr h hk:=⟨h.1,(hk _ h.1).trans h.2⟩
 mono h hs:=⟨hs _ h.1,h.2⟩
def zone (Z:Nat->Prop) (wz:World):HP where
 P w S:=(∀ k,Z k->S k)/\∀ k,Z k->w.heap[k]?=wz.heap[k]?
 fr h hk:=⟨h.1,λk z=>(hk k (h.1 k z)).trans (h.2 k z)⟩
 mono h hs:=⟨λk z=>hs k (h.1 k z),h.2⟩
theorem aGd {w w':World} {base:Nat} {e:TypeId} {sz n:Nat} {v:Value} {xs:List Value} (h:w.ownsRow base e sz v n xs) (hk:∀ g,v.ownBlock=some g->w'.heap[g]?=w.heap[g]?):w'.ownsRow base e sz v n xs:=by
 refine⟨h.1,?_⟩;rcases h.2 with a | ⟨g,cap,cur,rfl,hg,b,r⟩
 ·exact .inl a
 ·exact .inr ⟨g,cap,cur,rfl,hg,(hk g rfl).trans b,r⟩
def bF3 {α:Type} (d:Kd α) (e:TypeId) (A:Option Addr) (c:Nat) (xs:List α) (w:World) (S:Nat->Prop):Prop :=
 (∃ inner,Lay d xs inner/\w.ownsRow 0 e d.sz (.slice A xs.length c) xs.length inner)/\∀ g,(Value.slice A xs.length c).ownBlock=some g->S g
def own {α:Type} (d:Kd α) (e:TypeId) (A:Option Addr) (n c:Nat) (xs:List α):HP where
 P w S:=xs.length=n/\bF3 d e A c xs w S
 fr h hk:=by obtain⟨hn,⟨inner,hL,a⟩,hS⟩:=h;exact⟨hn,⟨inner,hL,aGd a λg hg=>hk g (hS g hg)⟩,hS⟩
 mono h hs:=⟨h.1,h.2.1,λg hg=>hs g (h.2.2 g hg)⟩
def star (Ls:List HP):HP where
 P w S:=Sep Ls w S
 fr h hk:=h.fr hk
 mono h hs:=h.mono hs
def ex {ι:Type} (f:ι->HP):HP where
 P w S:=∃ i,(f i).P w S
 fr h hk:=h.elim λi h=>⟨i,(f i).fr h hk⟩
 mono h hs:=h.elim λi h=>⟨i,(f i).mono h hs⟩
def zZ (p:Prop):HP where
 P _ _:=p
 fr h _:=h
 mono h _:=h
section
variable {r w w':World} {L:List HP} {α:Type} {d:Kd α} {e:TypeId} {A:Option Addr} {n c:Nat} {xs:List α}
theorem aJp {w:World} {base:Nat} {e:TypeId} {sz n c:Nat} {A:Option Addr} {inner:List Value} (h:w.ownsRow base e sz (.slice A n c) n inner) (hn:0<n) :
  ∃ g,A=some ⟨g,0,none⟩/\g<w.heap.size/\∀ q u,inner[q]?=some u->w.cell? ⟨g,q,none⟩=some u:=by
 rcases h.2 with ⟨_,b⟩ | ⟨g,cap,cur,d,hg,a,f,i,hs,ht⟩
 ·omega
 ·injection d with hA b hc;subst hA;refine⟨g,rfl,(Array.getElem?_eq_some_iff.1 a).1,λq u hu=>?_⟩;simp only [World.cell?,a];rw [← ht,List.getElem?_take] at hu;split at hu
  ·simpa using hu
  ·cases hu
theorem aL3 {S:Nat->Prop} (h:(own d e A n c xs).P w S):Rd d w A xs:=by intro a;obtain⟨hn,⟨inner,hL,b⟩,hS⟩:=h;obtain⟨g,rfl,hg,hc⟩:=aJp b a;exact⟨_,rfl,RdA.of_lay hL λq u hu=>by rw [gJ,Nat.zero_add];exact hc q u hu⟩
theorem aCm {S:Nat->Prop} (h:(own d e A n c xs).P w S):xs.length<=c/\c<=maxLen:=by
 obtain⟨hn,⟨inner,hL,b⟩,hS⟩:=h;rcases b.2 with ⟨a,hn⟩ | ⟨g,cap,cur,a,hg,f,i,j,hs,ht⟩
 ·injection a with h1 h2 h3;omega
 ·injection a with h1 h2 h3;omega
theorem aWu {S:Nat->Prop}:(own d e none 0 0 ([]:List α)).P w S :=
 ⟨rfl,⟨[],rfl,World.ownsRow_nil _ _ _ _⟩,λg hg=>by simp [Value.ownBlock] at hg⟩
theorem SH.get (h:SH r L w) (i:Nat) {A:HP} (hi:L[i]?=some A):∃ S,A.P w S:=by
 have key:∀ (L:List HP) (i:Nat) (S:Nat->Prop),L[i]?=some A->Sep L w S->∃ S,A.P w S:=by
  intro L
  induction L with
  | nil=>intro i S hi;simp at hi
  | cons B L ih =>
   intro i S hi hs;obtain⟨S1,a,b,c,hd,hB,hL⟩:=hs;cases i with
   | zero=>cases hi;exact⟨S1,hB⟩
   | succ i=>exact ih i a (by simpa using hi) hL
 exact key L i _ hi h.sep
theorem Sep.sfx:∀ (i:Nat) {L:List HP} {S:Nat->Prop},Sep L w S->Sep (L.drop i) w S
 | 0,_,_,h=>h
 | i+1,[],_,h=>h
 | i+1,A::L,_,⟨S1,S2,h1,h2,hd,hA,hL⟩=>(Sep.sfx i hL).mono h2
theorem SH.sfx (h:SH r L w) (i:Nat):Sep (L.drop i) w (λk=>k<w.heap.size):=Sep.sfx i h.sep
theorem SH.getL (i:Nat) {B:HP} (hi:L[i]?=some B) {S:Nat->Prop} (h:Sep L w S):∃ S,B.P w S:=by
 have key:∀ (L:List HP) (i:Nat) (S:Nat->Prop),L[i]?=some B->Sep L w S->∃ S,B.P w S:=by
  intro L
  induction L with
  | nil=>intro i S hi;simp at hi
  | cons C L ih =>
   intro i S hi hs;obtain⟨S1,a,b,c,hd,hB,hL⟩:=hs;cases i with
   | zero=>cases hi;exact⟨S1,hB⟩
   | succ i=>exact ih i a (by simpa using hi) hL
 exact key L i _ hi h
structure RdL (L:List HP) (d:Kd α) (A:Option Addr) (n c:Nat) (xs:List α):Prop where
 ln:xs.length=n
 le:xs.length<=c
 mx:c<=maxLen
 rd:∀ w S,Sep L w S->Rd d w A xs
theorem RdL.own (i:Nat) (hi:L[i]?=some (own d e A n c xs)) (h:SH r L w):RdL L d A n c xs:=by obtain⟨S,hS⟩:=h.get i hi;refine⟨hS.1,(aCm hS).1,(aCm hS).2,λw' f a=>?_⟩;obtain⟨g,b⟩:=SH.getL i hi a;exact aL3 b
theorem RdL.sfx (i:Nat) {L0:List HP} (hL:L.drop i=L0) (h:RdL L0 d A n c xs):RdL L d A n c xs :=
 ⟨h.ln,h.le,h.mx,λw S hs=>h.rd w S (hL▸Sep.sfx i hs)⟩
theorem RdL.nil:RdL L d none 0 0 ([]:List α):=⟨rfl,Nat.le_refl _,Nat.zero_le _,λ_ _ _ h=>absurd h (by simp)⟩
theorem RdL.cut (h:RdL L d A n c xs) {l u:Nat} (a:l<=u) (hu:u<=xs.length):RdL L d (if c=l then A else A.map (·.add (l * d.sz))) (u - l) (c - l) ((xs.take u).drop l) :=
 ⟨by simp;omega,by have:=h.le;simp;omega,by have:=h.mx;omega,λw S hs=>(h.rd w S hs).cut a hu (Nat.le_trans hu h.le)⟩
structure Imm (Z:Nat->Prop) (wz:World) (d:Kd α) (A:Option Addr) (n c:Nat) (xs:List α):Prop where
 ln:xs.length=n
 le:xs.length<=c
 mx:c<=maxLen
 rd:0<xs.length->∃ ad,A=some ad/\Z ad.block/\RdA d wz ad xs
theorem RdA.zone {Z:Nat->Prop} {wz:World} {ad:Addr} (h:RdA d wz ad xs) (hz:Z ad.block) {S:Nat->Prop} (hw:(zone Z wz).P w S):RdA d w ad xs:=by intro j x hx;obtain⟨cs,a,hc⟩:=h j x hx;refine⟨cs,a,λq u hu=>?_⟩;rw [← hc q u hu];exact World.cell?_of_block (by rw [aAs];exact hw.2 _ hz)
theorem Imm.rdl {Z:Nat->Prop} {wz:World} (h:Imm Z wz d A n c xs) (i:Nat) (hi:L[i]?=some (zone Z wz)):RdL L d A n c xs:=by refine⟨h.ln,h.le,h.mx,λw' f a b=>?_⟩;obtain⟨g,e⟩:=SH.getL i hi a;obtain⟨ad,rfl,hz,hr⟩:=h.rd b;exact⟨ad,rfl,hr.zone hz e⟩
theorem Imm.nil {Z:Nat->Prop} {wz:World}:Imm Z wz d none 0 0 ([]:List α):=⟨rfl,Nat.le_refl _,Nat.zero_le _,λh=>absurd h (by simp)⟩
theorem Imm.cut {Z:Nat->Prop} {wz:World} (h:Imm Z wz d A n c xs) {l u:Nat} (b:l<=u) (hu:u<=xs.length):Imm Z wz d (if c=l then A else A.map (·.add (l * d.sz))) (u - l) (c - l) ((xs.take u).drop l):=by
 refine⟨by simp;omega,by have:=h.le;simp;omega,by have:=h.mx;omega,λa=>?_⟩;have hl:l<u:=by simp at a;omega
 obtain⟨ad,rfl,hz,hr⟩:=h.rd (by omega);rw [if_neg (by have:=h.le;omega)];exact⟨_,rfl,by rw [aAs];exact hz,(hr.take u).drop l⟩
def Sub (Z:Nat->Prop) (wz:World) (Z':Nat->Prop) (wz':World):Prop:=∀ k,Z k->Z' k/\wz'.heap[k]?=wz.heap[k]?
theorem Sub.refl (Z:Nat->Prop) (wz:World):Sub Z wz Z wz:=λk h=>⟨h,rfl⟩
theorem Sub.trans {Z Z' a:Nat->Prop} {wz wz' b:World} (h:Sub Z wz Z' wz') (c:Sub Z' wz' a b):Sub Z wz a b :=
 λk hk=>⟨(c k (h k hk).1).1,((c k (h k hk).1).2).trans (h k hk).2⟩
theorem Imm.sub {Z Z':Nat->Prop} {wz wz':World} (h:Imm Z wz d A n c xs) (hs:Sub Z wz Z' wz'):Imm Z' wz' d A n c xs:=by refine⟨h.ln,h.le,h.mx,λa=>?_⟩;obtain⟨ad,e,hz,hr⟩:=h.rd a;refine⟨ad,e,(hs _ hz).1,λj x hx=>?_⟩;obtain⟨cs,b,hc⟩:=hr j x hx;refine⟨cs,b,λq u hu=>?_⟩;rw [← hc q u hu];exact World.cell?_of_block (by rw [aAs];exact (hs _ hz).2)
theorem SH.freeze {Z:Nat->Prop} {wz:World} (h:SH r (own d e A n c xs::zone Z wz::L) w) :
  ∃ Z' wz',SH r (zone Z' wz'::L) w/\Imm Z' wz' d A n c xs/\Sub Z wz Z' wz':=by
 obtain⟨S1,o,i,a,hd,hA,b,j,l,f,hd',hB,hL⟩:=h.sep;refine⟨λk=>S1 k\/b k,w,⟨h.os,h.tape,h.output,λk=>S1 k\/b k,j,λk q=>q.elim (i k) (λq=>a k (l k q)),λk q=>a k (f k q),λk q g=>q.elim (λq=>hd k q (f k g)) (λq=>hd' k q g),
  ⟨λ_ q=>q,λ_ _=>rfl⟩,hL⟩,⟨hA.1,(aCm hA).1,(aCm hA).2,λm=>?_⟩,λk hk=>⟨.inr (hB.1 k hk),hB.2 k hk⟩⟩
 obtain⟨ad,e,hr⟩:=aL3 hA m;subst e;exact⟨ad,rfl,.inl (hA.2.2 _ rfl),hr⟩
theorem Lay.imp {d':Kd α} (hd:∀ x cs,d.V x cs->d'.V x cs):∀ {xs:List α} {cs:List Value},Lay d xs cs->Lay d' xs cs
 | [],_,h=>h
 | x::xs,_,⟨c1,c2,e,hV,hL⟩=>⟨c1,c2,e,hd _ _ hV,Lay.imp hd hL⟩
theorem SH.kind {d':Kd α} (h:SH r (own d e A n c xs::L) w) (hs:d.sz=d'.sz) (hd:∀ x cs,d.V x cs->d'.V x cs):SH r (own d' e A n c xs::L) w:=by obtain⟨S1,a,b,f,hd',⟨hn,⟨inner,g,i⟩,hS⟩,hL⟩:=h.sep;exact⟨h.os,h.tape,h.output,S1,a,b,f,hd',⟨hn,⟨inner,g.imp hd,by rw [← hs];exact i⟩,hS⟩,hL⟩
theorem SH.imp {B C:HP} (h:SH r (B::L) w) (hi:∀ S,B.P w S->C.P w S):SH r (C::L) w:=by obtain⟨S1,a,b,c,hd',hB,hL⟩:=h.sep;exact⟨h.os,h.tape,h.output,S1,a,b,c,hd',hi _ hB,hL⟩
theorem SH.unstar {Ls:List HP} (h:SH r (star Ls::L) w):SH r (Ls++L) w:=by obtain⟨S1,c,a,b,hd,hA,hL⟩:=h.sep;exact h.upd a b hd hL rfl rfl rfl (Nat.le_refl _) (λ_ _ _=>rfl) λS hS _ _=>Sep.mono hA hS
theorem Sep.star:∀ {Ls L:List HP} {S:Nat->Prop},Sep (Ls++L) w S->Sep (star Ls::L) w S
 | [],L,S,h=>⟨λ_=>False,S,λ_ h=>h.elim,λ_ h=>h,λ_ h=>h.elim,trivial,h⟩
 | B::Ls,L,S,⟨S1,S2,h1,h2,hd,hB,hL⟩=>by
  obtain⟨a,e,b,c,hd',hs,f⟩:=Sep.star (Ls:=Ls) hL;exact⟨λk=>S1 k\/a k,e,λk q=>q.elim (h1 k) (λq=>h2 k (b k q)),λk q=>h2 k (c k q),λk q d=>q.elim (λq=>hd k q (c k d)) (λq=>hd' k q d),
   ⟨S1,a,λ_=>.inl,λ_=>.inr,λk q g=>hd k q (b k g),hB,hs⟩,f⟩
theorem SH.star {Ls:List HP} (h:SH r (Ls++L) w):SH r (star Ls::L) w:=⟨h.os,h.tape,h.output,Sep.star h.sep⟩
theorem SH.unex {ι:Type} {f:ι->HP} (h:SH r (ex f::L) w):∃ i,SH r (f i::L) w:=by obtain⟨S1,a,b,c,hd,⟨i,hA⟩,hL⟩:=h.sep;exact⟨i,h.os,h.tape,h.output,S1,a,b,c,hd,hA,hL⟩
theorem SH.ex {ι:Type} {f:ι->HP} (i:ι) (h:SH r (f i::L) w):SH r (ex f::L) w:=h.imp λ_ h=>⟨i,h⟩
theorem SH.nil_own (h:SH r L w):SH r (own d e none 0 0 ([]:List α)::L) w :=
 ⟨h.os,h.tape,h.output,λ_=>False,_,λ_ h=>h.elim,λ_ h=>h,λ_ h=>h.elim,aWu,h.sep⟩
end
def RunV (P:Program) (o:Oper) (a:Act) (w:World) (v:Value):Prop:=(execOp a.eval o).run P w=.ok (.value v) w
section
variable {P:Program} {ops:Array Oper} {Q:Exit->Act->World->Prop} {rest:List Oper} {o:Oper} {a:Act} {w:World} {K:Act->World->Prop}
 {n:Nat} {D:List Deferred} {F:List (Nat×Value)} {r:World} {L:List HP}
theorem RunV.wp {v:Value} (h:RunV P o a w v) (hK:K (a.put o.dst v) w):o.wp P a w K Q:=by unfold Oper.wp;rw [show (execOp a.eval o).run P w=_ from h];exact hK
theorem mG (hg:o.guard=none) (h:∀ K:Act->World->Prop,(∀ a w,wpList P ops Q rest a w->K a w)->o.wp P a w K Q):wpList P ops Q (o::rest) a w:=wpList_plain hg h
theorem wl {t:Nat} {v:Value} (hA:FR n D a F) (hd:o.dst=some t) (hg:o.guard=none) (ht:t<n) (h:RunV P o a w v)
  (k:∀ a',FR n D a' ((t,v)::F)->wpList P ops Q rest a' w):wpList P ops Q (o::rest) a w :=
 wpList_plain hg λK hK=>h.wp (hK _ _ (k _ (by rw [hd];exact hA.put t v ht)))
theorem wH {tmps:Array Value} {j:Nat} {t:Nat} {b:Bool} (a:(ops[j]?).bind (·.dst)=some t) (c:tmps[t]?=some (.bool b)):yielded ops tmps j=some b:=by
 unfold yielded;cases ho:ops[j]? with
 | none=>rw [ho] at a;cases a
 | some o' =>
  rw [ho] at a;simp only [bGi] at a;simp [a,c]
theorem aY4 {j t:Nat} {b:Bool} (hA:FR n D a F) (hg:o.guard=some (j,b)) (c:(ops[j]?).bind (·.dst)=some t) (d:lk F t=some (.bool b))
  (h:wpList P ops Q ({ o with guard:=none }::rest) a w):wpList P ops Q (o::rest) a w:=by
 have e:=wH (ops:=ops) c (hA.at_ t _ d);unfold wpList at h ⊢;rw [if_pos (by simp [Region.wanted])] at h;rw [if_pos (by simp [Region.wanted,hg,e])];exact h
theorem aVh {j t:Nat} {b c:Bool} {t':Nat} (hA:FR n D a F) (hg:o.guard=some (j,b)) (d:(ops[j]?).bind (·.dst)=some t) (e:lk F t=some (.bool c)) (hb:(c==b)=false) (hd:o.dst=some t') (ht:t'<n)
  (k:∀ a',FR n D a' ((t',undef)::F)->wpList P ops Q rest a' w):wpList P ops Q (o::rest) a w:=by
 have f:=wH (ops:=ops) d (hA.at_ t _ e);unfold wpList;rw [if_neg (by simp only [Region.wanted,hg,f];intro h;simp at h hb;exact hb h)];exact k _ (by rw [hd];exact hA.put t' _ ht)
theorem xK {x:Operand} {v:Value} (b:o.op=.move x) (hx:a.eval x=v):RunV P o a w v:=by unfold RunV execOp;rw [b, ← hx];rfl
theorem aA5 {x:Operand} {v:Value} (b:o.op=.assign x) (hx:a.eval x=v):RunV P o a w v:=by unfold RunV execOp;rw [b, ← hx];rfl
theorem aI2 {c x y:Operand} {v:Value} (b:o.op=.pick c x y) (hc:a.eval c=.bool true) (hx:a.eval x=v):RunV P o a w v:=by unfold RunV execOp;rw [b];simp only [hc,hx];rfl
theorem aI1 {c x y:Operand} {v:Value} (b:o.op=.pick c x y) (hc:a.eval c=.bool false) (d:a.eval y=v):RunV P o a w v:=by unfold RunV execOp;rw [b];simp only [hc,d];rfl
theorem oB {op:BinOp} {x y:Operand} {xt yt:TypeId} {vx vy v:Value} (b:o.op=.binOp op xt x y yt) (hx:a.eval x=vx) (c:a.eval y=vy)
  (hr:∀ w,((do eqGuard op xt x y vx vy;binOp op xt vx vy:Sem Value)).run P w=.ok v w):RunV P o a w v:=by
 unfold RunV execOp;rw [b];simp only [hx,c];have:=hr w;simp only [Sem.run_bind,Sem.run_pure] at this ⊢;rw [this];rfl
theorem aAv {t:TypeId} {x y:Value} {b:Bool} (h:∀ d,(Op.equalIn (d+1) t x y).run P w=.ok b w):(Op.equal t x y).run P w=.ok b w:=h 9999
section wR
variable {x y:Operand} {xt yt:TypeId} {k:IntKind} {i j:Int}
theorem kW (b:o.op=.binOp .add xt x y yt) (hx:a.eval x=.int k i) (c:a.eval y=.int k j):RunV P o a w (.int k (k.wrap (i+j))):=oB b hx c λ_=>by cases k <;> rfl
theorem aAc (b:o.op=.binOp .sub xt x y yt) (hx:a.eval x=.int k i) (c:a.eval y=.int k j):RunV P o a w (.int k (k.wrap (i - j))):=oB b hx c λ_=>by cases k <;> rfl
theorem bDa (b:o.op=.binOp .mul xt x y yt) (hx:a.eval x=.int k i) (c:a.eval y=.int k j):RunV P o a w (.int k (k.wrap (i * j))):=oB b hx c λ_=>by cases k <;> rfl
theorem aN4 (b:o.op=.binOp .quo xt x y yt) (hx:a.eval x=.int k i) (c:a.eval y=.int k j) (h0:j≠0):RunV P o a w (.int k (k.wrap (i.tdiv j))) :=
 oB b hx c λ_=>by cases k <;> simp [eqGuard,binOp,Op.intDiv,h0]
theorem aCy (b:o.op=.binOp .rem xt x y yt) (hx:a.eval x=.int k i) (c:a.eval y=.int k j) (h0:j≠0):RunV P o a w (.int k (i.tmod j)) :=
 oB b hx c λ_=>by cases k <;> simp [eqGuard,binOp,Op.intDiv,h0]
def aBk (k:IntKind) (i j:Int):Int:=k.wrap ((BitVec.ofInt k.bits i &&& BitVec.ofInt k.bits j).toNat)
def ior (k:IntKind) (i j:Int):Int:=k.wrap ((BitVec.ofInt k.bits i ||| BitVec.ofInt k.bits j).toNat)
def aAx (k:IntKind) (i j:Int):Int:=k.wrap ((BitVec.ofInt k.bits i ^^^ BitVec.ofInt k.bits j).toNat)
def wT (k:IntKind) (i j:Int):Int:=k.wrap (i * 2 ^ (min j.toNat k.bits))
def oC (k:IntKind) (i j:Int):Int:=i.fdiv (2 ^ (min j.toNat k.bits))
theorem aYt (b:o.op=.binOp .and xt x y yt) (hx:a.eval x=.int k i) (c:a.eval y=.int k j):RunV P o a w (.int k (aBk k i j)):=oB b hx c λ_=>by cases k <;> rfl
theorem aL7 (b:o.op=.binOp .or xt x y yt) (hx:a.eval x=.int k i) (c:a.eval y=.int k j):RunV P o a w (.int k (ior k i j)):=oB b hx c λ_=>by cases k <;> rfl
theorem bDe (b:o.op=.binOp .xor xt x y yt) (hx:a.eval x=.int k i) (c:a.eval y=.int k j):RunV P o a w (.int k (aAx k i j)):=oB b hx c λ_=>by cases k <;> rfl
theorem aEb {b:IntKind} (c:o.op=.binOp .shl xt x y yt) (hx:a.eval x=.int k i) (d:a.eval y=.int b j) (h0:0<=j):RunV P o a w (.int k (wT k i j)) :=
 oB c hx d λ_=>by simp [eqGuard,binOp,Op.shift,wT,Int.not_lt.2 h0]
theorem uG {b:IntKind} (c:o.op=.binOp .shr xt x y yt) (hx:a.eval x=.int k i) (d:a.eval y=.int b j) (h0:0<=j):RunV P o a w (.int k (oC k i j)) :=
 oB c hx d λ_=>by simp [eqGuard,binOp,Op.shift,oC,Int.not_lt.2 h0]
theorem aAa (b:o.op=.binOp .eql xt x y yt) (hx:a.eval x=.int k i) (c:a.eval y=.int k j):RunV P o a w (.bool (i==j)):=oB b hx c λ_=>by cases k <;> rfl
theorem xP (b:o.op=.binOp .neq xt x y yt) (hx:a.eval x=.int k i) (c:a.eval y=.int k j):RunV P o a w (.bool (i != j)):=oB b hx c λ_=>by cases k <;> rfl
theorem aEa (b:o.op=.binOp .lss xt x y yt) (hx:a.eval x=.int k i) (c:a.eval y=.int k j):RunV P o a w (.bool (decide (i<j))):=oB b hx c λ_=>by cases k <;> rfl
theorem aYv (b:o.op=.binOp .leq xt x y yt) (hx:a.eval x=.int k i) (c:a.eval y=.int k j):RunV P o a w (.bool (decide (i<=j))):=oB b hx c λ_=>by cases k <;> rfl
theorem aD9 (b:o.op=.binOp .gtr xt x y yt) (hx:a.eval x=.int k i) (c:a.eval y=.int k j):RunV P o a w (.bool (decide (j<i))):=oB b hx c λ_=>by cases k <;> rfl
theorem aYu (b:o.op=.binOp .geq xt x y yt) (hx:a.eval x=.int k i) (c:a.eval y=.int k j):RunV P o a w (.bool (decide (j<=i))):=oB b hx c λ_=>by cases k <;> rfl
theorem bC7 {b c:Bool} (hu:P.underlying xt=some .bool) (e:o.op=.binOp .eql xt x y yt) (hx:a.eval x=.bool b) (f:a.eval y=.bool c):RunV P o a w (.bool (b==c)) :=
 oB e hx f λw=>by show (do pure (.bool (← Op.equal xt (.bool b) (.bool c))):Sem Value).run P w=_;rw [Sem.run_bind,aAv (b:=(b==c)) λd=>by simp [Op.equalIn,run_underlying hu]];rfl
theorem mC {e:TypeId} {p:Option Addr} (hu:P.underlying xt=some (.pointer e)) (c:o.op=.binOp .eql xt x y yt) (hx:a.eval x=.pointer p) (f:a.eval y=.pointer none):RunV P o a w (.bool p.isNone) :=
 oB c hx f λw=>by show (do pure (.bool (← Op.equal xt (.pointer p) (.pointer none))):Sem Value).run P w=_;rw [Sem.run_bind,aAv (b:=p.isNone) λd=>by cases p <;> simp [Op.equalIn,run_underlying hu]];rfl
theorem aA6 {e:TypeId} {p:Option Addr} (hu:P.underlying xt=some (.pointer e)) (c:o.op=.binOp .neq xt x y yt) (hx:a.eval x=.pointer p) (f:a.eval y=.pointer none):RunV P o a w (.bool (!p.isNone)) :=
 oB c hx f λw=>by show (do pure (.bool (!(← Op.equal xt (.pointer p) (.pointer none)))):Sem Value).run P w=_;rw [Sem.run_bind,aAv (b:=p.isNone) λd=>by cases p <;> simp [Op.equalIn,run_underlying hu]];rfl
theorem aFl {e:TypeId} {p:Option Addr} {m c:Nat} (hu:P.underlying xt=some (.slice e)) (f:o.op=.binOp .eql xt x y yt) (hx:a.eval x=.slice p m c) (g:a.eval y=.slice none 0 0):RunV P o a w (.bool p.isNone) :=
 oB f hx g λw=>by show (do pure (.bool (← Op.equal xt (.slice p m c) (.slice none 0 0))):Sem Value).run P w=_;rw [Sem.run_bind,aAv (b:=p.isNone) λd=>by cases p <;> simp [Op.equalIn,run_underlying hu]];rfl
theorem aKi {t':TypeId} {b:Bool} (c:o.op=.unOp .not t' x) (hx:a.eval x=.bool b):RunV P o a w (.bool (!b)):=by unfold RunV execOp;rw [c];simp only [hx];rfl
theorem bDd {t':TypeId} (b:o.op=.unOp .neg t' x) (hx:a.eval x=.int k i):RunV P o a w (.int k (k.wrap (0 - i))):=by unfold RunV execOp;rw [b];simp only [hx];rfl
theorem aWy {t':TypeId} (b:o.op=.unOp .xor t' x) (hx:a.eval x=.int k i):RunV P o a w (.int k (aAx k (if k.signed then -1 else k.max) i)):=by unfold RunV execOp;rw [b];simp only [hx];rfl
theorem aQ {src dst:TypeId} {ds:TypeDesc} {b:IntKind} (hs:P.underlying src=some ds) (hd:P.underlying dst=some (.int b)) (c:o.op=.convert src dst x) (hx:a.eval x=.int k i):RunV P o a w (.int b (b.wrap i)):=by unfold RunV execOp;rw [c];simp [hx,convert,run_underlying hs,run_underlying hd,Conv.intToInt]
end wR
def str (s:List UInt8):Value:=.string ⟨s.toArray⟩
theorem vQ (s:List UInt8):(⟨s.toArray⟩:ByteArray).toList=s:=by
 have key:∀ (b:ByteArray) (i:Nat) (r:List UInt8),ByteArray.toList.loop b i r=r.reverse++b.data.toList.drop i:=by
  intro b i r
  induction h:b.size - i generalizing i r with
  | zero =>
   unfold ByteArray.toList.loop;rw [if_neg (by omega),List.drop_eq_nil_of_le (by have:b.data.size=b.size:=rfl;simp;omega),List.append_nil]
  | succ m ih =>
   have a:i<b.size:=by omega
   have c:i<b.data.toList.length:=by simpa using a
   unfold ByteArray.toList.loop;rw [if_pos a,ih _ _ (by omega),List.reverse_cons,List.append_assoc];congr 1;rw [List.drop_eq_getElem_cons c];simp only [List.singleton_append,List.cons.injEq,and_true];show b.data[i]! = _;rw [getElem!_pos b.data i (by simpa using a)];simp
 unfold ByteArray.toList;rw [key];simp
theorem aDc (s:List UInt8):(⟨s.toArray⟩:ByteArray).size=s.length:=by show s.toArray.size=_;simp
section strings
variable {x y:Operand} {xt yt:TypeId} {s u:List UInt8}
theorem aKg (b:o.op=.binOp .eql xt x y yt) (hx:a.eval x=str s) (c:a.eval y=str u):RunV P o a w (.bool (s==u)) :=
 oB b hx c λ_=>by simp [str,eqGuard,binOp,Op.stringOp,vQ]
theorem aUy (b:o.op=.binOp .neq xt x y yt) (hx:a.eval x=str s) (c:a.eval y=str u):RunV P o a w (.bool (!(s==u))) :=
 oB b hx c λ_=>by simp [str,eqGuard,binOp,Op.stringOp,vQ]
theorem aQ2 (b:o.op=.binOp .lss xt x y yt) (hx:a.eval x=str s) (c:a.eval y=str u):RunV P o a w (.bool (Op.bytesLess s u)) :=
 oB b hx c λ_=>by simp [str,eqGuard,binOp,Op.stringOp,vQ]
theorem bC8 (b:o.op=.binOp .gtr xt x y yt) (hx:a.eval x=str s) (c:a.eval y=str u):RunV P o a w (.bool (!(Op.bytesLess s u||s==u))) :=
 oB b hx c λ_=>by simp [str,eqGuard,binOp,Op.stringOp,vQ]
theorem aPp (b:o.op=.binOp .add xt x y yt) (hx:a.eval x=str s) (c:a.eval y=str u) (hl:s.length+u.length<=maxLen):RunV P o a w (str (s++u)) :=
 oB b hx c λ_=>by
  have h:¬ (((s.length+u.length:Nat):Int)>IntKind.i64.max):=by simp [maxLen] at hl;simp [IntKind.max,IntKind.signed,IntKind.bits];omega
  have d:=aDc s;have e:=aDc u;have f:(⟨s.toArray⟩:ByteArray)++⟨u.toArray⟩=⟨(s++u).toArray⟩:=by apply ByteArray.ext;rw [ByteArray.data_append];simp
  simp only [str,eqGuard,binOp,Op.stringOp,d,e,if_neg h,f];rfl
theorem wE {b:Builtin} {args:Array Operand} {ts:Array TypeId} {v:Value} (c:o.op=.call { callee:=.builtin b,args:=args,argTypes:=ts })
  (hr:(builtin b ts o.type (args.map fun | .const _=>true | _=>false) (args.map a.eval)).run P w=.ok (.value v) w):RunV P o a w v:=by
 unfold RunV execOp;rw [c];simp only [resolve,Sem.run_bind,Sem.run_pure,Result.andThen_ok,invoke];exact hr
theorem aCx (hu:P.underlying xt=some .string) (b:o.op=.call { callee:=.builtin .len,args:=#[x],argTypes:=#[xt] }) (hx:a.eval x=str s):RunV P o a w (.int .i64 (s.length:Int)) :=
 wE b (by
  have e:#[x].map a.eval=#[str s]:=by simp [hx]
  rw [e];show (do pure (.value (← Builtin.len_ #[xt] o.type #[str s])):Sem Next).run P w=_;rw [Sem.run_bind];simp [Builtin.len_,str,aDc,goInt,run_underlying hu])
end strings
section mem
variable {x y:Operand} {t e:TypeId} {v:Value}
theorem aN {ad:Addr} (b:o.op=.nilCheck x) (hx:a.eval x=.pointer (some ad)):RunV P o a w (.pointer (some ad)):=by unfold RunV execOp;rw [b];simp only [hx];rfl
def FA (P:Program) (s i off:Nat):Prop:=∀ (ad:Addr) (w:World),(Instr.fieldAt s (.pointer (some ad)) i).run P w=.ok (.pointer (some (ad.add off))) w
theorem aAb {s i off:Nat} {ad:Addr} (hf:FA P s i off) (b:o.op=.fieldAddr s x i) (hx:a.eval x=.pointer (some ad)):RunV P o a w (.pointer (some (ad.add off))):=by have h:=hf ad w;unfold RunV execOp;rw [b];simp only [hx,Sem.run_bind,h];rfl
theorem uF {vs:Array Value} {i:Nat} (b:o.op=.extract x i) (hx:a.eval x=.tuple vs) (hi:vs[i]?=some v):RunV P o a w v:=by unfold RunV execOp;rw [b];simp only [hx,Instr.extract,hi];rfl
theorem gV {fn:Fn} {xs ys:Array Operand} {vs us:Array Value} (b:o.op=.makeFunc fn xs ys) (hx:xs.map a.eval=vs) (c:ys.map a.eval=us):RunV P o a w (.func fn vs us):=by unfold RunV execOp;rw [b];simp only [hx,c];rfl
theorem iZ {parts:Array (Nat×Operand)} {ps:Array (Nat×Value)} (b:o.op=.build t parts) (hx:parts.map (λ(i,x)=>(i,a.eval x))=ps) (hr:∀ w,(Instr.build t ps).run P w=.ok v w):RunV P o a w v:=by unfold RunV execOp;rw [b];simp only [hx,Sem.run_bind,hr];rfl
def aF7 (d:TypeDesc):Bool:=match d with | .struct _ | .array _ _=>false | _=>true
theorem oY {d:TypeDesc} (h:P.underlying t=some d) (w:World):(isAgg t).run P w=.ok (!aF7 d) w:=by cases d <;> simp [isAgg,run_underlying h,aF7]
theorem aUw {d:TypeDesc} {ad:Addr} (hu:P.underlying t=some d) (hd:aF7 d=true) (b:o.op=.load t x) (hx:a.eval x=.pointer (some ad)) (hc:w.cell? ad=some v):RunV P o a w v:=by unfold RunV execOp;rw [b];simp [hx,Instr.loadAt,Instr.sureAddr,loadVar,oY hu,hd,hc]
theorem aKh {d:TypeDesc} {ad:Addr} {cs:List Value} (hu:P.underlying t=some d) (hd:aF7 d=false) (hi:(P.info? t).map (·.size)=some cs.length) (b:o.op=.load t x) (hx:a.eval x=.pointer (some ad))
  (hc:∀ j u,cs[j]?=some u->w.cell? (ad.add j)=some u):RunV P o a w (.agg cs.toArray):=by
 unfold RunV execOp;rw [b];obtain⟨i,c,e⟩:=Option.map_eq_some_iff.1 hi;have f:(isAgg t).run P w=.ok true w:=by rw [oY hu,hd];rfl
 have hl:=run_loadCells_list (P:=P) w ad cs hc;simp [hx,Instr.loadAt,Instr.sureAddr,loadVar,f,sizeOf,typeInfo,c,e,hl]
def ea (A:Option Addr) (k:Nat):Addr:=(A.getD default).add k
theorem gM (A:Option Addr) (i j:Nat):(ea A i).add j=ea A (i+j):=add_add' _ _ _
theorem aGx {A:Option Addr} {m c sz:Nat} {k:IntKind} {i:Int} (hu:P.underlying t=some (.slice e)) (hi:(P.info? e).map (·.size)=some sz) (b:o.op=.indexAddr t x y) (hx:a.eval x=.slice A m c) (d:a.eval y=.int k i)
  (hA:A.isSome=true) (h0:0<=i) (f:i<(m:Int)):RunV P o a w (.pointer (some (ea A (i.toNat * sz)))):=by
 unfold RunV execOp;rw [b];obtain⟨q,g,h⟩:=Option.map_eq_some_iff.1 hi;cases A with
 | none=>cases hA
 | some ad =>
  simp [hx,d,Instr.indexAt,asIntOf,run_underlying hu,h0,f,sizeOf,typeInfo,g,h,ea]
theorem Rd.isSome_ {α:Type} {d:Kd α} {A:Option Addr} {xs:List α} (h:Rd d w A xs) {i:Int} (h0:0<=i) (a:i<(xs.length:Int)):A.isSome=true:=by obtain⟨ad,rfl,_⟩:=h (by omega);rfl
theorem Rd.elem {α:Type} {d:Kd α} {A:Option Addr} {xs:List α} (h:Rd d w A xs) {i:Nat} {z:α} (hi:xs[i]?=some z) :
  ∃ cs,d.V z cs/\∀ q u,cs[q]?=some u->w.cell? (ea A (i * d.sz+q))=some u:=by
 obtain⟨ad,rfl,hr⟩:=h (by have:=(List.getElem?_eq_some_iff.1 hi).1;omega);exact hr i z hi
theorem aCw {A:Option Addr} {m c:Nat} (hu:P.underlying t=some (.slice e)) (b:o.op=.call { callee:=.builtin .len,args:=#[x],argTypes:=#[t] }) (hx:a.eval x=.slice A m c):RunV P o a w (.int .i64 (m:Int)) :=
 wE b (by
  have e:#[x].map a.eval=#[.slice A m c]:=by simp [hx]
  rw [e];show (do pure (.value (← Builtin.len_ #[t] o.type #[.slice A m c])):Sem Next).run P w=_;rw [Sem.run_bind];simp [Builtin.len_,goInt,run_underlying hu])
theorem aUv {A:Option Addr} {m c:Nat} (hu:P.underlying t=some (.slice e)) (b:o.op=.call { callee:=.builtin .cap,args:=#[x],argTypes:=#[t] }) (hx:a.eval x=.slice A m c):RunV P o a w (.int .i64 (c:Int)) :=
 wE b (by
  have e:#[x].map a.eval=#[.slice A m c]:=by simp [hx]
  rw [e];show (do pure (.value (← Builtin.cap_ #[t] o.type #[.slice A m c])):Sem Next).run P w=_;rw [Sem.run_bind];simp [Builtin.cap_,goInt,run_underlying hu])
theorem aI0 {k:IntKind} {i j:Int} {ts:Array TypeId} (b:o.op=.call { callee:=.builtin .min,args:=#[x,y],argTypes:=ts }) (hx:a.eval x=.int k i) (c:a.eval y=.int k j):RunV P o a w (.int k (if j<i then j else i)) :=
 wE b (by
  have e:#[x,y].map a.eval=#[.int k i,.int k j]:=by simp [hx,c]
  rw [e];show (do pure (.value (← Builtin.min_ ts o.type #[.int k i,.int k j])):Sem Next).run P w=_;rw [Sem.run_bind];simp [Builtin.min_,Builtin.min2])
theorem aEr {k:IntKind} {i j:Int} {ts:Array TypeId} (b:o.op=.call { callee:=.builtin .max,args:=#[x,y],argTypes:=ts }) (hx:a.eval x=.int k i) (c:a.eval y=.int k j):RunV P o a w (.int k (if i<j then j else i)) :=
 wE b (by
  have e:#[x,y].map a.eval=#[.int k i,.int k j]:=by simp [hx,c]
  rw [e];show (do pure (.value (← Builtin.max_ ts o.type #[.int k i,.int k j])):Sem Next).run P w=_;rw [Sem.run_bind];simp [Builtin.max_,Builtin.max2])
theorem zW (hu:P.underlying t=some (.slice e)):P.elem t=e:=by simp [Program.elem,hu]
section
variable {A:Option Addr} {m c sz:Nat} {l u:Int} {kl kh:IntKind} {lo hi:Operand} (hu:P.underlying t=some (.slice e)) (hi':(P.info? e).map (·.size)=some sz)
include hu hi'
theorem aEs (b:o.op=.slice t x (some lo) (some hi) none) (hx:a.eval x=.slice A m c) (hl:a.eval lo=.int kl l) (d:a.eval hi=.int kh u) (h0:0<=l) (f:l<=u) (g:u<=c) :
  RunV P o a w (.slice (if c=l.toNat then A else A.map (·.add (l.toNat * sz))) (u.toNat - l.toNat) (c - l.toNat)):=by
 obtain⟨q,i,j⟩:=Option.map_eq_some_iff.1 hi';have ht:P.underlying t=some (.slice (P.elem t)):=by rw [zW hu];exact hu
 have h:=run_slice_lh (P:=P) w t A m c ht kl kh l u h0 f g;rw [zW hu] at h;have hs:(sizeOf e).run P w=.ok sz w:=by simp [sizeOf,typeInfo,i,j]
 rw [hs] at h;unfold RunV execOp;rw [b];simp only [hx,hl,d,Option.map_some,Option.map_none,Sem.run_bind,run_sliceAt_slice w t _ _ _ _ ht,h];rfl
theorem lV (b:o.op=.slice t x none (some hi) none) (hx:a.eval x=.slice A m c) (d:a.eval hi=.int kh u) (h0:0<=u) (f:u<=c) :
  RunV P o a w (.slice A u.toNat c):=by
 obtain⟨q,g,i⟩:=Option.map_eq_some_iff.1 hi';have ht:P.underlying t=some (.slice (P.elem t)):=by rw [zW hu];exact hu
 have h:=run_slice_h (P:=P) w t A m c ht kh u h0 f;rw [zW hu] at h;have hs:(sizeOf e).run P w=.ok sz w:=by simp [sizeOf,typeInfo,g,i]
 rw [hs] at h;unfold RunV execOp;rw [b];simp only [hx,d,Option.map_some,Option.map_none,Sem.run_bind,run_sliceAt_slice w t _ _ _ _ ht,h];have:sliced A 0 u.toNat c sz=.slice A u.toNat c:=by unfold sliced;cases A <;> simp [aDb]
 simp [Result.andThen,this]
theorem kX (b:o.op=.slice t x (some lo) none none) (hx:a.eval x=.slice A m c) (hl:a.eval lo=.int kl l) (h0:0<=l) (d:l<=m) :
  RunV P o a w (.slice (if c=l.toNat then A else A.map (·.add (l.toNat * sz))) (m - l.toNat) (c - l.toNat)):=by
 obtain⟨q,f,g⟩:=Option.map_eq_some_iff.1 hi';have ht:P.underlying t=some (.slice (P.elem t)):=by rw [zW hu];exact hu
 have h:=run_slice_l (P:=P) w t A m c ht kl l h0 d;rw [zW hu] at h;have hs:(sizeOf e).run P w=.ok sz w:=by simp [sizeOf,typeInfo,f,g]
 rw [hs] at h;unfold RunV execOp;rw [b];simp only [hx,hl,Option.map_some,Option.map_none,Sem.run_bind,run_sliceAt_slice w t _ _ _ _ ht,h];rfl
end
theorem aN3 {k:IntKind} {i:Int} {s:List UInt8} {b:UInt8} (hu:P.underlying t=some .string) (c:o.op=.index t x y) (hx:a.eval x=str s) (d:a.eval y=.int k i) (h0:0<=i) (hb:s[i.toNat]?=some b):RunV P o a w (.int .u8 (b.toNat:Int)):=by
 unfold RunV execOp;rw [c];have f:i.toNat<s.length:=(List.getElem?_eq_some_iff.1 hb).1;have e:(⟨s.toArray⟩:ByteArray)[i.toNat]?=some b:=by rw [getElem?_pos _ _ (by rw [aDc];exact f)];have:=(List.getElem?_eq_some_iff.1 hb).2;rw [← this];rfl
 simp [hx,d,str,Instr.index,asIntOf,run_underlying hu,h0,e]
end mem
end
section
variable {P:Program} {ops:Array Oper} {Q:Exit->Act->World->Prop} {rest:List Oper} {o:Oper} {a:Act} {w w':World} {K:Act->World->Prop}
 {n:Nat} {D:List Deferred} {F:List (Nat×Value)} {r:World} {L:List HP} {α:Type} {d:Kd α} {x y:Operand} {t e T:TypeId} {v:Value}
theorem SH.new (h:SH r L w) (a:w'.os=w.os) (ht:w'.tape=w.tape) (hp:w'.output=w.output) (hs:w.heap.size<=w'.heap.size)
  (hk:∀ k,k<w.heap.size->w'.heap[k]?=w.heap[k]?) {Ls:List HP} (hB:∀ S:Nat->Prop,(∀ k,w.heap.size<=k->k<w'.heap.size->S k)->Sep Ls w' S):SH r (Ls++L) w':=by
 have h0:SH r (zZ True::L) w:=⟨h.os,h.tape,h.output,λ_=>False,_,λ_ h=>h.elim,λ_ h=>h,λ_ h=>h.elim,trivial,h.sep⟩;exact h0.upd (S1:=λ_=>False) (λ_ h=>h.elim) (λ_ h=>h) (λ_ h=>h.elim) h.sep a ht hp hs (λk b _=>hk k b) λS _ hS _=>hB S hS
theorem SH.alloc (h:SH r L w) (T:TypeId) (cs:List Value):SH r (blk w.heap.size T cs::L) (w.alloc (.cells cs.toArray T)) :=
 h.new (w':=w.alloc (.cells cs.toArray T)) rfl rfl rfl (by simp) (λk hk=>Below.heap_alloc _ _ _ hk) (Ls:=[blk w.heap.size T cs]) λS hS =>
  ⟨S,λ_=>False,λ_ h=>h,λ_ h=>h.elim,λ_ _ h=>h,⟨hS _ (Nat.le_refl _) (by simp),heap_alloc_new w _⟩,trivial⟩
theorem bBh {cs:List Value} (hS:SH r L w) (b:o.op=.box T x) (hx:a.eval x=v) (c:v.cells=cs.toArray)
  (hK:∀ g w',SH r (blk g T cs::L) w'->K (a.put o.dst (.pointer (some ⟨g,0,none⟩))) w'):o.wp P a w K Q:=by
 have h:(execOp a.eval o).run P w=.ok (.value (.pointer (some ⟨w.heap.size,0,none⟩))) (w.alloc (.cells cs.toArray T)):=by unfold execOp;rw [b];simp [Instr.box,newVar,newRow,hx,c]
 unfold Oper.wp;rw [h];exact hK _ _ (hS.alloc T cs)
theorem aQf {cs:List Value} {z:Value} (hS:SH r L w) (b:o.op=.alloc T) (hz:(P.info? T).bind (·.zero)=some z) (c:z.cells=cs.toArray)
  (hK:∀ g w',SH r (blk g T cs::L) w'->K (a.put o.dst (.pointer (some ⟨g,0,none⟩))) w'):o.wp P a w K Q:=by
 obtain⟨i,d,e⟩:=Option.bind_eq_some_iff.1 hz;have h:(execOp a.eval o).run P w=.ok (.value (.pointer (some ⟨w.heap.size,0,none⟩))) (w.alloc (.cells cs.toArray T)):=by unfold execOp;rw [b];simp [Instr.alloc,newVar,newRow,zeroValue,typeInfo,d,e,c]
 unfold Oper.wp;rw [h];exact hK _ _ (hS.alloc T cs)
theorem aDq {w:World} {g m c:Nat} {xs:List α} {cur:Array Value} {S:Nat->Prop} (hg:w.heap[g]?=some (.cells cur e (0,0))) (hS:S g) (hn:xs.length=m) (hc:xs.length<=c) (hm:c<=maxLen) (hs:cur.size=c * d.sz)
  (hL:Lay d xs (cur.toList.take (xs.length * d.sz))):(own d e (some ⟨g,0,none⟩) m c xs).P w S :=
 ⟨hn,⟨_,hL,hL.length,.inr ⟨g,c,cur,rfl,Nat.zero_le _,hg,hc,hm,hs,rfl⟩⟩,λb a=>by cases a;exact hS⟩
theorem aFa {m:Nat} {parts:Array (Nat×Operand)} {ps:Array (Nat×Value)} {cells:List Value} {xs:List α} (hS:SH r L w) (b:o.op=.buildSlice t m parts) (hx:parts.map (λ(i,x)=>(i,a.eval x))=ps)
  (hr:∀ w:World,(Instr.buildSlice t m ps).run P w=.ok (.slice (some ⟨w.heap.size,0,none⟩) m m) (w.alloc (.cells cells.toArray e))) (hm:xs.length=m) (c:m<=maxLen) (hL:Lay d xs cells)
  (hK:∀ g w',SH r (own d e (some ⟨g,0,none⟩) m m xs::L) w'->K (a.put o.dst (.slice (some ⟨g,0,none⟩) m m)) w'):o.wp P a w K Q:=by
 have h:(execOp a.eval o).run P w=.ok (.value (.slice (some ⟨w.heap.size,0,none⟩) m m)) (w.alloc (.cells cells.toArray e)):=by unfold execOp;rw [b];have h:=hr w;simp only [hx,Sem.run_bind,h];rfl
 unfold Oper.wp;rw [h];refine hK _ _ (hS.new (w':=w.alloc (.cells cells.toArray e)) rfl rfl rfl (by simp) (λk hk=>Below.heap_alloc _ _ _ hk) (Ls:=[own d e (some ⟨w.heap.size,0,none⟩) m m xs]) λS f =>
  ⟨S,λ_=>False,λ_ h=>h,λ_ h=>h.elim,λ_ _ h=>h,?_,trivial⟩)
 have hl:=hL.length;refine aDq (heap_alloc_new w _) (f _ (Nat.le_refl _) (by simp)) hm (by omega) c (by simp [hl,hm]) ?_;simp only [hm] at hl ⊢;rw [List.take_of_length_le (by simp [hl])];exact hL
theorem qS (z:List Value):∀ (k i:Nat),i<k * z.length->(List.replicate k z).flatten[i]?=z[i % z.length]?
 | 0,i,h=>by simp at h
 | k+1,i,h=>by
  rw [List.replicate_succ,List.flatten_cons];rcases Nat.lt_or_ge i z.length with hi | hi
  ·rw [List.getElem?_append_left hi,Nat.mod_eq_of_lt hi]
  ·rw [List.getElem?_append_right hi,qS z k (i - z.length) (by rw [Nat.add_mul] at h;omega), ← Nat.mod_eq_sub_mod hi]
theorem aGa (z:Array Value) (k:Nat):(madeCells z (k * z.size)).toList=(List.replicate k z.toList).flatten:=by
 apply List.ext_getElem?;intro i;rcases Nat.lt_or_ge i (k * z.size) with hi | hi
 ·have hz:0<z.size:=Nat.pos_of_ne_zero λh=>by rw [h] at hi;omega
  have hm:i % z.size<z.size:=Nat.mod_lt _ hz;rw [qS _ _ _ (by simpa using hi)];simp [madeCells,hi,hm]
 ·rw [List.getElem?_eq_none (by simp [size_madeCells,hi]),List.getElem?_eq_none (by simp [List.length_flatten,hi])]
theorem aNb {l:Operand} {kl:IntKind} {m:Int} {z:Value} {bytes:Nat} {z0:α} (hS:SH r L w) (ht:P.underlying t=some (.slice e)) (hi:(P.info? e).map (λi=>(i.zero,i.size,i.bytes))=some (some z,d.sz,bytes))
  (c:o.op=.makeSlice t l l) (hl:a.eval l=.int kl m) (hz:d.V z0 z.cells.toList) (h0:0<=m) (hb:(bytes:Int) * m<=140737488355328) (v:0<bytes)
  (hK:∀ g w',SH r (own d e (some ⟨g,0,none⟩) m.toNat m.toNat (List.replicate m.toNat z0)::L) w'->K (a.put o.dst (.slice (some ⟨g,0,none⟩) m.toNat m.toNat)) w'):o.wp P a w K Q:=by
 obtain⟨i,f,j,n,p⟩:=info_parts hi;have hm:m<=140737488355328:=by have:1 * m<=(bytes:Int) * m:=Int.mul_le_mul_of_nonneg_right (by omega) h0;omega
 have q:=run_make (P:=P) w t e i z ht f j kl kl m m h0 (Int.le_refl _) (by rw [p];omega) (by omega);have h:(execOp a.eval o).run P w=.ok (.value (.slice (some ⟨w.heap.size,0,none⟩) m.toNat m.toNat)) (w.alloc (.cells (madeCells z.cells (m.toNat * i.size)) e)):=by unfold execOp;rw [c];simp only [hl,Sem.run_bind,q];rfl
 unfold Oper.wp;rw [h];have s:z.cells.size=d.sz:=by simpa using d.len hz
 refine hK _ _ (hS.new (w':=w.alloc (.cells (madeCells z.cells (m.toNat * i.size)) e)) rfl rfl rfl (by simp) (λk hk=>Below.heap_alloc _ _ _ hk) (Ls:=[own d e (some ⟨w.heap.size,0,none⟩) m.toNat m.toNat (List.replicate m.toNat z0)]) λS u =>
  ⟨S,λ_=>False,λ_ h=>h,λ_ h=>h.elim,λ_ _ h=>h,?_,trivial⟩)
 have hL:Lay d (List.replicate m.toNat z0) (madeCells z.cells (m.toNat * i.size)).toList:=by
  rw [n, ← s,aGa];generalize m.toNat=k
  induction k with
  | zero=>rfl
  | succ k ih=>exact⟨_,_,rfl,hz,ih⟩
 have b:=hL.length;refine aDq (heap_alloc_new w _) (u _ (Nat.le_refl _) (by simp)) (by simp) (by simp) (by simp only [maxLen];omega) (by simp at b;simp [b]) ?_;rw [List.take_of_length_le (by rw [b];exact Nat.le_refl _)];exact hL
theorem aI6 (base:Nat) (ty:TypeId) (i:TypeInfo) (size:Nat) (ht:P.underlying t=some (.slice e)) (hi:P.info? e=some i)
  (v:Value) (m:Nat) (xs:List Value) (a:w.ownsRow base e size v m xs) (c:Nat):(Builtin.append_ #[t,t] ty #[v,.slice none 0 c]).run P w=.ok v w:=by
 rcases a.2 with ⟨rfl,rfl⟩ | ⟨g,cap,cur,rfl,_,_,b,_⟩
 ·simp [Builtin.append_,run_underlying ht,sizeOf,typeInfo,hi,Builtin.lenOf,Builtin.firstCells]
 ·simp [Builtin.append_,run_underlying ht,sizeOf,typeInfo,hi,Builtin.lenOf,Builtin.firstCells,b,storeCells]
theorem aNa (i:Nat) {z:Value} {bytes n1 c n2 c2:Nat} {A A2:Option Addr} {xs ys:List α} {L':List HP} (hS:SH r L w) (hL:pk i L=own d e A n1 c xs::L')
  (ht:P.underlying t=some (.slice e)) (hi:(P.info? e).map (λi=>(i.zero,i.size,i.bytes))=some (some z,d.sz,bytes)) (hz:z.cells.size=d.sz) (G:0<d.sz)
  (O:o.op=.call { callee:=.builtin .append,args:=#[x,y],argTypes:=#[t,t] }) (hx:a.eval x=.slice A n1 c) (R:a.eval y=.slice A2 n2 c2) (hr:Rd d w A2 ys) (hn2:ys.length=n2)
  (hm:xs.length+ys.length<=maxLen) (hb:(xs.length+ys.length) * bytes<=140737488355328)
  (hK:∀ f H l w',SH r (own d e f H l (xs++ys)::L') w'->K (a.put o.dst (.slice f H l)) w'):o.wp P a w K Q:=by
 subst hn2;have v:=hS.pk i;rw [hL] at v;obtain⟨S1,S2,T,n,hd,⟨U,⟨inner,W,s⟩,I⟩,X⟩:=v.sep;subst U;obtain⟨inf,B,J,M,N⟩:=info_parts hi;have key:∃ b w',(Builtin.append_ #[t,t] o.type #[.slice A xs.length c,.slice A2 ys.length c2]).run P w=.ok b w'/\(∃ news,Lay d ys news/\w'.ownsRow 0 e d.sz b (xs.length+ys.length) (inner++news)) /\
   w.grownBy w' (Value.slice A xs.length c).ownBlock/\(b.ownBlock=(Value.slice A xs.length c).ownBlock\/b.ownBlock=some w.heap.size):=by
  rcases A2 with _ | ad
  ·have C:ys=[]:=by
    rcases Nat.eq_zero_or_pos ys.length with h | h
    ·exact List.eq_nil_of_length_eq_zero h
    ·obtain⟨ad,Y,_⟩:=hr h;cases Y
   subst C;exact⟨_,w,aI6 0 o.type inf d.sz ht B _ _ inner s c2,⟨[],rfl,by simpa using s⟩,World.grownBy.refl w _,.inl rfl⟩
  ·rcases Nat.eq_zero_or_pos ys.length with h0 | Z
   ·have C:=List.eq_nil_of_length_eq_zero h0;subst C;obtain⟨b,w',p,n,D,_,E⟩:=run_append_own_at (P:=P) w 0 t o.type e inf z d.sz bytes ht B J M N hz G _ _ _ s ad 0 c2 [] (by simp) (λj u hu=>by simp at hu) (by simp) (by simpa using hm) (by simpa using hb) (Nat.zero_le _);exact⟨b,w',p,⟨[],rfl,n⟩,D,E⟩
   ·obtain⟨a9,hA,a0⟩:=hr Z;cases hA;obtain⟨news,q,hc⟩:=a0.cells;obtain⟨b,w',p,n,D,_,E⟩:=run_append_own_at (P:=P) w 0 t o.type e inf z d.sz bytes ht B J M N hz G _ _ _ s ad ys.length c2 news q.length hc q.one hm hb (Nat.zero_le _);exact⟨b,w',p,⟨news,q,n⟩,D,E⟩
 obtain⟨b,w',p,⟨news,q,F⟩,hg,a1⟩:=key;have hv:∃ f l,b=.slice f (xs.length+ys.length) l:=by
  rcases F.2 with ⟨rfl,hn⟩ | ⟨g,cap,cur,rfl,_⟩
  ·exact⟨none,0,by rw [hn]⟩
  ·exact⟨_,_,rfl⟩
 obtain⟨f,l,rfl⟩:=hv;have h:(execOp a.eval o).run P w=.ok (.value (.slice f (xs.length+ys.length) l)) w':=by
  unfold execOp;rw [O];simp only [resolve,Sem.run_bind,Sem.run_pure,Result.andThen_ok,invoke];have e1:#[x,y].map a.eval=#[.slice A xs.length c,.slice A2 ys.length c2]:=by simp [hx,R]
  rw [e1];show (do pure (.value (← Builtin.append_ #[t,t] o.type _)):Sem Next).run P w=_;rw [Sem.run_bind,p];rfl
 unfold Oper.wp;rw [h];refine hK _ _ _ _ (v.upd T n hd X hg.os hg.tape hg.output hg.size (λk hk a4=>hg.block k hk λe=>a4 (I k e.symm)) (Ls:=[own d e f (xs.length+ys.length) l (xs++ys)]) λS a5 a6 _ =>
  ⟨S,λ_=>False,λ_ h=>h,λ_ h=>h.elim,λ_ _ h=>h,⟨by simp,⟨inner++news,W.append q,by rw [List.length_append];exact F⟩,λg m=>?_⟩,trivial⟩)
 rw [List.length_append] at m;rcases a1 with h | h
 ·rw [h] at m;exact a5 _ (I _ m)
 ·have a7:=(F.lt g m).2;rw [h] at m;cases m;exact a6 _ (Nat.le_refl _) a7
def lD (cs:List Value) (off:Nat) (vs:List Value):List Value:=cs.take off++vs++cs.drop (off+vs.length)
theorem aFp {g:Nat} {cur:Array Value} {off:Nat} {vs:List Value} (hg:w.heap[g]?=some (.cells cur T (0,0))) (hl:off+vs.length<=cur.size) (a:∀ v∈vs,v.oneCell'=true)
  (hx:v.cells.toList=vs) (hi:(P.info? t).map (·.size)=some vs.length):(storeVar t ⟨g,off,none⟩ v).run P w=.ok () (w.setRow g (lD cur.toList off vs).toArray):=by
 obtain⟨i,b,c⟩:=Option.map_eq_some_iff.1 hi;have h:=run_storeCells_at (P:=P) g off T vs 0 cur w hg (by omega) a;have hs:v.cells.size=vs.length:=by rw [← hx];simp
 simp only [Nat.add_zero] at h;simp [storeVar,sizeOf,typeInfo,b,c,hs,hx,h,lD]
theorem aBv {g k:Nat} {cs:Array Value} (h:k≠g):(w.setRow g cs).heap[k]?=w.heap[k]?:=by simp only [World.setRow,Array.getElem?_modify];rw [if_neg (by omega)]
theorem aGq (i:Nat) {g off:Nat} {cs vs:List Value} {L':List HP} (hS:SH r L w) (hL:pk i L=blk g T cs::L') (c:o.op=.store t x y) (hx:a.eval x=.pointer (some ⟨g,off,none⟩)) (d:a.eval y=v)
  (f:v.cells.toList=vs) (j:∀ v∈vs,v.oneCell'=true) (hl:off+vs.length<=cs.length) (hi:(P.info? t).map (·.size)=some vs.length)
  (hK:∀ w',SH r (blk g T (lD cs off vs)::L') w'->K (a.put o.dst undef) w'):o.wp P a w K Q:=by
 have b:=hS.pk i;rw [hL] at b;obtain⟨S1,u,l,m,hd,hA,n⟩:=b.sep;have p:=aFp (P:=P) (t:=t) (v:=v) hA.2 (by simpa using hl) j f hi;have h:(execOp a.eval o).run P w=.ok .skip (w.setRow g (lD cs off vs).toArray):=by unfold execOp;rw [c];simp only [hx,d,Instr.storeAt,Instr.sureAddr,Sem.run_bind,Sem.run_pure,Result.andThen_ok,p]
 unfold Oper.wp;rw [h];refine hK _ (b.upd (w':=w.setRow g (lD cs off vs).toArray) l m hd n rfl rfl rfl (by simp [World.setRow]) (λk hk q=>aBv λe=>q (by rw [e];exact hA.1)) (Ls:=[blk g T (lD cs off vs)]) λS s _ _ =>
  ⟨S,λ_=>False,λ_ h=>h,λ_ h=>h.elim,λ_ _ h=>h,⟨s _ hA.1,setRow_heap w g _ _ T (0,0) hA.2⟩,trivial⟩)
theorem aJr {cs vs:List Value} {off:Nat} (h:off+vs.length<=cs.length):(lD cs off vs).length=cs.length:=by simp [lD];omega
theorem Lay.store:∀ {xs:List α} {cs:List Value},Lay d xs cs->∀ {j off:Nat} {x x':α} {vs:List Value},xs[j]?=some x->off+vs.length<=d.sz->(∀ c,d.V x c->d.V x' (lD c off vs)) ->
  Lay d (xs.set j x') (lD cs (j * d.sz+off) vs)
 | [],_,_,j,_,_,_,_,h,_,_=>by simp at h
 | y::xs,_,⟨c1,c2,e,hV,hL⟩,0,off,x,x',vs,h,ho,hv=>by subst e;cases h;have hl:=d.len hV;refine⟨lD c1 off vs,c2,?_,hv _ hV,hL⟩;simp only [lD,Nat.zero_mul,Nat.zero_add];rw [List.take_append_of_le_length (by omega),List.drop_append_of_le_length (by omega),List.append_assoc,List.append_assoc,List.append_assoc]
 | y::xs,_,⟨c1,c2,e,hV,hL⟩,j+1,off,x,x',vs,h,ho,hv=>by
  subst e;have hl:=d.len hV;refine⟨c1,_,?_,hV,Lay.store hL (j:=j) (by simpa using h) ho hv⟩;simp only [lD];have a:(j+1) * d.sz+off=c1.length+(j * d.sz+off):=by rw [hl,Nat.add_mul];omega
  rw [a,List.take_append,List.take_of_length_le (by omega),Nat.add_sub_cancel_left,Nat.add_assoc c1.length,List.drop_append,List.drop_eq_nil_of_le (show c1.length<=c1.length+(j * d.sz+off+vs.length) by omega),List.nil_append,Nat.add_sub_cancel_left];simp [List.append_assoc]
theorem aGr (i:Nat) {A:Option Addr} {n1 c off j:Nat} {xs:List α} {z z':α} {vs:List Value} {L':List HP} (hS:SH r L w) (hL:pk i L=own d e A n1 c xs::L') (u:o.op=.store t x y) (hx:a.eval x=.pointer (some (ea A (j * d.sz+off)))) (B:a.eval y=v)
  (C:v.cells.toList=vs) (D:∀ v∈vs,v.oneCell'=true) (hl:off+vs.length<=d.sz) (hi:(P.info? t).map (·.size)=some vs.length) (f:xs[j]?=some z) (E:∀ c,d.V z c->d.V z' (lD c off vs))
  (hK:∀ w',SH r (own d e A n1 c (xs.set j z')::L') w'->K (a.put o.dst undef) w'):o.wp P a w K Q:=by
 have b:=hS.pk i;rw [hL] at b;obtain⟨S1,Z,F,G,hd,⟨H,⟨inner,m,I⟩,n⟩,J⟩:=b.sep;subst H;have a0:j<xs.length:=(List.getElem?_eq_some_iff.1 f).1;have a1:=m.length;rcases I.2 with ⟨p,hn⟩ | ⟨g,cap,cur,p,a2,q,s,M,hs,N⟩
 ·omega
 ·injection p with hA _ hc;subst hA hc;have O:(j+1) * d.sz<=xs.length * d.sz:=Nat.mul_le_mul_right _ (by omega);have a3:xs.length * d.sz<=c * d.sz:=Nat.mul_le_mul_right _ s;rw [Nat.add_mul] at O;have R:a.eval x=.pointer (some ⟨g,j * d.sz+off,none⟩):=by rw [hx];simp [ea,gJ]
  have T:=aFp (P:=P) (t:=t) (v:=v) (off:=j * d.sz+off) q (by omega) D C hi;have h:(execOp a.eval o).run P w=.ok .skip (w.setRow g (lD cur.toList (j * d.sz+off) vs).toArray):=by unfold execOp;rw [u];simp only [R,B,Instr.storeAt,Instr.sureAddr,Sem.run_bind,Sem.run_pure,Result.andThen_ok,T]
  unfold Oper.wp;rw [h];refine hK _ (b.upd (w':=w.setRow g (lD cur.toList (j * d.sz+off) vs).toArray) F G hd J rfl rfl rfl (by simp [World.setRow]) (λk hk U=>aBv λe=>U (by rw [e];exact n _ rfl)) (Ls:=[own d e (some ⟨g,0,none⟩) xs.length c (xs.set j z')]) λS W _ _ =>
   ⟨S,λ_=>False,λ_ h=>h,λ_ h=>h.elim,λ_ _ h=>h,?_,trivial⟩)
  refine aDq (setRow_heap w g _ _ e (0,0) q) (W _ (n _ rfl)) (by simp) (by simpa using s) M ?_ ?_
  ·have:=aJr (cs:=cur.toList) (vs:=vs) (off:=j * d.sz+off) (by simp;omega);simp only [List.size_toArray,this];simpa using hs
  ·have X:=m.store f hl E;have Y:(lD cur.toList (j * d.sz+off) vs).take (xs.length * d.sz)=lD inner (j * d.sz+off) vs:=by rw [← N];simp only [lD];rw [List.take_append,List.take_append,List.take_take,List.take_take,Nat.min_eq_right (by omega),Nat.min_eq_left (by omega),List.length_append,List.length_take];rw [List.take_of_length_le (l:=vs) (by simp;omega)];congr 1;rw [List.drop_take];congr 1;simp;omega
   simp only [List.length_set];rw [Y];exact X
def EN (P:Program) (f:FuncId):Prop:=∀ (args:Array Value) (w:World),(callFunc f args).run P w=.ok (.enter f args) w
def Ret (P:Program) (f:FuncId) (args:Array Value) (w:World) (R:Value->World->Prop):Prop:=Calls P f args w λe w'=>∃ v,e=.returned v/\R v w'
theorem aTl {f:FuncId} {az:Array Operand} {ts:Array TypeId} {vals:Array Value} {R:Value->World->Prop} (hf:EN P f) (b:o.op=.call { callee:=.value (.func f),args:=az,argTypes:=ts }) (c:az.map a.eval=vals)
  (hC:Ret P f vals w R) (hK:∀ v w',R v w'->K (a.put o.dst v) w'):o.wp P a w K Q:=by
 have h:(execOp a.eval o).run P w=.ok (.enter f vals) w:=by unfold execOp;rw [b];simp only [resolve,Act.eval,Deferred.ofValue,Sem.run_bind,Sem.run_pure,Result.andThen_ok,invoke,c];have:=hf (#[]++vals++#[]) w;simpa using this
 unfold Oper.wp;rw [h];exact Calls.mono hC λe w' ⟨v,he,hR⟩=>by subst he;exact hK v w' hR
theorem aV8 {f:FuncId} {fx:Operand} {az:Array Operand} {ts:Array TypeId} {vals caps:Array Value} {R:Value->World->Prop} (hf:EN P f) (b:o.op=.call { callee:=.value fx,args:=az,argTypes:=ts }) (c:a.eval fx=.func (.func f) #[] caps) (d:az.map a.eval++caps=vals)
  (hC:Ret P f vals w R) (hK:∀ v w',R v w'->K (a.put o.dst v) w'):o.wp P a w K Q:=by
 have h:(execOp a.eval o).run P w=.ok (.enter f vals) w:=by unfold execOp;rw [b];simp only [resolve,c,Deferred.ofValue,Sem.run_bind,Sem.run_pure,Result.andThen_ok,invoke];have:=hf (#[]++az.map a.eval++caps) w;simpa [d] using this
 unfold Oper.wp;rw [h];exact Calls.mono hC λe w' ⟨v,he,hR⟩=>by subst he;exact hK v w' hR
end
def at_ {α:Type} (xs:List α) (i:Int):Option α:=if 0<=i then xs[i.toNat]? else none
def kD {α:Type} (xs:List α) (l u:Int):Option (List α):=if 0<=l/\l<=u/\u<=(xs.length:Int) then some ((xs.take u.toNat).drop l.toNat) else none
def chk {α:Type} (p:Prop) [Decidable p] (x:Option α):Option α:=if p then x else none
section pures
variable {α β:Type} {x:α} {xs:List α} {i l u:Int} {y:β}
theorem jL (h:at_ xs i=some x):0<=i/\i<(xs.length:Int)/\xs[i.toNat]?=some x:=by
 unfold at_ at h;split at h
 ·have:=(List.getElem?_eq_some_iff.1 h).1;exact⟨by assumption,by omega,h⟩
 ·cases h
theorem aCi {ys:List α} (h:kD xs l u=some ys):0<=l/\l<=u/\u<=(xs.length:Int)/\ys=(xs.take u.toNat).drop l.toNat:=by
 unfold kD at h;split at h
 ·rename_i hc;cases h;exact⟨hc.1,hc.2.1,hc.2.2,rfl⟩
 ·cases h
theorem aD {p:Prop} [Decidable p] {o:Option β} (h:chk p o=some y):p/\o=some y:=by
 unfold chk at h;split at h
 ·exact⟨by assumption,h⟩
 ·cases h
theorem bnd {o:Option α} {f:α->Option β} (h:o.bind f=some y):∃ x,o=some x/\f x=some y:=Option.bind_eq_some_iff.1 h
theorem ift {b:Bool} {p q:Option β} (hb:b=true) (h:(if b=true then p else q)=some y):p=some y:=by rw [if_pos hb] at h;exact h
theorem bCx {b:Bool} {p q:Option β} (hb:b=false) (h:(if b=true then p else q)=some y):q=some y:=by rw [if_neg (by rw [hb];decide)] at h;exact h
end pures
section
variable {P:Program} {ops:Array Oper} {Q:Exit->Act->World->Prop} {rest:List Oper} {o:Oper} {a:Act} {w w':World} {K:Act->World->Prop}
 {n:Nat} {D:List Deferred} {F:List (Nat×Value)} {r:World} {L:List HP} {α:Type} {d:Kd α} {x y c:Operand} {t' e T xt yt:TypeId} {v:Value} {t:Nat} {k:IntKind} {i j:Int} {s u:List UInt8}
theorem enter {f:FuncId} {fn:Func} {cd:Code} {args:Array Value} {R:Value->World->Prop} {n:Nat} (hf:P.funcs[f]?=some fn) (hb:fn.body=some cd) (hn:fn.ntmps=n)
  (F:List (Nat×Value)) (c:F.map (λp=>args[p.1]?)=F.map λp=>some p.2) (hle:(args.size<=n)=True)
  (h:∀ a,FR n [] a F->∀ Qf:Exit->Act->World->Prop,(∀ a w,bodyPost P fn (λe w'=>∃ v,e=.returned v/\R v w') .ret a w->Qf .ret a w)->(∀ a w,bodyPost P fn (λe w'=>∃ v,e=.returned v/\R v w') .normal a w->Qf .normal a w)->cd.wp P Qf a w):Ret P f args w R:=by
 refine calls_of_wp hf hb (h _ ⟨?_,rfl,?_⟩ _ (λ_ _ h=>h) λ_ _ h=>h)
 ·have:=of_eq_true hle;simp [hn];omega
 ·intro t v b;clear h
  induction F with
  | nil=>cases b
  | cons p q ih =>
   obtain⟨k,u⟩:=p;simp only [List.map_cons,List.cons.injEq] at c;simp only [lk] at b;by_cases e:Nat.beq k t=true
   ·rw [e] at b;have e':=Nat.eq_of_beq_eq_true e;subst e';cases b;have d:=(Array.getElem?_eq_some_iff.1 c.1).1;show (args++_)[k]?=_;rw [Array.getElem?_append_left d];exact c.1
   ·rw [Bool.eq_false_iff.2 e] at b;exact ih c.2 b
theorem lv {fn:Func} {R:Value->World->Prop} {t:Nat} (hr:fn.results=#[.tmp t]) (hA:FR n [] a F) (b:lk F t=some v) (h:R v w):bodyPost P fn (λe w'=>∃ v,e=.returned v/\R v w') .ret a w :=
 bodyPost_ret (by rw [results_tmp hr,show a.tmps.getD t undef=v from hA.ev (x:=.tmp t) b]) hA.defers ⟨v,rfl,h⟩
theorem aIo {fn:Func} {R:Value->World->Prop} (hr:fn.results=#[]) (hA:FR n [] a F) (h:R (.tuple #[]) w):bodyPost P fn (λe w'=>∃ v,e=.returned v/\R v w') .normal a w :=
 bodyPost_end (results_none hr _ _ _) hA.defers ⟨_,rfl,h⟩
def Exit.blk (id:Nat) (Kx:Act->World->Prop) (Q:Exit->Act->World->Prop):Exit->Act->World->Prop
 | .normal,a,w=>Kx a w
 | .exit id',a,w=>bif Nat.beq id' id then Kx a w else Q (.exit id') a w
 | e,a,w=>Q e a w
theorem aA {id:Nat} {cd:Code} (h:∀ Kx:Act->World->Prop,(∀ a w,Q .normal a w->Kx a w)->cd.wp P (Exit.blk id Kx Q) a w):(Code.block id cd).wp P Q a w:=by
 refine wp_block (Code.wp_mono (λe a w q=>?_) (h (Q .normal) λ_ _ h=>h));cases e with
 | exit id' =>
  simp only [Exit.blk,Exit.inBlock] at q ⊢;by_cases h:id'=id
  ·subst h;simpa using q
  ·have:Nat.beq id' id=false:=by
    cases hb:Nat.beq id' id
    ·rfl
    ·exact absurd (Nat.eq_of_beq_eq_true hb) h
   rw [this] at q;rw [if_neg h];exact q
 | _=>exact q
theorem aLe {cx cy:Code} {b:Bool} (hA:FR n D a F) (hc:ev F c=some (.bool b)) (d:b=true->cx.wp P Q a w) (e:b=false->cy.wp P Q a w):(Code.cond c cx cy).wp P Q a w :=
 wp_cond_split (hA.ev hc) d e
theorem aC {id:Nat} (h:wpList P ops Q ops.toList a w):(Code.region id ops false).wp P Q a w:=wp_region_list h
section one
variable (hA:FR n D a F) (kk:∀ a',FR n D a' ((t,v)::F)->wpList P ops Q rest a' w)
theorem eK (hA:FR n D a F) (h:RunV P o a w v) (kk:∀ a',FR n D a' ((t,v)::F)->wpList P ops Q rest a' w) (hd:o.dst=some t:=by rfl) (hg:o.guard=none:=by rfl) (ht:Nat.blt t n=true:=by rfl):wpList P ops Q (o::rest) a w :=
 wl hA hd hg (by have:=Nat.le_of_ble_eq_true ht;omega) h kk
theorem eE (hA:FR n D a F) (kk:∀ a',FR n D a' ((t,v)::F)->wpList P ops Q rest a' w) (b:o.op=.move x:=by rfl) (hx:ev F x=some v:=by rfl) (hd:o.dst=some t:=by rfl) (hg:o.guard=none:=by rfl) (ht:Nat.blt t n=true:=by rfl):wpList P ops Q (o::rest) a w :=
 eK hA (xK b (hA.ev hx)) kk hd hg ht
theorem eX (hA:FR n D a F) (kk:∀ a',FR n D a' ((t,v)::F)->wpList P ops Q rest a' w) (b:o.op=.assign x:=by rfl) (hx:ev F x=some v:=by rfl) (hd:o.dst=some t:=by rfl) (hg:o.guard=none:=by rfl) (ht:Nat.blt t n=true:=by rfl):wpList P ops Q (o::rest) a w :=
 eK hA (aA5 b (hA.ev hx)) kk hd hg ht
end one
theorem bGg {b:Bool} {p:Prop} (a:b=true->p) (c:b=false->p):p:=by cases b;exact c rfl;exact a rfl
theorem aXp {cx x y:Operand} {b:Bool} (hb:b=true) (hA:FR n D a F) (kk:∀ a',FR n D a' ((t,v)::F)->wpList P ops Q rest a' w) (c:o.op=.pick cx x y:=by rfl) (hc:ev F cx=some (.bool b):=by rfl) (hx:ev F x=some v:=by rfl) (hd:o.dst=some t:=by rfl) (hg:o.guard=none:=by rfl) (ht:Nat.blt t n=true:=by rfl):wpList P ops Q (o::rest) a w :=
 eK hA (aI2 c (by rw [hA.ev hc,hb]) (hA.ev hx)) kk hd hg ht
theorem mH {cx x y:Operand} {b:Bool} (hb:b=true) (hA:FR n D a F) (c:(o.op,ev F cx,ev F x,o.dst,o.guard,Nat.blt t n)=(.pick cx x y,some (.bool b),some v,some t,none,true)) (kk:∀ a',FR n D a' ((t,v)::F)->wpList P ops Q rest a' w):wpList P ops Q (o::rest) a w:=aXp (hb:=hb) (hA:=hA) (kk:=kk) (congrArg (·.1) c) (congrArg (·.2.1) c) (congrArg (·.2.2.1) c) (congrArg (·.2.2.2.1) c) (congrArg (·.2.2.2.2.1) c) (congrArg (·.2.2.2.2.2) c)
theorem aXo {cx x y:Operand} {b:Bool} (hb:b=false) (hA:FR n D a F) (kk:∀ a',FR n D a' ((t,v)::F)->wpList P ops Q rest a' w) (c:o.op=.pick cx x y:=by rfl) (hc:ev F cx=some (.bool b):=by rfl) (hx:ev F y=some v:=by rfl) (hd:o.dst=some t:=by rfl) (hg:o.guard=none:=by rfl) (ht:Nat.blt t n=true:=by rfl):wpList P ops Q (o::rest) a w :=
 eK hA (aI1 c (by rw [hA.ev hc,hb]) (hA.ev hx)) kk hd hg ht
theorem bO {cx x y:Operand} {b:Bool} (hb:b=false) (hA:FR n D a F) (c:(o.op,ev F cx,ev F y,o.dst,o.guard,Nat.blt t n)=(.pick cx x y,some (.bool b),some v,some t,none,true)) (kk:∀ a',FR n D a' ((t,v)::F)->wpList P ops Q rest a' w):wpList P ops Q (o::rest) a w:=aXo (hb:=hb) (hA:=hA) (kk:=kk) (congrArg (·.1) c) (congrArg (·.2.1) c) (congrArg (·.2.2.1) c) (congrArg (·.2.2.2.1) c) (congrArg (·.2.2.2.2.1) c) (congrArg (·.2.2.2.2.2) c)
theorem bGa {j t:Nat} {b c:Bool} (hb:c=b) (hA:FR n D a F) (h:wpList P ops Q ({ o with guard:=none }::rest) a w) (hg:o.guard=some (j,b):=by rfl) (d:(ops[j]?).bind (·.dst)=some t:=by rfl) (e:lk F t=some (.bool c):=by rfl):wpList P ops Q (o::rest) a w:=by subst hb;exact aY4 hA hg d e h
theorem aI {j t:Nat} {b d:Bool} (hb:d=b) (hA:FR n D a F) (h:wpList P ops Q ({ o with guard:=none }::rest) a w) (c:(o.guard,(ops[j]?).bind (·.dst),lk F t)=(some (j,b),some t,some (.bool d))):wpList P ops Q (o::rest) a w:=bGa (hb:=hb) (hA:=hA) (h:=h) (congrArg (·.1) c) (congrArg (·.2.1) c) (congrArg (·.2.2) c)
theorem bD4 {j t t':Nat} {b c:Bool} (hb:c = !b) (hA:FR n D a F) (kk:∀ a',FR n D a' ((t',undef)::F)->wpList P ops Q rest a' w) (hg:o.guard=some (j,b):=by rfl) (d:(ops[j]?).bind (·.dst)=some t:=by rfl) (e:lk F t=some (.bool c):=by rfl) (hd:o.dst=some t':=by rfl) (ht:Nat.blt t' n=true:=by rfl):wpList P ops Q (o::rest) a w :=
 aVh hA hg d e (by subst hb;cases b <;> rfl) hd (by have:=Nat.le_of_ble_eq_true ht;omega) kk
theorem c_t {cx cy:Code} {b:Bool} (hb:b=true) (hA:FR n D a F) (d:cx.wp P Q a w) (hc:ev F c=some (.bool b):=by rfl):(Code.cond c cx cy).wp P Q a w:=wp_cond_true (by rw [hA.ev hc,hb]) d
theorem c_f {cx cy:Code} {b:Bool} (hb:b=false) (hA:FR n D a F) (d:cy.wp P Q a w) (hc:ev F c=some (.bool b):=by rfl):(Code.cond c cx cy).wp P Q a w:=wp_cond_false (by rw [hA.ev hc,hb]) d
theorem aOi {cs:List Value} (hA:FR n D a F) (hS:SH r L w) (kk:∀ g a' w',SH r (blk g T cs::L) w'->FR n D a' ((t,.pointer (some ⟨g,0,none⟩))::F)->wpList P ops Q rest a' w')
  (b:o.op=.box T x:=by rfl) (hx:ev F x=some v:=by rfl) (c:v.cells=cs.toArray:=by rfl) (hd:o.dst=some t:=by rfl) (hg:o.guard=none:=by rfl) (ht:Nat.blt t n=true:=by rfl):wpList P ops Q (o::rest) a w :=
 mG hg λK hK=>bBh hS b (hA.ev hx) c λg w' d=>hK _ _ (kk g _ w' d (by rw [hd];exact hA.put t _ (by have:=Nat.le_of_ble_eq_true ht;omega)))
theorem lE {cs:List Value} (hA:FR n D a F) (hS:SH r L w) (b:(o.op,ev F x,v.cells,o.dst,o.guard,Nat.blt t n)=(.box T x,some v,cs.toArray,some t,none,true)) (kk:∀ g a' w',SH r (blk g T cs::L) w'->FR n D a' ((t,.pointer (some ⟨g,0,none⟩))::F)->wpList P ops Q rest a' w'):wpList P ops Q (o::rest) a w:=aOi (hA:=hA) (hS:=hS) (kk:=kk) (congrArg (·.1) b) (congrArg (·.2.1) b) (congrArg (·.2.2.1) b) (congrArg (·.2.2.2.1) b) (congrArg (·.2.2.2.2.1) b) (congrArg (·.2.2.2.2.2) b)
theorem aMl {cs:List Value} {z:Value} (hz:(P.info? T).bind (·.zero)=some z) (hA:FR n D a F) (hS:SH r L w) (kk:∀ g a' w',SH r (blk g T cs::L) w'->FR n D a' ((t,.pointer (some ⟨g,0,none⟩))::F)->wpList P ops Q rest a' w')
  (b:o.op=.alloc T:=by rfl) (c:z.cells=cs.toArray:=by rfl) (hd:o.dst=some t:=by rfl) (hg:o.guard=none:=by rfl) (ht:Nat.blt t n=true:=by rfl):wpList P ops Q (o::rest) a w :=
 mG hg λK hK=>aQf hS b hz c λg w' d=>hK _ _ (kk g _ w' d (by rw [hd];exact hA.put t _ (by have:=Nat.le_of_ble_eq_true ht;omega)))
theorem eS {cs:List Value} {z:Value} (hz:(P.info? T).bind (·.zero)=some z) (hA:FR n D a F) (hS:SH r L w) (b:(o.op,z.cells,o.dst,o.guard,Nat.blt t n)=(.alloc T,cs.toArray,some t,none,true)) (kk:∀ g a' w',SH r (blk g T cs::L) w'->FR n D a' ((t,.pointer (some ⟨g,0,none⟩))::F)->wpList P ops Q rest a' w'):wpList P ops Q (o::rest) a w:=aMl (hz:=hz) (hA:=hA) (hS:=hS) (kk:=kk) (congrArg (·.1) b) (congrArg (·.2.1) b) (congrArg (·.2.2.1) b) (congrArg (·.2.2.2.1) b) (congrArg (·.2.2.2.2) b)
theorem bDu {m:Nat} {parts:Array (Nat×Operand)} {ps:Array (Nat×Value)} {cells:List Value} {xs:List α}
  (hr:∀ w:World,(Instr.buildSlice t' m ps).run P w=.ok (.slice (some ⟨w.heap.size,0,none⟩) m m) (w.alloc (.cells cells.toArray e))) (hm:xs.length=m) (hL:Lay d xs cells) (hA:FR n D a F) (hS:SH r L w)
  (kk:∀ g a' w',SH r (own d e (some ⟨g,0,none⟩) m m xs::L) w'->FR n D a' ((t,.slice (some ⟨g,0,none⟩) m m)::F)->wpList P ops Q rest a' w')
  (b:o.op=.buildSlice t' m parts:=by rfl) (hx:parts.toList.map (λp=>(p.1,ev F p.2))=ps.toList.map (λp=>(p.1,some p.2)):=by rfl) (c:Nat.ble m 65536=true:=by rfl) (hd:o.dst=some t:=by rfl) (hg:o.guard=none:=by rfl) (ht:Nat.blt t n=true:=by rfl):wpList P ops Q (o::rest) a w :=
 mG hg λK hK=>aFa hS b (ps:=ps) (by
  have key:∀ (l:List (Nat×Operand)) (q:List (Nat×Value)),l.map (λp=>(p.1,ev F p.2))=q.map (λp=>(p.1,some p.2))->l.map (λp=>(p.1,a.eval p.2))=q:=by
   intro l
   induction l with
   | nil=>intro q h;cases q with | nil=>rfl | cons _ _=>cases h
   | cons p l ih =>
    intro q h;cases q with
    | nil=>cases h
    | cons p' q =>
     simp only [List.map_cons,List.cons.injEq,Prod.mk.injEq] at h ⊢;exact⟨Prod.ext h.1.1 (hA.ev h.1.2),ih q h.2⟩
  apply Array.ext';rw [Array.toList_map];exact key _ _ hx) hr hm (by have:=Nat.le_of_ble_eq_true c;simp only [maxLen];omega) hL λg w' f=>hK _ _ (kk g _ w' f (by rw [hd];exact hA.put t _ (by have:=Nat.le_of_ble_eq_true ht;omega)))
theorem jD {m:Nat} {parts:Array (Nat×Operand)} {ps:Array (Nat×Value)} {cells:List Value} {xs:List α}
  (hr:∀ w:World,(Instr.buildSlice t' m ps).run P w=.ok (.slice (some ⟨w.heap.size,0,none⟩) m m) (w.alloc (.cells cells.toArray e))) (hm:xs.length=m) (hL:Lay d xs cells) (hA:FR n D a F) (hS:SH r L w) (b:(o.op,parts.toList.map (λp=>(p.1,ev F p.2)),Nat.ble m 65536,o.dst,o.guard,Nat.blt t n)=(.buildSlice t' m parts,ps.toList.map (λp=>(p.1,some p.2)),true,some t,none,true)) (kk:∀ g a' w',SH r (own d e (some ⟨g,0,none⟩) m m xs::L) w'->FR n D a' ((t,.slice (some ⟨g,0,none⟩) m m)::F)->wpList P ops Q rest a' w'):wpList P ops Q (o::rest) a w:=bDu (hr:=hr) (hm:=hm) (hL:=hL) (hA:=hA) (hS:=hS) (kk:=kk) (congrArg (·.1) b) (congrArg (·.2.1) b) (congrArg (·.2.2.1) b) (congrArg (·.2.2.2.1) b) (congrArg (·.2.2.2.2.1) b) (congrArg (·.2.2.2.2.2) b)
theorem bD3 {l:Operand} {kl:IntKind} {m:Int} {z:Value} {bytes:Nat} (z0:α) (hi:(P.info? e).map (λi=>(i.zero,i.size,i.bytes))=some (some z,d.sz,bytes)) (hz:d.V z0 z.cells.toList) (ht':P.underlying t'=some (.slice e)) (hm:0<=m/\(bytes:Int) * m<=140737488355328) (hA:FR n D a F) (hS:SH r L w)
  (kk:∀ g a' w',SH r (own d e (some ⟨g,0,none⟩) m.toNat m.toNat (List.replicate m.toNat z0)::L) w'->FR n D a' ((t,.slice (some ⟨g,0,none⟩) m.toNat m.toNat)::F)->wpList P ops Q rest a' w')
  (hb:Nat.blt 0 bytes=true:=by rfl) (b:o.op=.makeSlice t' l l:=by rfl) (hl:ev F l=some (.int kl m):=by rfl) (hd:o.dst=some t:=by rfl) (hg:o.guard=none:=by rfl) (ht:Nat.blt t n=true:=by rfl):wpList P ops Q (o::rest) a w :=
 mG hg λK hK=>aNb hS ht' hi b (hA.ev hl) hz hm.1 hm.2 (by have:=Nat.le_of_ble_eq_true hb;omega) λg w' c=>hK _ _ (kk g _ w' c (by rw [hd];exact hA.put t _ (by have:=Nat.le_of_ble_eq_true ht;omega)))
theorem aP0 {l:Operand} {kl:IntKind} {m:Int} {z:Value} {bytes:Nat} (z0:α) (hi:(P.info? e).map (λi=>(i.zero,i.size,i.bytes))=some (some z,d.sz,bytes)) (hz:d.V z0 z.cells.toList) (ht':P.underlying t'=some (.slice e)) (hm:0<=m/\(bytes:Int) * m<=140737488355328) (hA:FR n D a F) (hS:SH r L w) (b:(Nat.blt 0 bytes,o.op,ev F l,o.dst,o.guard,Nat.blt t n)=(true,.makeSlice t' l l,some (.int kl m),some t,none,true)) (kk:∀ g a' w',SH r (own d e (some ⟨g,0,none⟩) m.toNat m.toNat (List.replicate m.toNat z0)::L) w'->FR n D a' ((t,.slice (some ⟨g,0,none⟩) m.toNat m.toNat)::F)->wpList P ops Q rest a' w'):wpList P ops Q (o::rest) a w:=bD3 (z0:=z0) (hi:=hi) (hz:=hz) (ht':=ht') (hm:=hm) (hA:=hA) (hS:=hS) (kk:=kk) (congrArg (·.1) b) (congrArg (·.2.1) b) (congrArg (·.2.2.1) b) (congrArg (·.2.2.2.1) b) (congrArg (·.2.2.2.2.1) b) (congrArg (·.2.2.2.2.2) b)
theorem aY6 (q:Nat) {z:Value} {bytes n1 c1 n2 c2:Nat} {A A2:Option Addr} {xs ys:List α} {L':List HP} (hi:(P.info? e).map (λi=>(i.zero,i.size,i.bytes))=some (some z,d.sz,bytes)) (ht':P.underlying t'=some (.slice e)) (hA:FR n D a F) (hS:SH r L w) (hr:Rd d w A2 ys) (hn2:ys.length=n2)
  (hb:xs.length+ys.length<=140737488355328 / bytes) (hL:pk q L=own d e A n1 c1 xs::L')
  (kk:∀ b c f a' w',SH r (own d e b c f (xs++ys)::L') w'->FR n D a' ((t,.slice b c f)::F)->wpList P ops Q rest a' w')
  (hz:z.cells.size=d.sz:=by rfl) (g:Nat.blt 0 d.sz=true:=by rfl) (h:Nat.blt 0 bytes=true:=by rfl) (j:o.op=.call { callee:=.builtin .append,args:=#[x,y],argTypes:=#[t',t'] }:=by rfl) (hx:ev F x=some (.slice A n1 c1):=by rfl) (k:ev F y=some (.slice A2 n2 c2):=by rfl)
  (hd:o.dst=some t:=by rfl) (hg:o.guard=none:=by rfl) (ht:Nat.blt t n=true:=by rfl):wpList P ops Q (o::rest) a w :=
 have p:=Nat.le_of_ble_eq_true h;have l:(xs.length+ys.length) * bytes<=140737488355328:=Nat.le_trans (Nat.mul_le_mul_right _ hb) (Nat.div_mul_le_self _ _)
 mG hg λK hK=>aNa q hS hL ht' hi hz (by have:=Nat.le_of_ble_eq_true g;omega) j (hA.ev hx) (hA.ev k) hr hn2 (by
  have s:(xs.length+ys.length) * 1<=(xs.length+ys.length) * bytes:=Nat.mul_le_mul_left _ (by omega);simp only [maxLen];omega) l λb c f w' m=>hK _ _ (kk b c f _ w' m (by rw [hd];exact hA.put t _ (by have:=Nat.le_of_ble_eq_true ht;omega)))
theorem jC (q:Nat) {z:Value} {bytes n1 c1 n2 c2:Nat} {A A2:Option Addr} {xs ys:List α} {L':List HP} (hi:(P.info? e).map (λi=>(i.zero,i.size,i.bytes))=some (some z,d.sz,bytes)) (ht':P.underlying t'=some (.slice e)) (hA:FR n D a F) (hS:SH r L w) (hr:Rd d w A2 ys) (hn2:ys.length=n2)
  (hb:xs.length+ys.length<=140737488355328 / bytes) (hL:pk q L=own d e A n1 c1 xs::L') (b:(z.cells.size,Nat.blt 0 d.sz,Nat.blt 0 bytes,o.op,ev F x,ev F y,o.dst,o.guard,Nat.blt t n)=(d.sz,true,true,.call { callee:=.builtin .append,args:=#[x,y],argTypes:=#[t',t'] },some (.slice A n1 c1),some (.slice A2 n2 c2),some t,none,true)) (kk:∀ c f g a' w',SH r (own d e c f g (xs++ys)::L') w'->FR n D a' ((t,.slice c f g)::F)->wpList P ops Q rest a' w'):wpList P ops Q (o::rest) a w:=aY6 (q:=q) (hi:=hi) (ht':=ht') (hA:=hA) (hS:=hS) (hr:=hr) (hn2:=hn2) (hb:=hb) (hL:=hL) (kk:=kk) (congrArg (·.1) b) (congrArg (·.2.1) b) (congrArg (·.2.2.1) b) (congrArg (·.2.2.2.1) b) (congrArg (·.2.2.2.2.1) b) (congrArg (·.2.2.2.2.2.1) b) (congrArg (·.2.2.2.2.2.2.1) b) (congrArg (·.2.2.2.2.2.2.2.1) b) (congrArg (·.2.2.2.2.2.2.2.2) b)
theorem aRg (q:Nat) {g off:Nat} {cs vs:List Value} {L':List HP} (hi:(P.info? t').map (·.size)=some vs.length) (hA:FR n D a F) (hS:SH r L w) (hL:pk q L=blk g T cs::L')
  (kk:∀ a' w',SH r (blk g T (lD cs off vs)::L') w'->FR n D a' F->wpList P ops Q rest a' w')
  (c:o.op=.store t' x y:=by rfl) (hx:ev F x=some (.pointer (some ⟨g,off,none⟩)):=by rfl) (d:ev F y=some v:=by rfl) (b:v.cells.toList=vs:=by rfl) (e:vs.all (·.oneCell')=true:=by rfl) (hl:Nat.ble (off+vs.length) cs.length=true:=by rfl) (hd:o.dst=none:=by rfl) (hg:o.guard=none:=by rfl):wpList P ops Q (o::rest) a w :=
 mG hg λK hK=>aGq q hS hL c (hA.ev hx) (hA.ev d) b (λv b=>List.all_eq_true.1 e v b) (Nat.le_of_ble_eq_true hl) hi λw' f=>hK _ _ (kk _ w' f (by rw [hd];exact hA))
theorem eA (q:Nat) {g off:Nat} {cs vs:List Value} {L':List HP} (hi:(P.info? t').map (·.size)=some vs.length) (hA:FR n D a F) (hS:SH r L w) (hL:pk q L=blk g T cs::L') (b:(o.op,ev F x,ev F y,v.cells.toList,vs.all (·.oneCell'),Nat.ble (off+vs.length) cs.length,o.dst,o.guard)=(.store t' x y,some (.pointer (some ⟨g,off,none⟩)),some v,vs,true,true,none,none)) (kk:∀ a' w',SH r (blk g T (lD cs off vs)::L') w'->FR n D a' F->wpList P ops Q rest a' w'):wpList P ops Q (o::rest) a w:=aRg (q:=q) (hi:=hi) (hA:=hA) (hS:=hS) (hL:=hL) (kk:=kk) (congrArg (·.1) b) (congrArg (·.2.1) b) (congrArg (·.2.2.1) b) (congrArg (·.2.2.2.1) b) (congrArg (·.2.2.2.2.1) b) (congrArg (·.2.2.2.2.2.1) b) (congrArg (·.2.2.2.2.2.2.1) b) (congrArg (·.2.2.2.2.2.2.2) b)
theorem aVn (q:Nat) {A:Option Addr} {n1 c1 off j:Nat} {xs:List α} {z z':α} {vs:List Value} {L':List HP} (hi:(P.info? t').map (·.size)=some vs.length) (hA:FR n D a F) (hS:SH r L w) (hL:pk q L=own d e A n1 c1 xs::L') (f:xs[j]?=some z) (g:∀ c,d.V z c->d.V z' (lD c off vs))
  (kk:∀ a' w',SH r (own d e A n1 c1 (xs.set j z')::L') w'->FR n D a' F->wpList P ops Q rest a' w')
  (h:o.op=.store t' x y:=by rfl) (hx:ev F x=some (.pointer (some (ea A (j * d.sz+off)))):=by rfl) (i:ev F y=some v:=by rfl) (b:v.cells.toList=vs:=by rfl) (k:vs.all (·.oneCell')=true:=by rfl) (hl:Nat.ble (off+vs.length) d.sz=true:=by rfl) (hd:o.dst=none:=by rfl) (hg:o.guard=none:=by rfl):wpList P ops Q (o::rest) a w :=
 mG hg λK hK=>aGr q hS hL h (hA.ev hx) (hA.ev i) b (λv b=>List.all_eq_true.1 k v b) (Nat.le_of_ble_eq_true hl) hi f g λw' l=>hK _ _ (kk _ w' l (by rw [hd];exact hA))
theorem evs (hA:FR n D a F) {az:Array Operand} {vals:Array Value} (h:az.toList.map (ev F)=vals.toList.map some):az.map a.eval=vals:=by
 have key:∀ (l:List Operand) (q:List Value),l.map (ev F)=q.map some->l.map a.eval=q:=by
  intro l
  induction l with
  | nil=>intro q h;cases q with | nil=>rfl | cons _ _=>cases h
  | cons p l ih =>
   intro q h;cases q with
   | nil=>cases h
   | cons p' q =>
    simp only [List.map_cons,List.cons.injEq] at h ⊢;exact⟨hA.ev h.1,ih q h.2⟩
 apply Array.ext';rw [Array.toList_map];exact key _ _ h
theorem aJg {f:FuncId} {az:Array Operand} {ts:Array TypeId} {vals:Array Value} {R:Value->World->Prop} (hf:EN P f) (hA:FR n D a F) (hC:Ret P f vals w R) (kk:∀ v a' w',R v w'->FR n D a' ((t,v)::F)->wpList P ops Q rest a' w')
  (b:o.op=.call { callee:=.value (.func f),args:=az,argTypes:=ts }:=by rfl) (c:az.toList.map (ev F)=vals.toList.map some:=by rfl) (hd:o.dst=some t:=by rfl) (hg:o.guard=none:=by rfl) (ht:Nat.blt t n=true:=by rfl):wpList P ops Q (o::rest) a w :=
 mG hg λK hK=>aTl hf b (evs hA c) hC λv w' d=>hK _ _ (kk v _ w' d (by rw [hd];exact hA.put t _ (by have:=Nat.le_of_ble_eq_true ht;omega)))
theorem bEk {f:FuncId} {az:Array Operand} {ts:Array TypeId} {vals:Array Value} {R:Value->World->Prop} (hf:EN P f) (hA:FR n D a F) (hC:Ret P f vals w R) (b:(o.op,az.toList.map (ev F),o.dst,o.guard,Nat.blt t n)=(.call { callee:=.value (.func f),args:=az,argTypes:=ts },vals.toList.map some,some t,none,true)) (kk:∀ v a' w',R v w'->FR n D a' ((t,v)::F)->wpList P ops Q rest a' w'):wpList P ops Q (o::rest) a w:=aJg (hf:=hf) (hA:=hA) (hC:=hC) (kk:=kk) (congrArg (·.1) b) (congrArg (·.2.1) b) (congrArg (·.2.2.1) b) (congrArg (·.2.2.2.1) b) (congrArg (·.2.2.2.2) b)
theorem aXj {f:FuncId} {fx:Operand} {az:Array Operand} {ts:Array TypeId} {vals caps vs:Array Value} {R:Value->World->Prop} (hf:EN P f) (hA:FR n D a F) (hC:Ret P f vals w R) (kk:∀ v a' w',R v w'->FR n D a' ((t,v)::F)->wpList P ops Q rest a' w')
  (b:o.op=.call { callee:=.value fx,args:=az,argTypes:=ts }:=by rfl) (c:ev F fx=some (.func (.func f) #[] caps):=by rfl) (d:az.toList.map (ev F)=vs.toList.map some:=by rfl) (e:vs++caps=vals:=by rfl) (hd:o.dst=some t:=by rfl) (hg:o.guard=none:=by rfl) (ht:Nat.blt t n=true:=by rfl):wpList P ops Q (o::rest) a w :=
 mG hg λK hK=>aV8 hf b (hA.ev c) (by rw [evs hA d];exact e) hC λv w' g=>hK _ _ (kk v _ w' g (by rw [hd];exact hA.put t _ (by have:=Nat.le_of_ble_eq_true ht;omega)))
theorem bDw {f:FuncId} {fx:Operand} {az:Array Operand} {ts:Array TypeId} {vals caps vs:Array Value} {R:Value->World->Prop} (hf:EN P f) (hA:FR n D a F) (hC:Ret P f vals w R) (b:(o.op,ev F fx,az.toList.map (ev F),vs++caps,o.dst,o.guard,Nat.blt t n)=(.call { callee:=.value fx,args:=az,argTypes:=ts },some (.func (.func f) #[] caps),vs.toList.map some,vals,some t,none,true)) (kk:∀ v a' w',R v w'->FR n D a' ((t,v)::F)->wpList P ops Q rest a' w'):wpList P ops Q (o::rest) a w:=aXj (hf:=hf) (hA:=hA) (hC:=hC) (kk:=kk) (congrArg (·.1) b) (congrArg (·.2.1) b) (congrArg (·.2.2.1) b) (congrArg (·.2.2.2.1) b) (congrArg (·.2.2.2.2.1) b) (congrArg (·.2.2.2.2.2.1) b) (congrArg (·.2.2.2.2.2.2) b)
theorem SH.cell (hS:SH r L w) (q:Nat) {g:Nat} {cs:List Value} (h:L[q]?=some (blk g T cs)):∀ off v,cs[off]?=some v->w.cell? ⟨g,off,none⟩=some v:=by intro off v a;obtain⟨S,hb⟩:=hS.get q h;simp [World.cell?,hb.2,a]
theorem SH.rd (hS:SH r L w) (q:Nat) {A:Option Addr} {m c:Nat} {xs:List α} (h:L[q]?=some (own d e A m c xs)):Rd d w A xs/\xs.length=m/\m<=c/\c<=maxLen:=by obtain⟨S,hb⟩:=hS.get q h;have:=aCm hb;exact⟨aL3 hb,hb.1,by rw [← hb.1];exact this.1,this.2⟩
theorem SH.rdl (hS:SH r L w) (q:Nat) {L0:List HP} {A:Option Addr} {m c:Nat} {xs:List α} (h:RdL L0 d A m c xs) (hL:L.drop q=L0):Rd d w A xs/\xs.length=m/\m<=c/\c<=maxLen:=⟨h.rd w _ (hL▸hS.sfx q),h.ln,by rw [← h.ln];exact h.le,h.mx⟩
theorem SH.imm (hS:SH r L w) (q:Nat) {Z:Nat->Prop} {wz:World} {A:Option Addr} {m c:Nat} {xs:List α} (h:Imm Z wz d A m c xs) (hL:L[q]?=some (zone Z wz)):Rd d w A xs/\xs.length=m/\m<=c/\c<=maxLen:=⟨(h.rdl q hL).rd w _ hS.sep,h.ln,by rw [← h.ln];exact h.le,h.mx⟩
theorem bD2 {A:Option Addr} {m c:Nat} {xs:List α} (hu:P.underlying t'=some (.slice e)) (hn:xs.length=m) (hA:FR n D a F) (kk:∀ a',FR n D a' ((t,.int .i64 (xs.length:Int))::F)->wpList P ops Q rest a' w)
  (b:o.op=.call { callee:=.builtin .len,args:=#[x],argTypes:=#[t'] }:=by rfl) (hx:ev F x=some (.slice A m c):=by rfl) (hd:o.dst=some t:=by rfl) (hg:o.guard=none:=by rfl) (ht:Nat.blt t n=true:=by rfl):wpList P ops Q (o::rest) a w :=
 eK hA (by rw [hn];exact aCw hu b (hA.ev hx)) kk hd hg ht
theorem aX {A:Option Addr} {m c:Nat} {xs:List α} (hu:P.underlying t'=some (.slice e)) (hn:xs.length=m) (hA:FR n D a F) (b:(o.op,ev F x,o.dst,o.guard,Nat.blt t n)=(.call { callee:=.builtin .len,args:=#[x],argTypes:=#[t'] },some (.slice A m c),some t,none,true)) (kk:∀ a',FR n D a' ((t,.int .i64 (xs.length:Int))::F)->wpList P ops Q rest a' w):wpList P ops Q (o::rest) a w:=bD2 (hu:=hu) (hn:=hn) (hA:=hA) (kk:=kk) (congrArg (·.1) b) (congrArg (·.2.1) b) (congrArg (·.2.2.1) b) (congrArg (·.2.2.2.1) b) (congrArg (·.2.2.2.2) b)
theorem bAw {A:Option Addr} {m c sz:Nat} {xs:List α} {z:α} (hu:P.underlying t'=some (.slice e)) (hi:(P.info? e).map (·.size)=some sz) (hr:Rd d w A xs/\xs.length=m/\m<=c/\c<=maxLen) (hz:at_ xs i=some z) (hA:FR n D a F)
  (kk:∀ a',FR n D a' ((t,.pointer (some (ea A (i.toNat * sz))))::F)->wpList P ops Q rest a' w)
  (b:o.op=.indexAddr t' x y:=by rfl) (hx:ev F x=some (.slice A m c):=by rfl) (f:ev F y=some (.int k i):=by rfl) (hd:o.dst=some t:=by rfl) (hg:o.guard=none:=by rfl) (ht:Nat.blt t n=true:=by rfl):wpList P ops Q (o::rest) a w :=
 have h:=jL hz
 eK hA (aGx hu hi b (hA.ev hx) (hA.ev f) (hr.1.isSome_ h.1 h.2.1) h.1 (by have:=hr.2.1;omega)) kk hd hg ht
theorem dT {A:Option Addr} {m c sz:Nat} {xs:List α} {z:α} (hu:P.underlying t'=some (.slice e)) (hi:(P.info? e).map (·.size)=some sz) (hr:Rd d w A xs/\xs.length=m/\m<=c/\c<=maxLen) (hz:at_ xs i=some z) (hA:FR n D a F) (b:(o.op,ev F x,ev F y,o.dst,o.guard,Nat.blt t n)=(.indexAddr t' x y,some (.slice A m c),some (.int k i),some t,none,true)) (kk:∀ a',FR n D a' ((t,.pointer (some (ea A (i.toNat * sz))))::F)->wpList P ops Q rest a' w):wpList P ops Q (o::rest) a w:=bAw (hu:=hu) (hi:=hi) (hr:=hr) (hz:=hz) (hA:=hA) (kk:=kk) (congrArg (·.1) b) (congrArg (·.2.1) b) (congrArg (·.2.2.1) b) (congrArg (·.2.2.2.1) b) (congrArg (·.2.2.2.2.1) b) (congrArg (·.2.2.2.2.2) b)
theorem el {A:Option Addr} {m c:Nat} {xs:List α} {z:α} (hr:Rd d w A xs/\xs.length=m/\m<=c/\c<=maxLen) (hz:at_ xs i=some z):∃ cs,d.V z cs/\∀ q u,cs[q]?=some u->w.cell? (ea A (i.toNat * d.sz+q))=some u:=hr.1.elem (jL hz).2.2
theorem aPz {dd:TypeDesc} {ad:Addr} (hu:P.underlying t'=some dd) (hc:w.cell? ad=some v) (hA:FR n D a F) (kk:∀ a',FR n D a' ((t,v)::F)->wpList P ops Q rest a' w) (hf:aF7 dd=true:=by rfl)
  (b:o.op=.load t' x:=by rfl) (hx:ev F x=some (.pointer (some ad)):=by rfl) (hd:o.dst=some t:=by rfl) (hg:o.guard=none:=by rfl) (ht:Nat.blt t n=true:=by rfl):wpList P ops Q (o::rest) a w :=
 eK hA (aUw hu hf b (hA.ev hx) hc) kk hd hg ht
theorem aK {dd:TypeDesc} {ad:Addr} (hu:P.underlying t'=some dd) (hc:w.cell? ad=some v) (hA:FR n D a F) (b:(aF7 dd,o.op,ev F x,o.dst,o.guard,Nat.blt t n)=(true,.load t' x,some (.pointer (some ad)),some t,none,true)) (kk:∀ a',FR n D a' ((t,v)::F)->wpList P ops Q rest a' w):wpList P ops Q (o::rest) a w:=aPz (hu:=hu) (hc:=hc) (hA:=hA) (kk:=kk) (congrArg (·.1) b) (congrArg (·.2.1) b) (congrArg (·.2.2.1) b) (congrArg (·.2.2.2.1) b) (congrArg (·.2.2.2.2.1) b) (congrArg (·.2.2.2.2.2) b)
theorem bD1 {dd:TypeDesc} {ad:Addr} {cs:List Value} (hu:P.underlying t'=some dd) (hi:(P.info? t').map (·.size)=some cs.length) (hc:∀ j u,cs[j]?=some u->w.cell? (ad.add j)=some u) (hA:FR n D a F) (kk:∀ a',FR n D a' ((t,.agg cs.toArray)::F)->wpList P ops Q rest a' w) (hf:aF7 dd=false:=by rfl)
  (b:o.op=.load t' x:=by rfl) (hx:ev F x=some (.pointer (some ad)):=by rfl) (hd:o.dst=some t:=by rfl) (hg:o.guard=none:=by rfl) (ht:Nat.blt t n=true:=by rfl):wpList P ops Q (o::rest) a w :=
 eK hA (aKh hu hf hi b (hA.ev hx) hc) kk hd hg ht
theorem hY {dd:TypeDesc} {ad:Addr} {cs:List Value} (hu:P.underlying t'=some dd) (hi:(P.info? t').map (·.size)=some cs.length) (hc:∀ j u,cs[j]?=some u->w.cell? (ad.add j)=some u) (hA:FR n D a F) (b:(aF7 dd,o.op,ev F x,o.dst,o.guard,Nat.blt t n)=(false,.load t' x,some (.pointer (some ad)),some t,none,true)) (kk:∀ a',FR n D a' ((t,.agg cs.toArray)::F)->wpList P ops Q rest a' w):wpList P ops Q (o::rest) a w:=bD1 (hu:=hu) (hi:=hi) (hc:=hc) (hA:=hA) (kk:=kk) (congrArg (·.1) b) (congrArg (·.2.1) b) (congrArg (·.2.2.1) b) (congrArg (·.2.2.2.1) b) (congrArg (·.2.2.2.2.1) b) (congrArg (·.2.2.2.2.2) b)
section cuts
variable {A:Option Addr} {m c1 sz:Nat} {l u:Int} {kl kh:IntKind} {lo hi:Operand} {xs ys:List α} {L0:List HP}
end cuts
theorem aZ {fn : Func} {f : FuncId} (hf : P.funcs[f]? = some fn) (a : (fn.name == "runtime.NumGoroutine") = false) (hb : fn.body.isSome = true) : EN P f := by
 intro args w;have d:fn.body.isNone=false:=by cases h:fn.body <;> simp_all
 have b : ¬ fn.name = "runtime.NumGoroutine" := by simpa using a
 have c:¬ fn.body=none:=by intro h;rw [h] at hb;cases hb
 simp [callFunc,hf,b,c]
end
section
variable {P:Program} {ops:Array Oper} {Q:Exit->Act->World->Prop} {rest:List Oper} {o:Oper} {a:Act} {w w':World} {K:Act->World->Prop}
 {n:Nat} {D:List Deferred} {F:List (Nat×Value)} {r:World} {L:List HP} {α:Type} {d:Kd α} {x y c:Operand} {t' e T xt yt:TypeId} {v:Value} {t:Nat} {k:IntKind} {i j:Int} {s u:List UInt8}
theorem aY7 {s i off g b:Nat} (hf:FA P s i off) (hA:FR n D a F) (kk:∀ a',FR n D a' ((t,.pointer (some ⟨g,b+off,none⟩))::F)->wpList P ops Q rest a' w) (c:o.op=.fieldAddr s x i:=by rfl) (hx:ev F x=some (.pointer (some ⟨g,b,none⟩)):=by rfl) (hd:o.dst=some t:=by rfl) (hg:o.guard=none:=by rfl) (ht:Nat.blt t n=true:=by rfl):wpList P ops Q (o::rest) a w :=
 eK hA (by rw [← gJ];exact aAb hf c (hA.ev hx)) kk hd hg ht
theorem aM {s i off g c:Nat} (hf:FA P s i off) (hA:FR n D a F) (b:(o.op,ev F x,o.dst,o.guard,Nat.blt t n)=(.fieldAddr s x i,some (.pointer (some ⟨g,c,none⟩)),some t,none,true)) (kk:∀ a',FR n D a' ((t,.pointer (some ⟨g,c+off,none⟩))::F)->wpList P ops Q rest a' w):wpList P ops Q (o::rest) a w:=aY7 (hf:=hf) (hA:=hA) (kk:=kk) (congrArg (·.1) b) (congrArg (·.2.1) b) (congrArg (·.2.2.1) b) (congrArg (·.2.2.2.1) b) (congrArg (·.2.2.2.2) b)
theorem xQ {s i off m:Nat} {A:Option Addr} (hf:FA P s i off) (hA:FR n D a F) (kk:∀ a',FR n D a' ((t,.pointer (some (ea A (m+off))))::F)->wpList P ops Q rest a' w) (b:o.op=.fieldAddr s x i:=by rfl) (hx:ev F x=some (.pointer (some (ea A m))):=by rfl) (hd:o.dst=some t:=by rfl) (hg:o.guard=none:=by rfl) (ht:Nat.blt t n=true:=by rfl):wpList P ops Q (o::rest) a w :=
 eK hA (by rw [← gM];exact aAb hf b (hA.ev hx)) kk hd hg ht
theorem lS (hA:FR n D a F) {az:Array Operand} {vals:Array Value} (h:az.toList.map (ev F)=vals.toList.map some):az.map a.eval=vals:=evs hA h
theorem lN (hA:FR n D a F) {parts:Array (Nat×Operand)} {ps:Array (Nat×Value)} (hx:parts.toList.map (λp=>(p.1,ev F p.2))=ps.toList.map (λp=>(p.1,some p.2))):parts.map (λ(i,x)=>(i,a.eval x))=ps:=by
 have key:∀ (l:List (Nat×Operand)) (q:List (Nat×Value)),l.map (λp=>(p.1,ev F p.2))=q.map (λp=>(p.1,some p.2))->l.map (λp=>(p.1,a.eval p.2))=q:=by
  intro l
  induction l with
  | nil=>intro q h;cases q with | nil=>rfl | cons _ _=>cases h
  | cons p l ih =>
   intro q h;cases q with
   | nil=>cases h
   | cons p' q =>
    simp only [List.map_cons,List.cons.injEq,Prod.mk.injEq] at h ⊢;exact⟨Prod.ext h.1.1 (hA.ev h.1.2),ih q h.2⟩
 apply Array.ext';rw [Array.toList_map];exact key _ _ hx
theorem SH.dropN {L:List HP} (h:SH r L w) (m:Nat):SH r (L.drop m) w:=⟨h.os,h.tape,h.output,h.sfx m⟩
def tQ {α:Type} (f:Nat->α->HP) (p:Option Addr) (o:Option α):HP where
 P w S:=match o with
  | none=>p=none
  | some x=>∃ g,p=some ⟨g,0,none⟩/\(f g x).P w S
 fr:=λ{w w' S} h hk=>by
  cases o with
  | none=>exact h
  | some x=>obtain⟨g,hp,h⟩:=h;exact⟨g,hp,(f g x).fr h hk⟩
 mono:=λ{w S S'} h hs=>by
  cases o with
  | none=>exact h
  | some x=>obtain⟨g,hp,h⟩:=h;exact⟨g,hp,(f g x).mono h hs⟩
theorem SH.optN {α:Type} (f:Nat->α->HP) {L:List HP} (h:SH r L w):SH r (tQ f none none::L) w :=
 ⟨h.os,h.tape,h.output,λ_=>False,_,λ_ h=>h.elim,λ_ h=>h,λ_ h=>h.elim,rfl,h.sep⟩
theorem SH.optS {α:Type} {f:Nat->α->HP} {g:Nat} {x:α} {L:List HP} (h:SH r (f g x::L) w):SH r (tQ f (some ⟨g,0,none⟩) (some x)::L) w:=h.imp λ_ h=>⟨g,rfl,h⟩
theorem SH.unoptN {α:Type} {f:Nat->α->HP} {p:Option Addr} {L:List HP} (h:SH r (tQ f p none::L) w):p=none/\SH r L w:=by obtain⟨S,hp⟩:=h.get 0 rfl;exact⟨hp,h.tail⟩
theorem SH.unoptS {α:Type} {f:Nat->α->HP} {p:Option Addr} {x:α} {L:List HP} (h:SH r (tQ f p (some x)::L) w):∃ g,p=some ⟨g,0,none⟩/\SH r (f g x::L) w:=by obtain⟨S1,a,b,c,hd',⟨g,hp,hA⟩,hL⟩:=h.sep;exact⟨g,hp,h.os,h.tape,h.output,S1,a,b,c,hd',hA,hL⟩
theorem lv2 {fn:Func} {R:Value->World->Prop} {t u:Nat} {b c:Value} (hr:fn.results=#[.tmp t,.tmp u]) (hA:FR n [] a F) (d:lk F t=some b) (f:lk F u=some c) (h:R (.tuple #[b,c]) w):bodyPost P fn (λe w'=>∃ v,e=.returned v/\R v w') .ret a w :=
 bodyPost_ret (by rw [results_tmp2 hr,show a.tmps.getD t undef=b from hA.ev (x:=.tmp t) d,show a.tmps.getD u undef=c from hA.ev (x:=.tmp u) f]) hA.defers ⟨_,rfl,h⟩
theorem lv3 {fn:Func} {R:Value->World->Prop} {t u q:Nat} {b c v3:Value} (hr:fn.results=#[.tmp t,.tmp u,.tmp q]) (hA:FR n [] a F) (d:lk F t=some b) (f:lk F u=some c) (g:lk F q=some v3) (h:R (.tuple #[b,c,v3]) w):bodyPost P fn (λe w'=>∃ v,e=.returned v/\R v w') .ret a w :=
 bodyPost_ret (v:=.tuple #[b,c,v3]) (by
  have i:a.tmps.getD t undef=b:=hA.ev (x:=.tmp t) d;have j:a.tmps.getD u undef=c:=hA.ev (x:=.tmp u) f;have k:a.tmps.getD q undef=v3:=hA.ev (x:=.tmp q) g;rw [← i, ← j, ← k];simp [results,hr]) hA.defers ⟨_,rfl,h⟩
theorem bC2 {fn:Func} {R:Value->World->Prop} {t g ty:Nat} {cs:List Value} {dd:TypeDesc} (hr:fn.results=#[.cell t ty]) (hu:P.underlying ty=some dd) (hi:(P.info? ty).map (·.size)=some cs.length) (hS:SH r L w) (qi:Nat) (b:L[qi]?=some (blk g T cs))
  (hA:FR n [] a F) (c:lk F t=some (.pointer (some ⟨g,0,none⟩))) (hf:aF7 dd=false) (h:R (.agg cs.toArray) w):bodyPost P fn (λe w'=>∃ v,e=.returned v/\R v w') .ret a w :=
 bodyPost_ret (v:=.agg cs.toArray) (by
  have d:a.tmps.getD t undef=.pointer (some ⟨g,0,none⟩):=hA.ev (x:=.tmp t) c;obtain⟨i,f,k⟩:=Option.map_eq_some_iff.1 hi;have l:(isAgg ty).run P w=.ok true w:=by rw [oY hu,hf];rfl
  have hl:=run_loadCells_list (P:=P) w ⟨g,0,none⟩ cs (λj u m=>by rw [gJ,Nat.zero_add];exact hS.cell qi b j u m);have o:(loadVar ty ⟨g,0,none⟩).run P w=.ok (.agg cs.toArray) w:=by simp [loadVar,l,sizeOf,typeInfo,f,k,hl]
  have p:a.tmps[t]?.getD undef=.pointer (some ⟨g,0,none⟩):=by rw [← Array.getD_eq_getD_getElem?];exact d
  simp [results,hr,p,asAddr,o]) hA.defers ⟨_,rfl,h⟩
end
def kI (k:IntKind):Kd Int where
 sz:=1
 V x cs:=cs=[.int k x]
 len h:=by rw [h];rfl
 one h:=by rw [h];simp [Value.oneCell']
def kB:Kd Bool where
 sz:=1
 V x cs:=cs=[.bool x]
 len h:=by rw [h];rfl
 one h:=by rw [h];simp [Value.oneCell']
def kS:Kd (List UInt8) where
 sz:=1
 V x cs:=cs=[str x]
 len h:=by rw [h];rfl
 one h:=by rw [h];simp [Value.oneCell',str]
def kF:Kd Nat where
 sz:=1
 V x cs:=cs=[.float .f64 x]
 len h:=by rw [h];rfl
 one h:=by rw [h];simp [Value.oneCell']
def kM {α:Type} (Z:Nat->Prop) (wz:World) (d:Kd α):Kd (List α) where
 sz:=1
 V x cs:=∃ A n c,cs=[.slice A n c]/\Imm Z wz d A n c x
 len h:=by obtain⟨A,n,c,h,_⟩:=h;rw [h];rfl
 one h:=by obtain⟨A,n,c,h,_⟩:=h;rw [h];simp [Value.oneCell']
theorem aT8 {α:Type} {Z Z':Nat->Prop} {wz wz':World} {d:Kd α} (hs:Sub Z wz Z' wz') (x:List α) (cs:List Value) (h:(kM Z wz d).V x cs):(kM Z' wz' d).V x cs:=by obtain⟨A,n,c,h,a⟩:=h;exact⟨A,n,c,h,a.sub hs⟩
open Classical in
noncomputable def tE {α:Type} (e:Bool) (p q:Option α):Option α:=if e=true then (if p=q then p else none) else q
theorem aYm {α β:Type} {xs:List β} {p q:Option α} {y:α} (hx:xs=[]) (h:tE xs.isEmpty p q=some y):p=some y:=by
 unfold tE at h;subst hx;simp only [List.isEmpty_nil,if_true] at h;split at h
 ·exact h
 ·cases h
theorem aYn {α:Type} {e:Bool} {p q:Option α} {y:α} (h:tE e p q=some y):q=some y:=by
 unfold tE at h;split at h
 ·split at h
  ·rename_i a;rw [← a];exact h
  ·cases h
 ·exact h
theorem RdL.none_nil {α:Type} {L:List HP} {d:Kd α} {n c:Nat} {xs:List α} (h:RdL L d none n c xs) {w:World} {S:Nat->Prop} (hs:Sep L w S):xs=[]:=by
 cases xs with
 | nil=>rfl
 | cons x xs=>obtain⟨ad,e,_⟩:=h.rd w S hs (by simp);cases e
theorem Imm.none_nil {α:Type} {Z:Nat->Prop} {wz:World} {d:Kd α} {n c:Nat} {xs:List α} (h:Imm Z wz d none n c xs):xs=[]:=by
 cases xs with
 | nil=>rfl
 | cons x xs=>obtain⟨ad,e,_⟩:=h.rd (by simp);cases e
theorem Imm.kind {α:Type} {Z:Nat->Prop} {wz:World} {d d':Kd α} {A:Option Addr} {n c:Nat} {xs:List α} (h:Imm Z wz d A n c xs) (hs:d.sz=d'.sz) (hd:∀ x cs,d.V x cs->d'.V x cs):Imm Z wz d' A n c xs:=by refine⟨h.ln,h.le,h.mx,λa=>?_⟩;obtain⟨ad,e,hz,hr⟩:=h.rd a;refine⟨ad,e,hz,λj x hx=>?_⟩;obtain⟨cs,b,hc⟩:=hr j x hx;exact⟨cs,hd _ _ b,by rw [← hs];exact hc⟩
theorem RdL.kind {α:Type} {L:List HP} {d d':Kd α} {A:Option Addr} {n c:Nat} {xs:List α} (h:RdL L d A n c xs) (hs:d.sz=d'.sz) (hd:∀ x cs,d.V x cs->d'.V x cs):RdL L d' A n c xs:=by refine⟨h.ln,h.le,h.mx,λw S hS a=>?_⟩;obtain⟨ad,e,hr⟩:=h.rd w S hS a;refine⟨ad,e,λj x hx=>?_⟩;obtain⟨cs,b,hc⟩:=hr j x hx;exact⟨cs,hd _ _ b,by rw [← hs];exact hc⟩
def bef (M:List Nat) (i j:Nat):Bool:=(M.getD i 0).testBit j
def okM (ops:Array Oper) (M:List Nat):Bool :=
 (List.range ops.size).all λi=>match ops[i]? with
  | none=>false
  | some o=>M.getD i 0==o.after.toList.foldl (λs e=>bif Region.binds .any e then s ||| 2 ^ e.on ||| M.getD e.on 0 else s) 0&&o.after.toList.all λe => !Region.binds .any e||Nat.blt e.on i
def wr (ops:Array Oper) (t:Nat):Option Nat:=(List.range ops.size).find? λi=>((ops[i]?).bind λo:Oper=>o.dst)==some t
def aJs (ops:Array Oper):Bool:=(List.range ops.size).all λi=>match (ops[i]?).bind (λo:Oper=>o.dst) with
 | none=>true
 | some t=>wr ops t==some i
def src (ops:Array Oper) (M:List Nat) (F0 VL:List (Nat×Value)) (p t:Nat):Option Value :=
 match wr ops t with
 | none=>lk F0 t
 | some q=>bif Nat.beq q p||bef M q p then lk F0 t else bif bef M p q then lk VL q else none
def aU8 (ops:Array Oper) (F0 VL:List (Nat×Value)) (t:Nat):Option Value :=
 match wr ops t with
 | none=>lk F0 t
 | some q=>lk VL q
def aE5 (ops:Array Oper) (M effs done:List Nat):List Nat :=
 (List.range ops.size).filter λp => !effs.contains p&&effs.all λe=>(!bef M p e||done.contains e)&&(!bef M e p || !done.contains e)
def aGn (ops:Array Oper) (M effs done:List Nat):List Nat :=
 effs.filter λp => !done.contains p&&effs.all λe=>(!bef M p e||done.contains e)
def AllP (f:Nat->Prop):List Nat->Prop
 | []=>True
 | p::ps=>f p/\AllP f ps
theorem AllP.mem {f:Nat->Prop}:∀ {l:List Nat},AllP f l->∀ {p:Nat},p∈l->f p
 | _::_,h,_,.head _=>h.1
 | _::_,h,_,.tail _ hm=>AllP.mem h.2 hm
def aMu (P:Program) (ops:Array Oper) (o:Oper) (a:Act) (w:World) (v:Value):Prop :=
 if Region.wanted o (yielded ops a.tmps)=true then RunV P o a w v else v=undef
def tN (P:Program) (ops:Array Oper) (n:Nat) (D:List Deferred) (M:List Nat) (F0 VL:List (Nat×Value)) (w:World) (p:Nat):Prop :=
 ∃ (o:Oper) (v:Value) (E:List (Nat×Value)),ops[p]?=some o/\lk VL p=some v/\E.map (λq=>src ops M F0 VL p q.1)=E.map (λq=>some q.2)/\∀ a,FR n D a E->aMu P ops o a w v
def pG (P:Program) (ops:Array Oper) (Q:Exit->Act->World->Prop) (n:Nat) (D:List Deferred) (M:List Nat) (F0:List (Nat×Value)) (effs:List Nat):Nat->List Nat->List (Nat×Value)->World->Prop
 | 0,done,VL,w=>AllP (tN P ops n D M F0 VL w) (aE5 ops M effs done)/\(aGn ops M effs done=[]/\effs.all (done.contains ·)=true) /\
   ∃ Ff:List (Nat×Value),Ff.map (λq=>aU8 ops F0 VL q.1)=Ff.map (λq=>some q.2)/\∀ a,FR n D a Ff->Q .normal a w
 | m+1,done,VL,w=>AllP (tN P ops n D M F0 VL w) (aE5 ops M effs done)/\effs.all (done.contains ·)=false /\
   AllP (λe=>∃ (o:Oper) (E:List (Nat×Value)),ops[e]?=some o/\E.map (λq=>src ops M F0 VL e q.1)=E.map (λq=>some q.2)/\∀ a,FR n D a E ->
    if Region.wanted o (yielded ops a.tmps)=true then o.wp P a w (λa' w'=>∃ v NV,a'=a.put o.dst v/\NV.all (λq=>(lk ((e,v)::VL) q.1).isNone)=true/\pG P ops Q n D M F0 effs m (e::done) (NV++(e,v)::VL) w') Q
    else ∃ NV:List (Nat×Value),NV.all (λq=>(lk ((e,undef)::VL) q.1).isNone)=true/\pG P ops Q n D M F0 effs m (e::done) (NV++(e,undef)::VL) w) (aGn ops M effs done)
section
variable {P:Program} {ops:Array Oper} {Q:Exit->Act->World->Prop} {n:Nat} {D:List Deferred} {M:List Nat} {F0 VL:List (Nat×Value)} {effs done:List Nat} {listed:Array Bool} {a:Act} {w:World}
def Lsd (listed:Array Bool) (i:Nat):Prop:=listed.getD i false=true
structure DInv (ops:Array Oper) (n:Nat) (D:List Deferred) (F0 VL:List (Nat×Value)) (effs done:List Nat) (listed:Array Bool) (a:Act):Prop where
 lsize:listed.size=ops.size
 size:a.tmps.size=n
 defers:a.defers=D
 closed:∀ (p:Nat) (o:Oper) (e:Edge),ops[p]?=some o->Lsd listed p->e∈o.after.toList->Region.binds .any e=true->Lsd listed e.on
 old:∀ t v,lk F0 t=some v->(∀ p,((ops[p]?).bind λo:Oper=>o.dst)=some t->¬ Lsd listed p)->a.tmps[t]?=some v
 new:∀ (p:Nat) (o:Oper) (t:Nat),ops[p]?=some o->o.dst=some t->Lsd listed p->∃ v,lk VL p=some v/\a.tmps[t]?=some v
 keyed:∀ p,Lsd listed p->∃ v,lk VL p=some v
 eff:∀ e,e∈effs->(Lsd listed e↔e∈done)
 tmps:∀ (p:Nat) (o:Oper) (t:Nat),ops[p]?=some o->o.dst=some t->t<n
theorem aMz {i j:Nat}:∀ (es:List Edge) (s:Nat),(es.foldl (λs e=>bif Region.binds .any e then s ||| 2 ^ e.on ||| M.getD e.on 0 else s) s).testBit j=true ->
  s.testBit j=true\/∃ e∈es,Region.binds .any e=true/\(e.on=j\/bef M e.on j=true)
 | [],s,h=>.inl h
 | e::es,s,h=>by
  rcases aMz (i:=i) es _ h with h | ⟨e',a,hb,b⟩
  ·cases hb:Region.binds .any e
   ·simp only [hb,cond_false] at h;exact .inl h
   ·simp only [hb,cond_true,Nat.testBit_or,Bool.or_eq_true] at h;rcases h with (h | h) | h
    ·exact .inl h
    ·refine .inr ⟨e,by simp,hb,.inl ?_⟩;rw [Nat.testBit_two_pow] at h;simpa using h
    ·exact .inr ⟨e,by simp,hb,.inr h⟩
  ·exact .inr ⟨e',by simp [a],hb,b⟩
theorem aL1 (h:okM ops M=true) {i:Nat} {o:Oper} (c:ops[i]?=some o) :
  (∀ j,bef M i j=true->∃ e∈o.after.toList,Region.binds .any e=true/\(e.on=j\/bef M e.on j=true))/\∀ e∈o.after.toList,Region.binds .any e=true->e.on<i:=by
 have hi:i<ops.size:=(Array.getElem?_eq_some_iff.1 c).1;have a:=(List.all_eq_true.1 h) i (by simpa using hi);rw [c] at a;simp only [Bool.and_eq_true,beq_iff_eq] at a;obtain⟨d,f⟩:=a;refine⟨λj b=>?_,λe he hb=>?_⟩
 ·unfold bef at b;rw [d] at b;rcases aMz (i:=i) _ _ b with h | h
  ·simp at h
  ·exact h
 ·have:=(List.all_eq_true.1 f) e he;rw [hb] at this;simp at this;exact this
theorem DInv.anc (f:okM ops M=true) (g:DInv ops n D F0 VL effs done listed a):∀ (i j:Nat),Lsd listed i->i<ops.size->bef M i j=true->Lsd listed j:=by
 intro i
 induction i using Nat.strongRecOn with
 | _ i ih =>
  intro j hl hi h;have c:ops[i]?=some ops[i]:=Array.getElem?_eq_getElem hi;obtain⟨k,d⟩:=aL1 f c;obtain⟨e,he,hb,b⟩:=k j h;have hle:=g.closed i _ e c hl he hb;rcases b with rfl | b
  ·exact hle
  ·exact ih e.on (d e he hb) j hle (by have:=d e he hb;omega) b
theorem zO {i:Nat} (hi:i∈Region.ready .any ops listed):i<ops.size/\listed.getD i true=false/\∀ o,ops[i]?=some o->∀ e∈o.after.toList,Region.binds .any e=true->Lsd listed e.on:=by unfold Region.ready at hi;rw [List.mem_filter,List.mem_range,Bool.and_eq_true] at hi;obtain⟨b,c,a⟩:=hi;refine⟨b,by simpa using c,λo d e he hb=>?_⟩;rw [d] at a;simp only [Option.map_some,Option.getD_some] at a;rw [Array.all_eq_true_iff_forall_mem] at a;have:=a e (Array.mem_toList_iff.1 he);rw [hb] at this;simpa [Lsd] using this
theorem DInv.ready_anc (c:okM ops M=true) (f:DInv ops n D F0 VL effs done listed a) {i j:Nat} (hi:i∈Region.ready .any ops listed) (g:bef M i j=true):Lsd listed j:=by
 obtain⟨h,o,k⟩:=zO hi;have d:ops[i]?=some ops[i]:=Array.getElem?_eq_getElem h;obtain⟨l,m⟩:=aL1 c d;obtain⟨e,he,hb,b⟩:=l j g;have hle:=k _ d e he hb;rcases b with rfl | b
 ·exact hle
 ·exact f.anc c e.on j hle (by have:=m e he hb;omega) b
theorem aDo {i:Nat} (h:listed.getD i true=false):¬ Lsd listed i:=by
 intro hl;unfold Lsd at hl;rw [Array.getD_eq_getD_getElem?] at h hl;cases hq:listed[i]? with
 | none=>rw [hq] at hl;cases hl
 | some b=>rw [hq] at h hl;cases b <;> simp at h hl
theorem aRc {t q:Nat} (h:wr ops t=some q):((ops[q]?).bind λo:Oper=>o.dst)=some t/\q<ops.size:=by unfold wr at h;have a:=List.find?_some h;have b:=List.mem_of_find?_eq_some h;exact⟨by simpa using a,by simpa using b⟩
theorem aRb {t:Nat} (h:wr ops t=none) {p:Nat}:((ops[p]?).bind λo:Oper=>o.dst)≠some t:=by
 intro hp;unfold wr at h;rw [List.find?_eq_none] at h;rcases Nat.lt_or_ge p ops.size with a | b
 ·exact h p (by simpa using a) (by simpa using hp)
 ·rw [Array.getElem?_eq_none b] at hp;cases hp
theorem aMk (hu:aJs ops=true) {t p:Nat} (h:((ops[p]?).bind λo:Oper=>o.dst)=some t):wr ops t=some p:=by
 have hp:p<ops.size:=by
  rcases Nat.lt_or_ge p ops.size with a | b
  ·exact a
  ·rw [Array.getElem?_eq_none b] at h;cases h
 have:=(List.all_eq_true.1 hu) p (by simpa using hp);rw [h] at this;simpa using this
theorem DInv.src (d:okM ops M=true) (hu:aJs ops=true) (b:DInv ops n D F0 VL effs done listed a) {p:Nat} (hp:p∈Region.ready .any ops listed) {t:Nat} {v:Value} (h:src ops M F0 VL p t=some v):a.tmps[t]?=some v:=by
 obtain⟨m,e,o⟩:=zO hp;unfold E.src at h;cases hw:wr ops t with
 | none =>
  rw [hw] at h;exact b.old t v h λq c=>absurd c (aRb hw)
 | some q =>
  rw [hw] at h;dsimp only at h;obtain⟨c,f⟩:=aRc hw;by_cases hc:(Nat.beq q p||bef M q p)=true
  ·rw [hc] at h;refine b.old t v h λr k hl=>?_;have g:=aMk hu k;rw [hw] at g;cases g;rcases Bool.or_eq_true _ _▸hc with hc | hc
   ·have:=Nat.eq_of_beq_eq_true hc;subst this;exact aDo e hl
   ·exact aDo e (b.anc d q p hl f hc)
  ·rw [Bool.eq_false_iff.2 hc] at h;simp only [cond_false] at h;cases hb:bef M p q with
   | false=>rw [hb] at h;cases h
   | true =>
    rw [hb] at h;have hl:=b.ready_anc d hp hb;have i:ops[q]?=some ops[q]:=Array.getElem?_eq_getElem f;rw [i] at c;obtain⟨s,j,l⟩:=b.new q _ t i c hl;rw [show lk VL q=some v from h] at j;cases j;exact l
theorem DInv.ev (f:okM ops M=true) (hu:aJs ops=true) (c:DInv ops n D F0 VL effs done listed a) {p:Nat} (hp:p∈Region.ready .any ops listed) {E:List (Nat×Value)} (d:E.map (λq=>Go.Proofs.YtdkpjpoajlmmfaaGreatDoor.E.src ops M F0 VL p q.1)=E.map (λq=>some q.2)):FR n D a E:=by
 refine⟨c.size,c.defers,λt v b=>c.src f hu hp (M:=M) ?_⟩
 induction E with
 | nil=>cases b
 | cons q r ih =>
  obtain⟨k,u⟩:=q;simp only [List.map_cons,List.cons.injEq] at d;simp only [lk] at b;by_cases e:Nat.beq k t=true
  ·rw [e] at b;have e':=Nat.eq_of_beq_eq_true e;subst e';cases b;exact d.1
  ·rw [Bool.eq_false_iff.2 e] at b;exact ih d.2 b
theorem aC9 {i j:Nat} (hi:i<listed.size):Lsd (listed.setIfInBounds i true) j↔j=i\/Lsd listed j:=by
 unfold Lsd;rw [Array.getD_eq_getD_getElem?,Array.getD_eq_getD_getElem?,Array.getElem?_setIfInBounds];by_cases h:i=j
 ·subst h;simp [hi]
 ·rw [if_neg h];constructor
  ·exact .inr
  ·rintro (a | a)
   ·exact absurd a.symm h
   ·exact a
theorem DInv.step (C:okM ops M=true) (hu:aJs ops=true) (b:DInv ops n D F0 VL effs done listed a) {i:Nat} {o:Oper} (hi:i∈Region.ready .any ops listed) (f:ops[i]?=some o) {v:Value} {k:List (Nat×Value)} {done':List Nat}
  (l:lk k i=some v) (m:∀ p,Lsd listed p->∀ u,lk VL p=some u->lk k p=some u) (x:∀ e∈effs,(e=i\/e∈done)↔e∈done'):DInv ops n D F0 k effs done' (listed.setIfInBounds i true) (a.put o.dst v):=by
 obtain⟨y,E,z⟩:=zO hi;have d:i<listed.size:=by rw [b.lsize];exact y
 have q:∀ t',(a.put o.dst v).tmps[t']?=if o.dst=some t'/\t'<n then some v else a.tmps[t']?:=by
  intro t';cases hd:o.dst with
  | none=>simp [Act.put]
  | some t =>
   simp only [Act.put,Array.getElem?_setIfInBounds,b.size];by_cases e:t=t'
   ·subst e;have:=b.tmps i o t f hd;simp [this]
   ·rw [if_neg e,if_neg (λh=>e (Option.some.inj h.1))]
 refine⟨by simp [b.lsize],?_,?_,?_,?_,?_,?_,?_,b.tmps⟩
 ·cases o.dst <;> simp [Act.put,b.size]
 ·cases o.dst <;> exact b.defers
 ·intro p j e c hl he hb;rw [aC9 d] at hl ⊢;rcases hl with rfl | hl
  ·exact .inr (z j c e he hb)
  ·exact .inr (b.closed p j e c hl he hb)
 ·intro t u g r;rw [q];by_cases hd:o.dst=some t
  ·exact absurd ((aC9 d).2 (.inl rfl)) (r i (by rw [f];exact hd))
  ·rw [if_neg (λh=>hd h.1)];exact b.old t u g λp hp hl=>r p hp ((aC9 d).2 (.inr hl))
 ·intro p j t c hd hl;rw [aC9 d] at hl;rw [q];by_cases e:p=i
  ·subst e;rw [f] at c;cases c;exact⟨v,l,by rw [if_pos ⟨hd,b.tmps _ _ _ f hd⟩]⟩
  ·have s:=hl.resolve_left e;obtain⟨u,g,A⟩:=b.new p j t c hd s;refine⟨u,m p s u g,?_⟩;rw [if_neg,A];rintro⟨hd',_⟩;have B:=aMk hu (p:=p) (t:=t) (by rw [c];exact hd);have w:=aMk hu (p:=i) (t:=t) (by rw [f];exact hd');rw [B] at w;cases w;exact e rfl
 ·intro p hl;rw [aC9 d] at hl;rcases hl with rfl | hl
  ·exact⟨v,l⟩
  ·obtain⟨u,g⟩:=b.keyed p hl;exact⟨u,m p hl u g⟩
 ·intro e he;rw [aC9 d,b.eff e he];exact x e he
theorem aSb (c:okM ops M=true) (f:DInv ops n D F0 VL effs done listed a) (h:Region.ready .any ops listed=[]):∀ i,i<ops.size->Lsd listed i:=by
 intro i
 induction i using Nat.strongRecOn with
 | _ i ih =>
  intro hi;apply Classical.byContradiction;intro hn;have d:i∈Region.ready .any ops listed:=by
   unfold Region.ready;rw [List.mem_filter,List.mem_range,Bool.and_eq_true];have b:ops[i]?=some ops[i]:=Array.getElem?_eq_getElem hi;refine⟨hi,?_,?_⟩
   ·have g:i<listed.size:=by rw [f.lsize];exact hi
    unfold Lsd at hn;rw [Array.getD_eq_getD_getElem?,Array.getElem?_eq_getElem g] at hn ⊢;simpa using hn
   ·rw [b];simp only [Option.map_some,Option.getD_some];rw [Array.all_eq_true_iff_forall_mem];intro e he;cases hb:Region.binds .any e with
    | false=>rfl
    | true =>
     have:=ih e.on ((aL1 c b).2 e (Array.mem_toList_iff.2 he) hb) (by have:=(aL1 c b).2 e (Array.mem_toList_iff.2 he) hb;omega);simpa [Lsd] using this
  rw [h] at d;cases d
def aJ4 (listed:Array Bool):Nat:=(listed.toList.filter (!·)).length
theorem aNs:∀ (l:List Bool) (i:Nat),l[i]?=some false->((l.set i true).filter (!·)).length+1=(l.filter (!·)).length
 | [],i,h=>by simp at h
 | b::l,0,h=>by simp at h;subst h;simp
 | b::l,i+1,h=>by
  have ih:=aNs l i (by simpa using h);rw [List.set_cons_succ,List.filter_cons,List.filter_cons];cases b
  ·simp only [Bool.not_false,if_true,List.length_cons];omega
  ·simp only [Bool.not_true,Bool.false_eq_true,if_false];exact ih
theorem aTj (g:okM ops M=true) (hu:aJs ops=true) (Y:effs.all (λe=>Nat.blt e ops.size)=true):∀ (fuel m:Nat) (done:List Nat) (VL:List (Nat×Value)) (listed:Array Bool) (a:Act) (w:World),aJ4 listed=fuel ->
  DInv ops n D F0 VL effs done listed a->pG P ops Q n D M F0 effs m done VL w->wpAny P .any ops Q fuel listed a w:=by
 intro fuel
 induction fuel with
 | zero =>
  intro m done VL listed a w hf c j;have s:∀ i,i<ops.size->Lsd listed i:=by
   intro i hi;have B:i<listed.size:=by rw [c.lsize];exact hi
   unfold aJ4 at hf;have h0:=List.eq_nil_of_length_eq_zero hf;rw [List.filter_eq_nil_iff] at h0;have:=h0 listed[i] (by simp);unfold Lsd;rw [Array.getD_eq_getD_getElem?,Array.getElem?_eq_getElem B];simpa using this
  have hr:Region.ready .any ops listed=[]:=by rw [List.eq_nil_iff_forall_not_mem];intro i hi;obtain⟨z,x,_⟩:=zO hi;exact aDo x (s i z)
  refine⟨hr,?_⟩;cases m with
  | zero =>
   obtain⟨_,_,Ff,H,N⟩:=j;refine N a ⟨c.size,c.defers,λt v l=>?_⟩;have hs:aU8 ops F0 VL t=some v:=by
    clear N
    induction Ff with
    | nil=>cases l
    | cons q r ih =>
     obtain⟨k,u⟩:=q;simp only [List.map_cons,List.cons.injEq] at H;simp only [lk] at l;by_cases e:Nat.beq k t=true
     ·rw [e] at l;have e':=Nat.eq_of_beq_eq_true e;subst e';cases l;exact H.1
     ·rw [Bool.eq_false_iff.2 e] at l;exact ih H.2 l
   unfold aU8 at hs;cases hw:wr ops t with
   | none=>rw [hw] at hs;exact c.old t v hs λq C=>absurd C (aRb hw)
   | some q =>
    rw [hw] at hs;obtain⟨C,O⟩:=aRc hw;have d:ops[q]?=some ops[q]:=Array.getElem?_eq_getElem O;rw [d] at C;obtain⟨v',R,Z⟩:=c.new q _ t d C (s q O);rw [show lk VL q=some v from hs] at R;cases R;exact Z
  | succ m =>
   obtain⟨_,S,_⟩:=j;exfalso;rw [← Bool.not_eq_true,List.all_eq_true] at S;refine S λe he=>?_;have a0:e<ops.size:=by have:=Nat.le_of_ble_eq_true ((List.all_eq_true.1 Y) e he);omega
   have:=(c.eff e he).1 (s e a0);exact List.contains_iff_mem.2 this
 | succ fuel ih =>
  intro m done VL listed a w hf c j;refine⟨λhr=>?_,λi hi=>?_⟩
  ·exfalso;have s:=aSb g c hr;unfold aJ4 at hf;have h0:listed.toList.filter (!·)=[]:=by
    rw [List.filter_eq_nil_iff];intro b hb;obtain⟨i,hi,rfl⟩:=List.mem_iff_getElem.1 hb;have hi':i<listed.size:=by simpa using hi
    have:=s i (by rw [← c.lsize];exact hi');unfold Lsd at this;rw [Array.getD_eq_getD_getElem?,Array.getElem?_eq_getElem hi'] at this;simpa using this
   rw [h0] at hf;cases hf
  ·obtain⟨z,x,h3⟩:=zO hi;have B:i<listed.size:=by rw [c.lsize];exact z
   have d:ops[i]?=some ops[i]:=Array.getElem?_eq_getElem z;have F:aJ4 (listed.setIfInBounds i true)=fuel:=by
    have:=aNs listed.toList i (by
     rw [Array.getElem?_toList,Array.getElem?_eq_getElem B];rw [Array.getD_eq_getD_getElem?,Array.getElem?_eq_getElem B] at x;simpa using x)
    unfold aJ4 at hf ⊢;rw [Array.toList_setIfInBounds];omega
   by_cases he:i∈effs
   ·
    have T:i∉done:=λh=>aDo x ((c.eff i he).2 h);cases m with
    | zero =>
     obtain⟨_,⟨_,s⟩,_⟩:=j;exact absurd (by simpa using (List.all_eq_true.1 s) i he) T
    | succ m =>
     obtain⟨_,_,hE⟩:=j;have hc:i∈aGn ops M effs done:=by
      unfold aGn;rw [List.mem_filter];refine⟨he,?_⟩;simp only [Bool.and_eq_true,List.all_eq_true];refine⟨by simpa using T,λe y=>?_⟩;cases hb:bef M i e with
      | false=>rfl
      | true =>
       have:=(c.eff e y).1 (c.ready_anc g hi hb);simpa using this
     obtain⟨o,E,A,I,J⟩:=hE.mem hc;rw [d] at A;cases A;have K:=c.ev g hu hi I;have hr:=J a K;unfold wpOp;rw [d];dsimp only;have G:∀ (NV:List (Nat×Value)) (v:Value),NV.all (λq=>(lk ((i,v)::VL) q.1).isNone)=true->∀ p u,lk ((i,v)::VL) p=some u->lk (NV++(i,v)::VL) p=some u:=by
      intro NV v f p u hp
      induction NV with
      | nil=>exact hp
      | cons q r ih' =>
       simp only [List.all_cons,Bool.and_eq_true] at f;simp only [List.cons_append,lk];cases hb:Nat.beq q.1 p with
       | false=>exact ih' f.2
       | true =>
        have e':=Nat.eq_of_beq_eq_true hb;rw [e',hp] at f;exact absurd f.1 (by simp)
     have U:∀ (v:Value) p,Lsd listed p->∀ u,lk VL p=some u->lk ((i,v)::VL) p=some u:=by
      intro v p hl u hp;simp only [lk];cases hb:Nat.beq i p with
      | false=>exact hp
      | true =>
       have e':=Nat.eq_of_beq_eq_true hb;subst e';exact absurd hl (aDo x)
     have W:∀ v:Value,lk ((i,v)::VL) i=some v:=λv=>by simp [lk]
     split
     ·rename_i hw;rw [if_pos hw] at hr;refine .inl (Oper.wp_mono (λa' w' hk=>?_) hr);obtain⟨v,NV,rfl,f,L⟩:=hk;exact ih m _ _ _ _ _ F (c.step g hu hi d (G NV v f _ _ (W v)) (λp hl u hp=>G NV v f _ _ (U v p hl u hp)) (λe _=>by simp)) L
     ·rename_i hw;rw [if_neg hw] at hr;obtain⟨NV,f,L⟩:=hr;exact ih m _ _ _ _ _ F (c.step g hu hi d (G NV undef f _ _ (W undef)) (λp hl u hp=>G NV undef f _ _ (U undef p hl u hp)) (λe _=>by simp)) L
   ·
    have hP:AllP (tN P ops n D M F0 VL w) (aE5 ops M effs done):=by cases m <;> exact j.1
    have hc:i∈aE5 ops M effs done:=by
     unfold aE5;rw [List.mem_filter];refine⟨by simpa using z,?_⟩;simp only [Bool.and_eq_true,List.all_eq_true];refine⟨by simpa using he,λe y=>⟨?_,?_⟩⟩
     ·cases hb:bef M i e with
      | false=>rfl
      | true=>simpa using (c.eff e y).1 (c.ready_anc g hi hb)
     ·cases hb:bef M e i with
      | false=>rfl
      | true =>
       by_cases hd:e∈done
       ·have hl:=(c.eff e y).2 hd;have a3:e<ops.size:=by
         unfold Lsd at hl;rcases Nat.lt_or_ge e listed.size with h | h
         ·rw [← c.lsize];exact h
         ·rw [Array.getD_eq_getD_getElem?,Array.getElem?_eq_none h] at hl;cases hl
        exact absurd (c.anc g e i hl a3 hb) (aDo x)
       ·simpa using hd
    obtain⟨o,v,E,A,l,I,J⟩:=hP.mem hc;rw [d] at A;cases A;have K:=c.ev g hu hi I;have hr:=J a K;have X:=c.step g hu hi d l (λp _ u h=>h) (done':=done) (λe y=>⟨λh=>h.resolve_left (λh=>he (h▸y)),.inr⟩);unfold wpOp;rw [d];dsimp only;unfold aMu at hr;split
    ·rename_i hw;rw [if_pos hw] at hr;exact .inl (RunV.wp hr (ih m _ _ _ _ _ F X j))
    ·rename_i hw;rw [if_neg hw] at hr;subst hr;exact ih m _ _ _ _ _ F X j
theorem aQe {F:List (Nat×Value)} (M effs:List Nat) (hA:FR n D a F)
  (f:okM ops M=true) (hu:aJs ops=true) (g:effs.all (λe=>Nat.blt e ops.size)=true) (ht:((List.range ops.size).all λp=>match (ops[p]?).bind (λo:Oper=>o.dst) with | none=>true | some t=>Nat.blt t n)=true)
  (h:∃ VL,pG P ops Q n D M F effs effs.length [] VL w.drew):wpAny P .any ops Q ops.size (Array.replicate ops.size false) a w.drew:=by
 obtain⟨VL,h⟩:=h;refine aTj (n:=n) (D:=D) (F0:=F) (effs:=effs) f hu g ops.size effs.length [] VL (Array.replicate ops.size false) a w.drew ?_ ?_ h
 ·unfold aJ4;rw [Array.toList_replicate,List.filter_eq_self.2 (by intro b hb;rw [List.mem_replicate] at hb;rw [hb.2];rfl)];simp
 ·have c:∀ p,¬ Lsd (Array.replicate ops.size false) p:=by intro p hp;unfold Lsd at hp;rw [Array.getD_eq_getD_getElem?,Array.getElem?_replicate] at hp;split at hp <;> cases hp
  refine⟨by simp,hA.size,hA.defers,λp o e _ hl=>absurd hl (c p),λt v i _=>hA.at_ t v i,λp o t _ _ hl=>absurd hl (c p),λp hl=>absurd hl (c p),λe _=>⟨λhl=>absurd hl (c e),λh=>by cases h⟩,λp o t d hd=>?_⟩;have hp:p<ops.size:=(Array.getElem?_eq_some_iff.1 d).1;have:=(List.all_eq_true.1 ht) p (by simpa using hp);rw [d] at this;simp only [bGi,hd] at this;have:=Nat.le_of_ble_eq_true this;omega
theorem aTk {F:List (Nat×Value)} {r:World} {L:List HP} (M effs:List Nat) (hA:FR n D a F) (hS:SH r L w)
  (b:okM ops M=true) (hu:aJs ops=true) (c:effs.all (λe=>Nat.blt e ops.size)=true) (ht:((List.range ops.size).all λp=>match (ops[p]?).bind (λo:Oper=>o.dst) with | none=>true | some t=>Nat.blt t n)=true)
  (h:∀ w',SH r L w'->∃ VL,pG P ops Q n D M F effs effs.length [] VL w'):wpAny P .any ops Q ops.size (Array.replicate ops.size false) a w.drew :=
 aQe M effs hA b hu c ht (h _ hS.drew)
theorem aXg {id:Nat} {F:List (Nat×Value)} {r:World} {L:List HP} (M effs:List Nat) (hm:P.follows .mixedOrders=true) (hA:FR n D a F) (hS:SH r L w)
  (b:okM ops M=true) (hu:aJs ops=true) (c:effs.all (λe=>Nat.blt e ops.size)=true) (ht:((List.range ops.size).all λp=>match (ops[p]?).bind (λo:Oper=>o.dst) with | none=>true | some t=>Nat.blt t n)=true)
  (h:∀ w',SH r L w'->∃ VL,pG P ops Q n D M F effs effs.length [] VL w'):(Code.region id ops true).wp P Q a w :=
 wp_region_any hm (aTk M effs hA hS b hu c ht h)
theorem pu {p:Nat} {o:Oper} {v:Value} (b:ops[p]?=some o) (c:lk VL p=some v) (E:List (Nat×Value)) (h:∀ a,FR n D a E->RunV P o a w v) (hg:o.guard=none:=by rfl) (d:E.map (λq=>src ops M F0 VL p q.1)=E.map (λq=>some q.2):=by rfl):tN P ops n D M F0 VL w p :=
 ⟨o,v,E,b,c,d,λa he=>by unfold aMu;rw [if_pos (by simp [Region.wanted,hg])];exact h a he⟩
theorem cE {p j t:Nat} {b c:Bool} {o:Oper} {v:Value} (d:ops[p]?=some o) (e:lk VL p=some v) (hg:o.guard=some (j,b)) (f:(ops[j]?).bind (·.dst)=some t) (E:List (Nat×Value)) (g:lk E t=some (.bool c)) (hb:c=b) (h:∀ a,FR n D a E->RunV P o a w v) (i:E.map (λq=>src ops M F0 VL p q.1)=E.map (λq=>some q.2):=by rfl):tN P ops n D M F0 VL w p :=
 ⟨o,v,E,d,e,i,λa he=>by
  have k:=wH (ops:=ops) f (he.at_ t _ g);unfold aMu;rw [if_pos (by subst hb;simp [Region.wanted,hg,k])];exact h a he⟩
theorem bF {p j t:Nat} {b c:Bool} {o:Oper} (d:ops[p]?=some o) (e:lk VL p=some undef) (hg:o.guard=some (j,b)) (f:(ops[j]?).bind (·.dst)=some t) (E:List (Nat×Value)) (g:lk E t=some (.bool c)) (hb:c = !b) (h:E.map (λq=>src ops M F0 VL p q.1)=E.map (λq=>some q.2):=by rfl):tN P ops n D M F0 VL w p :=
 ⟨o,undef,E,d,e,h,λa he=>by
  have i:=wH (ops:=ops) f (he.at_ t _ g);unfold aMu;rw [if_neg (by subst hb;cases b <;> simp [Region.wanted,hg,i])]⟩
theorem rF {VL:List (Nat×Value)} (ps:List Nat) (hp:aE5 ops M effs done=ps) (h:AllP (tN P ops n D M F0 VL w) ps) (he:aGn ops M effs done=[]/\effs.all (done.contains ·)=true) (Ff:List (Nat×Value)) (b:Ff.map (λq=>aU8 ops F0 VL q.1)=Ff.map (λq=>some q.2)) (c:∀ a,FR n D a Ff->Q .normal a w) :
  pG P ops Q n D M F0 effs 0 done VL w:=⟨hp▸h,he,Ff,b,c⟩
def aHl (P:Program) (ops:Array Oper) (Q:Exit->Act->World->Prop) (n:Nat) (D:List Deferred) (M:List Nat) (F0:List (Nat×Value)) (effs:List Nat) (m:Nat) (done:List Nat) (VL:List (Nat×Value)) (w:World) (e:Nat):Prop :=
 ∃ (o:Oper) (E:List (Nat×Value)),ops[e]?=some o/\E.map (λq=>src ops M F0 VL e q.1)=E.map (λq=>some q.2)/\∀ a,FR n D a E ->
  if Region.wanted o (yielded ops a.tmps)=true then o.wp P a w (λa' w'=>∃ v NV,a'=a.put o.dst v/\NV.all (λq=>(lk ((e,v)::VL) q.1).isNone)=true/\pG P ops Q n D M F0 effs m (e::done) (NV++(e,v)::VL) w') Q
  else ∃ NV:List (Nat×Value),NV.all (λq=>(lk ((e,undef)::VL) q.1).isNone)=true/\pG P ops Q n D M F0 effs m (e::done) (NV++(e,undef)::VL) w
theorem bEw {m:Nat} {VL:List (Nat×Value)} (ps es:List Nat) (hp:aE5 ops M effs done=ps) (h:AllP (tN P ops n D M F0 VL w) ps) (he:aGn ops M effs done=es) (hn:effs.all (done.contains ·)=false) (a:AllP (aHl P ops Q n D M F0 effs m done VL w) es) :
  pG P ops Q n D M F0 effs (m+1) done VL w:=⟨hp▸h,hn,he▸a⟩
theorem ef {m e:Nat} {o:Oper} {VL:List (Nat×Value)} (b:ops[e]?=some o) (E:List (Nat×Value))
  (h:∀ a,FR n D a E->∀ K:Act->World->Prop,(∀ v NV w',NV.all (λq=>(lk ((e,v)::VL) q.1).isNone)=true->pG P ops Q n D M F0 effs m (e::done) (NV++(e,v)::VL) w'->K (a.put o.dst v) w')->o.wp P a w K Q)
  (hg:o.guard=none:=by rfl) (c:E.map (λq=>src ops M F0 VL e q.1)=E.map (λq=>some q.2):=by rfl):aHl P ops Q n D M F0 effs m done VL w e :=
 ⟨o,E,b,c,λa he=>by rw [if_pos (by simp [Region.wanted,hg])];exact h a he _ λv NV w' d f=>⟨v,NV,rfl,d,f⟩⟩
theorem aZo {m e j t:Nat} {b c:Bool} {o:Oper} {VL:List (Nat×Value)} (d:ops[e]?=some o) (hg:o.guard=some (j,b)) (f:(ops[j]?).bind (·.dst)=some t) (E:List (Nat×Value)) (g:lk E t=some (.bool c)) (hb:c=b)
  (h:∀ a,FR n D a E->∀ K:Act->World->Prop,(∀ v NV w',NV.all (λq=>(lk ((e,v)::VL) q.1).isNone)=true->pG P ops Q n D M F0 effs m (e::done) (NV++(e,v)::VL) w'->K (a.put o.dst v) w')->o.wp P a w K Q)
  (i:E.map (λq=>src ops M F0 VL e q.1)=E.map (λq=>some q.2):=by rfl):aHl P ops Q n D M F0 effs m done VL w e :=
 ⟨o,E,d,i,λa he=>by
  have k:=wH (ops:=ops) f (he.at_ t _ g);rw [if_pos (by subst hb;simp [Region.wanted,hg,k])];exact h a he _ λv NV w' l p=>⟨v,NV,rfl,l,p⟩⟩
theorem aNc {m e j t:Nat} {b c:Bool} {o:Oper} {VL:List (Nat×Value)} (d:ops[e]?=some o) (hg:o.guard=some (j,b)) (f:(ops[j]?).bind (·.dst)=some t) (E:List (Nat×Value)) (g:lk E t=some (.bool c)) (NV:List (Nat×Value)) (hb:c = !b) (i:NV.all (λq=>(lk ((e,undef)::VL) q.1).isNone)=true) (h:pG P ops Q n D M F0 effs m (e::done) (NV++(e,undef)::VL) w)
  (k:E.map (λq=>src ops M F0 VL e q.1)=E.map (λq=>some q.2):=by rfl):aHl P ops Q n D M F0 effs m done VL w e :=
 ⟨o,E,d,k,λa he=>by
  have l:=wH (ops:=ops) f (he.at_ t _ g);rw [if_neg (by subst hb;cases b <;> simp [Region.wanted,hg,l])];exact⟨NV,i,h⟩⟩
end
section
variable {P:Program} {ops:Array Oper} {Q:Exit->Act->World->Prop} {rest:List Oper} {o:Oper} {a:Act} {w w':World} {K:Act->World->Prop}
 {n:Nat} {D:List Deferred} {F:List (Nat×Value)} {r:World} {L:List HP} {α:Type} {d:Kd α} {x y c:Operand} {t' e T xt yt:TypeId} {v:Value} {t:Nat} {k:IntKind} {i j:Int} {s u:List UInt8}
def feq (x y:Nat):Bool:=FloatKind.f64.format.order x y==some .eq
theorem bDc {x y:Operand} {p q:Nat} (b:o.op=.binOp .neq xt x y yt) (hx:a.eval x=.float .f64 p) (c:a.eval y=.float .f64 q):RunV P o a w (.bool (!feq p q)):=oB b hx c λ_=>rfl
def EXT (P:Program) (f:FuncId) (args:Array Value) (v:Value):Prop:=∀ w,(callFunc f args).run P w=.ok (.value v) w
theorem aQ1 {f:FuncId} {az:Array Operand} {ts:Array TypeId} {vals:Array Value} (hf:EXT P f vals v) (b:o.op=.call { callee:=.value (.func f),args:=az,argTypes:=ts }) (c:az.map a.eval=vals):RunV P o a w v:=by unfold RunV execOp;rw [b];simp only [resolve,Act.eval,Deferred.ofValue,Sem.run_bind,Sem.run_pure,Result.andThen_ok,invoke,c];have:=hf w;simpa using this
theorem mP {A:Option Addr} {m c1:Nat} {l u:Int} {xs ys:List α} (h:Rd d w A xs/\xs.length=m/\m<=c1/\c1<=maxLen) (hc:kD xs l u=some ys):0<=l/\l<=u/\u<=(c1:Int)/\u<=(m:Int)/\0<=u/\l<=(m:Int):=by obtain⟨h0,a,b,_⟩:=aCi hc;obtain⟨_,c,e,_⟩:=h;exact⟨h0,a,by omega,by omega,by omega,by omega⟩
theorem aYw {A:Option Addr} {m c1:Nat} {l u:Int} {xs ys:List α} (h:Rd d w A xs/\xs.length=m/\m<=c1/\c1<=maxLen) (hc:kD xs l u=some ys) :
  Rd d w (if c1=l.toNat then A else A.map (·.add (l.toNat * d.sz))) ys/\ys.length=u.toNat - l.toNat/\u.toNat - l.toNat<=c1 - l.toNat/\c1 - l.toNat<=maxLen:=by
 obtain⟨h0,a,b,rfl⟩:=aCi hc;obtain⟨hr,c,e,f⟩:=h;exact⟨hr.cut (by omega) (by omega) (by omega),by simp;omega,by omega,by omega⟩
theorem bAg {A:Option Addr} {m c1:Nat} {u:Int} {xs ys:List α} (h:Rd d w A xs/\xs.length=m/\m<=c1/\c1<=maxLen) (hc:kD xs 0 u=some ys):Rd d w A ys/\ys.length=u.toNat/\u.toNat<=c1/\c1<=maxLen:=by
 have q:=aYw h hc;have e:(if c1=(0:Int).toNat then A else A.map (·.add ((0:Int).toNat * d.sz)))=A:=by cases A <;> simp [aDb]
 rw [e] at q;simpa using q
theorem bAh {A:Option Addr} {m c1:Nat} {l:Int} {xs ys:List α} (h:Rd d w A xs/\xs.length=m/\m<=c1/\c1<=maxLen) (hc:kD xs l (xs.length:Int)=some ys) :
  Rd d w (if c1=l.toNat then A else A.map (·.add (l.toNat * d.sz))) ys/\ys.length=m - l.toNat/\m - l.toNat<=c1 - l.toNat/\c1 - l.toNat<=maxLen:=by
 have q:=aYw h hc;rw [Int.toNat_natCast,h.2.1] at q;exact q
theorem aPd {Z:Nat->Prop} {wz:World} {A:Option Addr} {m c1:Nat} {l u:Int} {xs ys:List α} (h:Imm Z wz d A m c1 xs) (hc:kD xs l u=some ys):Imm Z wz d (if c1=l.toNat then A else A.map (·.add (l.toNat * d.sz))) (u.toNat - l.toNat) (c1 - l.toNat) ys:=by obtain⟨h0,a,b,rfl⟩:=aCi hc;exact h.cut (by omega) (by omega)
theorem bCy {Z:Nat->Prop} {wz:World} {A:Option Addr} {m c1:Nat} {u:Int} {xs ys:List α} (h:Imm Z wz d A m c1 xs) (hc:kD xs 0 u=some ys):Imm Z wz d A u.toNat c1 ys:=by
 have q:=aPd h hc;have e:(if c1=(0:Int).toNat then A else A.map (·.add ((0:Int).toNat * d.sz)))=A:=by cases A <;> simp [aDb]
 rw [e] at q;simpa using q
theorem bCz {Z:Nat->Prop} {wz:World} {A:Option Addr} {m c1:Nat} {l:Int} {xs ys:List α} (h:Imm Z wz d A m c1 xs) (hc:kD xs l (xs.length:Int)=some ys):Imm Z wz d (if c1=l.toNat then A else A.map (·.add (l.toNat * d.sz))) (m - l.toNat) (c1 - l.toNat) ys:=by have q:=aPd h hc;rw [Int.toNat_natCast,h.ln] at q;exact q
theorem aU0 {L0:List HP} {A:Option Addr} {m c1:Nat} {l u:Int} {xs ys:List α} (h:RdL L0 d A m c1 xs) (hc:kD xs l u=some ys):RdL L0 d (if c1=l.toNat then A else A.map (·.add (l.toNat * d.sz))) (u.toNat - l.toNat) (c1 - l.toNat) ys:=by obtain⟨h0,a,b,rfl⟩:=aCi hc;exact h.cut (by omega) (by omega)
theorem bDf {L0:List HP} {A:Option Addr} {m c1:Nat} {u:Int} {xs ys:List α} (h:RdL L0 d A m c1 xs) (hc:kD xs 0 u=some ys):RdL L0 d A u.toNat c1 ys:=by
 have q:=aU0 h hc;have e:(if c1=(0:Int).toNat then A else A.map (·.add ((0:Int).toNat * d.sz)))=A:=by cases A <;> simp [aDb]
 rw [e] at q;simpa using q
theorem bDg {L0:List HP} {A:Option Addr} {m c1:Nat} {l:Int} {xs ys:List α} (h:RdL L0 d A m c1 xs) (hc:kD xs l (xs.length:Int)=some ys):RdL L0 d (if c1=l.toNat then A else A.map (·.add (l.toNat * d.sz))) (m - l.toNat) (c1 - l.toNat) ys:=by have q:=aU0 h hc;rw [Int.toNat_natCast,h.ln] at q;exact q
theorem aAn {tmps:Array Value} {j t:Nat} (a:(ops[j]?).bind (·.dst)=some t) (b:tmps[t]?=some undef):yielded ops tmps j=none:=by
 unfold yielded;cases ho:ops[j]? with
 | none=>rfl
 | some o' =>
  rw [ho] at a;simp only [bGi] at a;simp [a,b,undef]
theorem aVl {j t t':Nat} {b:Bool} (hA:FR n D a F) (kk:∀ a',FR n D a' ((t',undef)::F)->wpList P ops Q rest a' w) (hg:o.guard=some (j,b):=by rfl) (c:(ops[j]?).bind (·.dst)=some t:=by rfl) (d:lk F t=some undef:=by rfl) (hd:o.dst=some t':=by rfl) (ht:Nat.blt t' n=true:=by rfl):wpList P ops Q (o::rest) a w:=by have e:=aAn (ops:=ops) c (hA.at_ t _ d);unfold wpList;rw [if_neg (by simp [Region.wanted,hg,e])];exact kk _ (by rw [hd];exact hA.put t' _ (by have:=Nat.le_of_ble_eq_true ht;omega))
theorem bEl {j t t':Nat} {b:Bool} (hA:FR n D a F) (c:(o.guard,(ops[j]?).bind (·.dst),lk F t,o.dst,Nat.blt t' n)=(some (j,b),some t,some undef,some t',true)) (kk:∀ a',FR n D a' ((t',undef)::F)->wpList P ops Q rest a' w):wpList P ops Q (o::rest) a w:=aVl (hA:=hA) (kk:=kk) (congrArg (·.1) c) (congrArg (·.2.1) c) (congrArg (·.2.2.1) c) (congrArg (·.2.2.2.1) c) (congrArg (·.2.2.2.2) c)
theorem rN {M:List Nat} {F0 VL:List (Nat×Value)} {p j t:Nat} {b:Bool} {o:Oper} (c:ops[p]?=some o) (d:lk VL p=some undef) (hg:o.guard=some (j,b)) (e:(ops[j]?).bind (·.dst)=some t) (E:List (Nat×Value)) (f:lk E t=some undef) (g:E.map (λq=>src ops M F0 VL p q.1)=E.map (λq=>some q.2):=by rfl):tN P ops n D M F0 VL w p :=
 ⟨o,undef,E,c,d,g,λa he=>by
  have h:=aAn (ops:=ops) e (he.at_ t _ f);unfold aMu;rw [if_neg (by simp [Region.wanted,hg,h])]⟩
theorem aZn {M:List Nat} {F0:List (Nat×Value)} {effs done:List Nat} {m e j t:Nat} {b:Bool} {o:Oper} {VL:List (Nat×Value)} (c:ops[e]?=some o) (hg:o.guard=some (j,b)) (d:(ops[j]?).bind (·.dst)=some t) (E:List (Nat×Value)) (f:lk E t=some undef) (NV:List (Nat×Value)) (g:NV.all (λq=>(lk ((e,undef)::VL) q.1).isNone)=true) (h:pG P ops Q n D M F0 effs m (e::done) (NV++(e,undef)::VL) w)
  (i:E.map (λq=>src ops M F0 VL e q.1)=E.map (λq=>some q.2):=by rfl):aHl P ops Q n D M F0 effs m done VL w e :=
 ⟨o,E,c,i,λa he=>by
  have k:=aAn (ops:=ops) d (he.at_ t _ f);rw [if_neg (by simp [Region.wanted,hg,k])];exact⟨NV,g,h⟩⟩
theorem fZ (hA:FR n D a F) (b:o.op=.move x:=by rfl) (hx:ev F x=some v:=by rfl):RunV P o a w v:=xK b (hA.ev hx)
theorem bD7 (hA:FR n D a F) (b:o.op=.assign x:=by rfl) (hx:ev F x=some v:=by rfl):RunV P o a w v:=aA5 b (hA.ev hx)
theorem nT {cx x y:Operand} {b:Bool} (hb:b=true) (hA:FR n D a F) (c:o.op=.pick cx x y:=by rfl) (hc:ev F cx=some (.bool b):=by rfl) (hx:ev F x=some v:=by rfl):RunV P o a w v:=aI2 c (by rw [hA.ev hc,hb]) (hA.ev hx)
theorem oJ {cx x y:Operand} {b:Bool} (hb:b=false) (hA:FR n D a F) (c:o.op=.pick cx x y:=by rfl) (hc:ev F cx=some (.bool b):=by rfl) (hx:ev F y=some v:=by rfl):RunV P o a w v:=aI1 c (by rw [hA.ev hc,hb]) (hA.ev hx)
theorem aR {s i off g b:Nat} (hf:FA P s i off) (hA:FR n D a F) (c:o.op=.fieldAddr s x i:=by rfl) (hx:ev F x=some (.pointer (some ⟨g,b,none⟩)):=by rfl):RunV P o a w (.pointer (some ⟨g,b+off,none⟩)):=by rw [← gJ];exact aAb hf c (hA.ev hx)
theorem kR {s i off m:Nat} {A:Option Addr} (hf:FA P s i off) (hA:FR n D a F) (b:o.op=.fieldAddr s x i:=by rfl) (hx:ev F x=some (.pointer (some (ea A m))):=by rfl):RunV P o a w (.pointer (some (ea A (m+off)))):=by rw [← gM];exact aAb hf b (hA.ev hx)
theorem sO {A:Option Addr} {m c:Nat} {xs:List α} (hu:P.underlying t'=some (.slice e)) (hn:xs.length=m) (hA:FR n D a F) (b:o.op=.call { callee:=.builtin .len,args:=#[x],argTypes:=#[t'] }:=by rfl) (hx:ev F x=some (.slice A m c):=by rfl):RunV P o a w (.int .i64 (xs.length:Int)):=by rw [hn];exact aCw hu b (hA.ev hx)
theorem fE {A:Option Addr} {m c sz:Nat} {xs:List α} {z:α} (hu:P.underlying t'=some (.slice e)) (hi:(P.info? e).map (·.size)=some sz) (hr:Rd d w A xs/\xs.length=m/\m<=c/\c<=maxLen) (hz:at_ xs i=some z) (hA:FR n D a F)
  (b:o.op=.indexAddr t' x y:=by rfl) (hx:ev F x=some (.slice A m c):=by rfl) (f:ev F y=some (.int k i):=by rfl):RunV P o a w (.pointer (some (ea A (i.toNat * sz)))) :=
 have h:=jL hz
 aGx hu hi b (hA.ev hx) (hA.ev f) (hr.1.isSome_ h.1 h.2.1) h.1 (by have:=hr.2.1;omega)
theorem aS {dd:TypeDesc} {ad:Addr} (hu:P.underlying t'=some dd) (hc:w.cell? ad=some v) (hA:FR n D a F) (hf:aF7 dd=true:=by rfl) (b:o.op=.load t' x:=by rfl) (hx:ev F x=some (.pointer (some ad)):=by rfl):RunV P o a w v:=aUw hu hf b (hA.ev hx) hc
theorem qD {dd:TypeDesc} {ad:Addr} {cs:List Value} (hu:P.underlying t'=some dd) (hi:(P.info? t').map (·.size)=some cs.length) (hc:∀ j u,cs[j]?=some u->w.cell? (ad.add j)=some u) (hA:FR n D a F) (hf:aF7 dd=false:=by rfl) (b:o.op=.load t' x:=by rfl) (hx:ev F x=some (.pointer (some ad)):=by rfl):RunV P o a w (.agg cs.toArray):=aKh hu hf hi b (hA.ev hx) hc
theorem bA0 {f:FuncId} {az:Array Operand} {ts:Array TypeId} {vals:Array Value} {R:Value->World->Prop} (hf:EN P f) (hA:FR n D a F) (hC:Ret P f vals w R) (kk:∀ v w',R v w'->K (a.put o.dst v) w') (b:o.op=.call { callee:=.value (.func f),args:=az,argTypes:=ts }:=by rfl) (c:az.toList.map (ev F)=vals.toList.map some:=by rfl):o.wp P a w K Q:=aTl hf b (evs hA c) hC kk
theorem eM {f:FuncId} {az:Array Operand} {ts:Array TypeId} {vals:Array Value} {R:Value->World->Prop} (hf:EN P f) (hA:FR n D a F) (hC:Ret P f vals w R) (b:(o.op,az.toList.map (ev F))=(.call { callee:=.value (.func f),args:=az,argTypes:=ts },vals.toList.map some)) (kk:∀ v w',R v w'->K (a.put o.dst v) w'):o.wp P a w K Q:=bA0 (hf:=hf) (hA:=hA) (hC:=hC) (kk:=kk) (congrArg (·.1) b) (congrArg (·.2) b)
theorem bEe (q:Nat) {g off:Nat} {cs vs:List Value} {L':List HP} (hi:(P.info? t').map (·.size)=some vs.length) (hA:FR n D a F) (hS:SH r L w) (hL:pk q L=blk g T cs::L') (kk:∀ w',SH r (blk g T (lD cs off vs)::L') w'->K (a.put o.dst undef) w')
  (c:o.op=.store t' x y:=by rfl) (hx:ev F x=some (.pointer (some ⟨g,off,none⟩)):=by rfl) (d:ev F y=some v:=by rfl) (b:v.cells.toList=vs:=by rfl) (e:vs.all (·.oneCell')=true:=by rfl) (hl:Nat.ble (off+vs.length) cs.length=true:=by rfl):o.wp P a w K Q:=aGq q hS hL c (hA.ev hx) (hA.ev d) b (λv b=>List.all_eq_true.1 e v b) (Nat.le_of_ble_eq_true hl) hi kk
theorem jY (q:Nat) {g off:Nat} {cs vs:List Value} {L':List HP} (hi:(P.info? t').map (·.size)=some vs.length) (hA:FR n D a F) (hS:SH r L w) (hL:pk q L=blk g T cs::L') (b:(o.op,ev F x,ev F y,v.cells.toList,vs.all (·.oneCell'),Nat.ble (off+vs.length) cs.length)=(.store t' x y,some (.pointer (some ⟨g,off,none⟩)),some v,vs,true,true)) (kk:∀ w',SH r (blk g T (lD cs off vs)::L') w'->K (a.put o.dst undef) w'):o.wp P a w K Q:=bEe (q:=q) (hi:=hi) (hA:=hA) (hS:=hS) (hL:=hL) (kk:=kk) (congrArg (·.1) b) (congrArg (·.2.1) b) (congrArg (·.2.2.1) b) (congrArg (·.2.2.2.1) b) (congrArg (·.2.2.2.2.1) b) (congrArg (·.2.2.2.2.2) b)
theorem aOj (q:Nat) {A:Option Addr} {n1 c1 off j:Nat} {xs:List α} {z z':α} {vs:List Value} {L':List HP} (hi:(P.info? t').map (·.size)=some vs.length) (hA:FR n D a F) (hS:SH r L w) (hL:pk q L=own d e A n1 c1 xs::L') (f:xs[j]?=some z) (g:∀ c,d.V z c->d.V z' (lD c off vs)) (kk:∀ w',SH r (own d e A n1 c1 (xs.set j z')::L') w'->K (a.put o.dst undef) w')
  (h:o.op=.store t' x y:=by rfl) (hx:ev F x=some (.pointer (some (ea A (j * d.sz+off)))):=by rfl) (i:ev F y=some v:=by rfl) (b:v.cells.toList=vs:=by rfl) (k:vs.all (·.oneCell')=true:=by rfl) (hl:Nat.ble (off+vs.length) d.sz=true:=by rfl):o.wp P a w K Q:=aGr q hS hL h (hA.ev hx) (hA.ev i) b (λv b=>List.all_eq_true.1 k v b) (Nat.le_of_ble_eq_true hl) hi f g kk
theorem bEb {m:Nat} {parts:Array (Nat×Operand)} {ps:Array (Nat×Value)} {cells:List Value} {xs:List α}
  (hr:∀ w:World,(Instr.buildSlice t' m ps).run P w=.ok (.slice (some ⟨w.heap.size,0,none⟩) m m) (w.alloc (.cells cells.toArray e))) (hm:xs.length=m) (hL:Lay d xs cells) (hA:FR n D a F) (hS:SH r L w) (kk:∀ g w',SH r (own d e (some ⟨g,0,none⟩) m m xs::L) w'->K (a.put o.dst (.slice (some ⟨g,0,none⟩) m m)) w')
  (b:o.op=.buildSlice t' m parts:=by rfl) (hx:parts.toList.map (λp=>(p.1,ev F p.2))=ps.toList.map (λp=>(p.1,some p.2)):=by rfl) (c:Nat.ble m 65536=true:=by rfl):o.wp P a w K Q :=
 aFa hS b (ps:=ps) (lN hA hx) hr hm (by have:=Nat.le_of_ble_eq_true c;simp only [maxLen];omega) hL kk
theorem eW {m:Nat} {parts:Array (Nat×Operand)} {ps:Array (Nat×Value)} {cells:List Value} {xs:List α}
  (hr:∀ w:World,(Instr.buildSlice t' m ps).run P w=.ok (.slice (some ⟨w.heap.size,0,none⟩) m m) (w.alloc (.cells cells.toArray e))) (hm:xs.length=m) (hL:Lay d xs cells) (hA:FR n D a F) (hS:SH r L w) (b:(o.op,parts.toList.map (λp=>(p.1,ev F p.2)),Nat.ble m 65536)=(.buildSlice t' m parts,ps.toList.map (λp=>(p.1,some p.2)),true)) (kk:∀ g w',SH r (own d e (some ⟨g,0,none⟩) m m xs::L) w'->K (a.put o.dst (.slice (some ⟨g,0,none⟩) m m)) w'):o.wp P a w K Q:=bEb (hr:=hr) (hm:=hm) (hL:=hL) (hA:=hA) (hS:=hS) (kk:=kk) (congrArg (·.1) b) (congrArg (·.2.1) b) (congrArg (·.2.2) b)
theorem bEa (q:Nat) {z:Value} {bytes n1 c1 n2 c2:Nat} {A A2:Option Addr} {xs ys:List α} {L':List HP} (hi:(P.info? e).map (λi=>(i.zero,i.size,i.bytes))=some (some z,d.sz,bytes)) (ht':P.underlying t'=some (.slice e)) (hA:FR n D a F) (hS:SH r L w) (hr:Rd d w A2 ys) (hn2:ys.length=n2)
  (hb:xs.length+ys.length<=140737488355328 / bytes) (hL:pk q L=own d e A n1 c1 xs::L') (kk:∀ b c f w',SH r (own d e b c f (xs++ys)::L') w'->K (a.put o.dst (.slice b c f)) w')
  (hz:z.cells.size=d.sz:=by rfl) (g:Nat.blt 0 d.sz=true:=by rfl) (h:Nat.blt 0 bytes=true:=by rfl) (j:o.op=.call { callee:=.builtin .append,args:=#[x,y],argTypes:=#[t',t'] }:=by rfl) (hx:ev F x=some (.slice A n1 c1):=by rfl) (k:ev F y=some (.slice A2 n2 c2):=by rfl):o.wp P a w K Q :=
 have m:=Nat.le_of_ble_eq_true h;have l:(xs.length+ys.length) * bytes<=140737488355328:=Nat.le_trans (Nat.mul_le_mul_right _ hb) (Nat.div_mul_le_self _ _)
 aNa q hS hL ht' hi hz (by have:=Nat.le_of_ble_eq_true g;omega) j (hA.ev hx) (hA.ev k) hr hn2 (by
  have p:(xs.length+ys.length) * 1<=(xs.length+ys.length) * bytes:=Nat.mul_le_mul_left _ (by omega);simp only [maxLen];omega) l kk
theorem cJ (q:Nat) {z:Value} {bytes n1 c1 n2 c2:Nat} {A A2:Option Addr} {xs ys:List α} {L':List HP} (hi:(P.info? e).map (λi=>(i.zero,i.size,i.bytes))=some (some z,d.sz,bytes)) (ht':P.underlying t'=some (.slice e)) (hA:FR n D a F) (hS:SH r L w) (hr:Rd d w A2 ys) (hn2:ys.length=n2)
  (hb:xs.length+ys.length<=140737488355328 / bytes) (hL:pk q L=own d e A n1 c1 xs::L') (b:(z.cells.size,Nat.blt 0 d.sz,Nat.blt 0 bytes,o.op,ev F x,ev F y)=(d.sz,true,true,.call { callee:=.builtin .append,args:=#[x,y],argTypes:=#[t',t'] },some (.slice A n1 c1),some (.slice A2 n2 c2))) (kk:∀ c f g w',SH r (own d e c f g (xs++ys)::L') w'->K (a.put o.dst (.slice c f g)) w'):o.wp P a w K Q:=bEa (q:=q) (hi:=hi) (ht':=ht') (hA:=hA) (hS:=hS) (hr:=hr) (hn2:=hn2) (hb:=hb) (hL:=hL) (kk:=kk) (congrArg (·.1) b) (congrArg (·.2.1) b) (congrArg (·.2.2.1) b) (congrArg (·.2.2.2.1) b) (congrArg (·.2.2.2.2.1) b) (congrArg (·.2.2.2.2.2) b)
end
end Go.Proofs.YtdkpjpoajlmmfaaGreatDoor.E
