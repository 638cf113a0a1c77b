/- Texts of the claim, joined: what it uses of Si, Sj, Sk, Sl, Sm, Sn, So, Sp, Sq, Sr, Ss, St, Ta, Tb, Tc, Tg, Ua, Wa, Wb, Wc, Wd, We, Wf. -/
import Derived.Test.YtdkpjpoajlmmfaaGreatDoorZl
import Derived.Lib.ParseIntB
namespace Go.Proofs.YtdkpjpoajlmmfaaGreatDoor.P
open Go Go.RowKit Go.Proofs.YtdkpjpoajlmmfaaGreatDoor.E Go.Proofs.YtdkpjpoajlmmfaaGreatDoor.M
set_option linter.unusedVariables false
set_option linter.unusedSectionVars false
def ckF (c:S90) (e:S61):S90 :=
 ⟨c.f0,c.f1,if e.f0<c.f2 then e.f0 else c.f2,if c.f3<e.f0 then e.f0 else c.f3,if e.f2<c.f4 then e.f2 else c.f4,if c.f5<e.f2 then e.f2 else c.f5,
  if (Op.bytesLess c.f6 e.f3||c.f6==e.f3)=true then c.f6 else e.f3,if Op.bytesLess c.f7 e.f3=true then e.f3 else c.f7⟩
def ck0 (l:List S61) (a:Int) (e:S61):S90:=⟨(l.length:Int),a,e.f0,e.f0,e.f2,e.f2,e.f3,e.f3⟩
def ckL (l:List S61) (a:Int):S90:=match l with
 | []=>⟨0,a,0,0,0,0,[],[]⟩
 | e::_=>l.foldl ckF (ck0 l a e)
theorem aR8 (l:List S61) (c:S90):(l.foldl ckF c).f0=c.f0/\(l.foldl ckF c).f1=c.f1:=by
 induction l generalizing c with
 | nil=>exact⟨rfl,rfl⟩
 | cons e l ih=>exact ih (ckF c e)
theorem aN8 (l:List S61) (a:Int):(ckL l a).f0=(l.length:Int)/\(ckL l a).f1=a:=by
 unfold ckL;cases l with
 | nil=>exact⟨rfl,rfl⟩
 | cons e l=>exact aR8 _ _
theorem aHd {α β:Type} (f:β->α->β) (b:β) {l:List α} {k:Nat} {x:α} (h:l[k]?=some x):(l.take (k+1)).foldl f b=f ((l.take k).foldl f b) x:=by rw [List.take_add_one,h,List.foldl_append]; rfl
theorem aGz {l:List S61} (h:0<l.length) (hl:l.length<4611686018427387904) (a:Int):pZ l a=some (ckL l a):=by
 cases l with
 | nil=>simp at h
 | cons e r =>
  obtain⟨m,hm⟩:∃ m,m=e::r:=⟨_,rfl⟩;rw [← hm] at hl ⊢;have h0:at_ m 0=some e:=by subst hm; rfl
  unfold pZ;rw [h0];simp only [Option.bind_some];have hk:=kC (b:=λs:Int×Int×Int×Int×List UInt8×List UInt8×Int=>iF m s.1 s.2.1 s.2.2.1 s.2.2.2.1 s.2.2.2.2.1 s.2.2.2.2.2.1 s.2.2.2.2.2.2)
   (λk=>(((m.take k).foldl ckF (ck0 m a e)).f2,((m.take k).foldl ckF (ck0 m a e)).f3,((m.take k).foldl ckF (ck0 m a e)).f4,((m.take k).foldl ckF (ck0 m a e)).f5,((m.take k).foldl ckF (ck0 m a e)).f6,((m.take k).foldl ckF (ck0 m a e)).f7,(k:Int)))
   (t:=((m.foldl ckF (ck0 m a e)).f2,(m.foldl ckF (ck0 m a e)).f3,(m.foldl ckF (ck0 m a e)).f4,(m.foldl ckF (ck0 m a e)).f5,(m.foldl ckF (ck0 m a e)).f6,(m.foldl ckF (ck0 m a e)).f7)) m.length (λk hk=>by
    have hx:=List.getElem?_eq_getElem (l:=m) (i:=k) hk;show iF m _ _ _ _ _ _ (k:Int)=_;unfold iF;rw [if_pos (by simp only [decide_eq_true_eq]; omega),bE rfl hx];simp only [Option.bind_some,lt_];rw [w64 (by omega) (by omega),aHd ckF _ hx];rfl) (by
    show iF m _ _ _ _ _ _ ((m.length:Nat):Int)=_;unfold iF;rw [if_neg (by simp only [decide_eq_true_eq]; omega),List.take_length])
  have e0:ckL m a=m.foldl ckF (ck0 m a e):=by subst hm; rfl
  refine (congrArg (λo:Option (Int×Int×Int×Int×List UInt8×List UInt8)=>o.bind λt=>mI m a t.1 t.2.1 t.2.2.1 t.2.2.2.1 t.2.2.2.2.1 t.2.2.2.2.2) hk).trans ?_;unfold mI rT;simp only [Option.bind_some];obtain⟨d,f⟩:=aR8 m (ck0 m a e);rw [e0];generalize m.foldl ckF (ck0 m a e)=c at d f ⊢;obtain⟨g,c1,c2,c3,j,n,p,q⟩:=c;simp only [ck0] at d f;subst d;subst f;rfl
def ckB (c:S90):List Int:=uv c.f0.toNat++(uv c.f1.toNat++(uv c.f2.toNat++(uv c.f3.toNat++(uv (zz c.f4)++(uv (zz c.f5)++(uv c.f6.length++(stb c.f6++(uv c.f7.length++stb c.f7))))))))
def pgL (c:List S61):List Int:=fB 101 (vA c)
def aS (cs:List (List S61)):List Int:=cs.flatMap pgL
def dR:List (List S61)->Nat->List S90
 | [],_=>[]
 | c::r,a=>ckL c (a:Int)::dR r (a+(pgL c).length)
def sD (k:Nat) (cs:List S90):List Int:=uv k++(uv cs.length++cs.flatMap ckB)
def qS (l:List S61) (k:Nat):List Int :=
 aS (pcs 64 l)++fB 102 (sD k (dR (pcs 64 l) 0))++fB 116 (iW (aS (pcs 64 l)).length)
def Gd (e:S61):Prop:=(0<=e.f0/\e.f0<18446744073709551616)/\e.f4<18446744073709551616
theorem aZ3 {l:List S61} (h:gL 48 g61 l):∀ e∈l,Gd e:=λe he=>by obtain⟨a,c,d,f,b⟩:=h.2 e he;unfold gI Lit.wf at a;simp only [Bool.and_eq_true,decide_eq_true_eq] at a;refine⟨⟨a.1,Int.lt_of_le_of_lt a.2 (by decide)⟩,?_⟩;unfold gF Lit.wf at b;simpa using b
structure Run (k a:Int) (l:List S61):Prop where
 fm:∀ e∈l,pM e k=true
 gd:∀ e∈l,Gd e
 of:∀ (i:Nat) (x:S61),l[i]?=some x->x.f0=a+i
theorem xE {e:S61} {k:Int} (h:pM e k=true):0<=e.f1/\e.f1<k /\ -1099511627776<=e.f2/\e.f2<=1099511627776/\e.f3.length<=32/\e.f0<1099511627776:=by unfold pM at h;simp only [Bool.and_eq_true,decide_eq_true_eq] at h;omega
section
variable {k a:Int} {l:List S61}
theorem Run.laid (h:Run k a l) (hk:k<=8):aRk l:=λe he=>by have d:=xE (h.fm e he);obtain⟨b,c⟩:=h.gd e he;unfold i64;exact⟨b,by omega,by omega,by omega,c⟩
theorem Run.drop (h:Run k a l) (n:Nat):Run k (a+n) (l.drop n) :=
 ⟨λe he=>h.fm e (List.mem_of_mem_drop he),λe he=>h.gd e (List.mem_of_mem_drop he),λi x hx=>by
  rw [List.getElem?_drop] at hx;have:=h.of _ x hx;omega⟩
theorem Run.take (h:Run k a l) (n:Nat):Run k a (l.take n) :=
 ⟨λe he=>h.fm e (List.mem_of_mem_take he),λe he=>h.gd e (List.mem_of_mem_take he),λi x hx=>by
  rw [List.getElem?_take] at hx;split at hx
  ·exact h.of _ x hx
  ·cases hx⟩
end
def flt (k a:Int):List S61->Nat->Option Int
 | [],_=>none
 | e::r,i=>if pM e k=true then (if e.f0=a+i then flt k a r (i+1) else some 8) else some 3
theorem aP0 {k a:Int}:∀ {l:List S61} {i:Nat},flt k a l i=none->(∀ e∈l,Gd e)->Run k (a+i) l
 | [],i,_,_=>⟨λe he=>(by cases he),λe he=>(by cases he),λi x hx=>(by simp at hx)⟩
 | e::r,i,h,hg=>by
  unfold flt at h;split at h
  ·rename_i hf;split at h
   ·rename_i h0;have ih:=aP0 h λx hx=>hg x (List.mem_cons_of_mem _ hx);refine⟨λx hx=>?_,hg,λj x hx=>?_⟩
    ·rcases List.mem_cons.1 hx with rfl | hx
     ·exact hf
     ·exact ih.fm x hx
    ·cases j with
     | zero=>simp at hx; subst hx; simpa using h0
     | succ j =>
      have:=ih.of j x (by simpa using hx);omega
   ·cases h
  ·cases h
theorem aNm {k a:Int}:∀ {l:List S61} {i:Nat},Run k (a+i) l->flt k a l i=none
 | [],i,_=>rfl
 | e::r,i,h=>by unfold flt;have h0:=h.of 0 e rfl;rw [if_pos (h.fm e List.mem_cons_self),if_pos (by simpa using h0)];refine aNm ⟨λx hx=>h.fm x (List.mem_cons_of_mem _ hx),λx hx=>h.gd x (List.mem_cons_of_mem _ hx),λj x hx=>?_⟩;have:=h.of (j+1) x (by simpa using hx);omega
section
variable {k:Int} {l:List S61} {e0:S61} (hg:∀ e∈l,Gd e) (h0:l[0]?=some e0) (hlen:l.length<=1024)
include hg h0 hlen
theorem aPt:∀ (m i:Nat),i+m=l.length->(i=0\/e0.f0<1099511627776) ->
  loop (λs:Int=>iB l k s) (i:Int)=some (match flt k e0.f0 (l.drop i) i with | none=>.inl () | some c=>.inr ([],c))
 | 0,i,hi,_=>by rw [List.drop_of_length_le (by omega)];refine bK ?_;show iB l k (i:Int)=_;unfold iB;rw [if_neg (by simp only [decide_eq_true_eq]; omega)];rfl
 | m+1,i,hi,hs=>by
  have a:i<l.length:=by omega
  have hx:=List.getElem?_eq_getElem (l:=l) (i:=i) a;obtain⟨⟨b,d⟩,e⟩:=hg _ (List.getElem_mem a);obtain⟨⟨f,g⟩,j⟩:=hg e0 (List.mem_of_getElem? h0);rw [List.drop_eq_getElem_cons a];have hl:iB l k (i:Int)=if pM l[i] k=true then (if l[i].f0=e0.f0+i then some (.inl ((i+1:Nat):Int)) else some (.inr (.inr ([],8)))) else some (.inr (.inr ([],3))):=by
   unfold iB;rw [if_pos (by simp only [decide_eq_true_eq]; omega),bE rfl hx];simp only [Option.bind_some,lt_];rw [aLd];simp only [Option.bind_some];cases hf:pM l[i] k with
   | false=>rfl
   | true =>
    have o:=xE hf;rw [if_neg (by simp),show at_ l 0=some e0 from h0];simp only [Option.bind_some];have hw:IntKind.u64.wrap (e0.f0+IntKind.u64.wrap (i:Int))=e0.f0+i\/i=0:=by
     rcases hs with h | h
     ·exact .inr h
     ·left; rw [oM (n:=(i:Int)) (by omega) (by omega),oM (by omega) (by omega)]
    have hw:IntKind.u64.wrap (e0.f0+IntKind.u64.wrap (i:Int))=e0.f0+i:=by
     rcases hw with h | h
     ·exact h
     ·subst h;rw [oM (n:=((0:Nat):Int)) (by omega) (by omega),oM (by omega) (by omega)]
    rw [hw];by_cases he:l[i].f0=e0.f0+i
    ·rw [if_neg (by simpa using he),if_pos trivial,if_pos he,w64 (by omega) (by omega)]; rfl
    ·rw [if_pos (by simpa using he),if_pos trivial,if_neg he]
  unfold flt;by_cases hf:pM l[i] k=true
  ·rw [if_pos hf] at hl ⊢;by_cases he:l[i].f0=e0.f0+i
   ·rw [if_pos he] at hl ⊢;refine (cL hl).trans (aPt m (i+1) (by omega) ?_);have:=xE hf;right; omega
   ·rw [if_neg he] at hl ⊢;exact bK hl
  ·rw [if_neg hf] at hl ⊢;exact bK hl
end
theorem aX9 {α:Type} {q:Nat} (a:1<=q) (xs:List α) (k:Nat):(pcs q xs)[k]?=if k * q<xs.length then some ((xs.drop (k * q)).take q) else none:=by
 split
 ·rename_i h; exact aE5 a h
 ·rename_i h;rw [List.getElem?_eq_none];rw [zN];have:=(aAf (m:=xs.length) (k:=k) a);omega
structure Cut (k:Int) (c:List S61):Prop where
 ps:0<c.length
 le:c.length<=64
 run:∃ a:Int,0<=a/\a+c.length<=1099511627776/\Run k a c
theorem Run.cut {k a:Int} {l:List S61} (h:Run k a l) (d:0<=a/\(0<l.length->a+l.length<=1099511627776)):∀ c∈pcs 64 l,Cut k c:=by
 intro c hc;obtain⟨j,b⟩:=List.getElem?_of_mem hc;rw [aX9 (by decide)] at b;split at b
 ·rename_i e;cases b;have hr:=(h.drop (j * 64)).take 64;have:=d.2 (by omega);exact⟨by simp; omega,by simp; omega,a+(j * 64:Nat),by omega,by simp only [List.length_take,List.length_drop]; omega,hr⟩
 ·cases b
theorem aKr:∀ (l:List S61) (c:S90),((l.foldl ckF c).f2<=c.f2/\∀ e∈l,(l.foldl ckF c).f2<=e.f0)/\(c.f3<=(l.foldl ckF c).f3/\∀ e∈l,e.f0<=(l.foldl ckF c).f3)/\((l.foldl ckF c).f4<=c.f4/\∀ e∈l,(l.foldl ckF c).f4<=e.f2)/\(c.f5<=(l.foldl ckF c).f5/\∀ e∈l,e.f2<=(l.foldl ckF c).f5)
 | [],c=>by simp
 | x::l,c=>by
  obtain⟨⟨b,a2⟩,⟨b1,b2⟩,⟨c1,c2⟩,d,a⟩:=aKr l (ckF c x);simp only [List.foldl_cons];generalize l.foldl ckF (ckF c x)=z at *;have f:(ckF c x).f2<=c.f2/\(ckF c x).f2<=x.f0:=by show (if x.f0<c.f2 then x.f0 else c.f2)<=_/\(if x.f0<c.f2 then x.f0 else c.f2)<=_; split <;> omega
  have g:c.f3<=(ckF c x).f3/\x.f0<=(ckF c x).f3:=by show _<=(if c.f3<x.f0 then x.f0 else c.f3)/\_<=(if c.f3<x.f0 then x.f0 else c.f3); split <;> omega
  have h:(ckF c x).f4<=c.f4/\(ckF c x).f4<=x.f2:=by show (if x.f2<c.f4 then x.f2 else c.f4)<=_/\(if x.f2<c.f4 then x.f2 else c.f4)<=_; split <;> omega
  have i:c.f5<=(ckF c x).f5/\x.f2<=(ckF c x).f5:=by show _<=(if c.f5<x.f2 then x.f2 else c.f5)/\_<=(if c.f5<x.f2 then x.f2 else c.f5); split <;> omega
  refine⟨⟨by omega,λe he=>?_⟩,⟨by omega,λe he=>?_⟩,⟨by omega,λe he=>?_⟩,by omega,λe he=>?_⟩ <;> rcases List.mem_cons.1 he with rfl | he
  ·omega
  ·exact a2 e he
  ·omega
  ·exact b2 e he
  ·omega
  ·exact c2 e he
  ·omega
  ·exact a e he
theorem aGt (p2 a:Int->Prop) (b:List UInt8->Prop):∀ (l:List S61) (c:S90),(p2 c.f2/\p2 c.f3)/\(a c.f4/\a c.f5)/\(b c.f6/\b c.f7)->(∀ e∈l,p2 e.f0/\a e.f2/\b e.f3) ->
  (p2 (l.foldl ckF c).f2/\p2 (l.foldl ckF c).f3)/\(a (l.foldl ckF c).f4/\a (l.foldl ckF c).f5)/\(b (l.foldl ckF c).f6/\b (l.foldl ckF c).f7)
 | [],c,h,_=>h
 | x::l,c,h,hl=>by
  obtain⟨d,f,g⟩:=hl x List.mem_cons_self;refine aGt p2 a b l (ckF c x) ?_ λe he=>hl e (List.mem_cons_of_mem _ he);obtain⟨⟨i,j⟩,⟨k,m⟩,n,o⟩:=h;refine⟨⟨?_,?_⟩,⟨?_,?_⟩,?_,?_⟩
  ·show p2 (if x.f0<c.f2 then x.f0 else c.f2); split <;> assumption
  ·show p2 (if c.f3<x.f0 then x.f0 else c.f3); split <;> assumption
  ·show a (if x.f2<c.f4 then x.f2 else c.f4); split <;> assumption
  ·show a (if c.f5<x.f2 then x.f2 else c.f5); split <;> assumption
  ·show b (if (Op.bytesLess c.f6 x.f3||c.f6==x.f3)=true then c.f6 else x.f3); split <;> assumption
  ·show b (if Op.bytesLess c.f7 x.f3=true then x.f3 else c.f7); split <;> assumption
structure CkOk (c:S90):Prop where
 r0:0<c.f0/\c.f0<=64
 r1:0<=c.f1
 r2:0<=c.f2/\c.f2<=c.f3/\c.f3<1099511627776/\c.f3 - c.f2=c.f0 - 1
 r4:(-1099511627776<=c.f4/\c.f4<=1099511627776)/\(-1099511627776<=c.f5/\c.f5<=1099511627776)
 r6:c.f6.length<=32/\c.f7.length<=32
theorem aHq {k a:Int} {c:List S61} (h:Run k a c) (hc:0<c.length):∃ x y,c[0]?=some x/\c[c.length - 1]?=some y/\x.f0=a/\y.f0=a+c.length - 1/\x∈c/\y∈c:=by have hx:=List.getElem?_eq_getElem (l:=c) (i:=0) hc;have b:=List.getElem?_eq_getElem (l:=c) (i:=c.length - 1) (by omega);have d:=h.of 0 _ hx;have e:=h.of _ _ b;exact⟨_,_,hx,b,by omega,by omega,List.getElem_mem _,List.getElem_mem _⟩
theorem aEs {k a:Int} {c:List S61} (h:Run k a c) (hc:0<c.length) (p:Int):(ckL c p).f2=a/\(ckL c p).f3=a+c.length - 1:=by
 obtain⟨x,y,hx,b,ex,ey,mx,my⟩:=aHq h hc;have e:ckL c p=c.foldl ckF (ck0 c p x):=by
  cases c with
  | nil=>simp at hc
  | cons z c=>simp at hx; subst hx; rfl
 rw [e];obtain⟨⟨d,a2⟩,⟨b1,b2⟩,_⟩:=aKr c (ck0 c p x);have hi:=aGt (λv=>a<=v/\v<=a+c.length - 1) (λ_=>True) (λ_=>True) c (ck0 c p x) ⟨⟨by show a<=x.f0/\x.f0<=a+c.length - 1; omega,by show a<=x.f0/\x.f0<=a+c.length - 1; omega⟩,⟨trivial,trivial⟩,trivial,trivial⟩ λe he=>⟨by
  obtain⟨i,hi⟩:=List.getElem?_of_mem he;have:=h.of i e hi;have:=(List.getElem?_eq_some_iff.1 hi).1;omega,trivial,trivial⟩
 have f:=a2 x mx;have g:=b2 y my;omega
theorem Cut.ok {k:Int} {c:List S61} (h:Cut k c) {p:Int} (hp:0<=p):CkOk (ckL c p):=by
 obtain⟨a,h0,d,hr⟩:=h.run;have b:=h.ps;have hle:=h.le;obtain⟨f,g⟩:=aEs hr h.ps p;obtain⟨e0,i⟩:=aN8 c p;obtain⟨x,y,hx,j,ex,ey,mx,my⟩:=aHq hr h.ps;have e:ckL c p=c.foldl ckF (ck0 c p x):=by
  cases c with
  | nil=>simp at b
  | cons z c=>simp at hx; subst hx; rfl
 have hf:∀ e∈c,(-1099511627776<=e.f2/\e.f2<=1099511627776)/\e.f3.length<=32:=λe he=>by have:=xE (hr.fm e he); omega
 have hi:=aGt (λ_=>True) (λv => -1099511627776<=v/\v<=1099511627776) (λs=>s.length<=32) c (ck0 c p x) ⟨⟨trivial,trivial⟩,⟨(hf x mx).1,(hf x mx).1⟩,(hf x mx).2,(hf x mx).2⟩ λe he=>⟨trivial,(hf e he).1,(hf e he).2⟩;rw [← e] at hi;exact⟨by omega,by omega,by omega,hi.2.1,hi.2.2⟩
theorem CkOk.len {c:S90} (h:CkOk c) (a:c.f1<18446744073709551616):(ckB c).length<=144:=by
 obtain⟨a0,b,a2,a4,d⟩:=h;have e:=aM (n:=c.f0.toNat) (by omega);have f:=aM (n:=c.f1.toNat) (by omega);have g:=aM (n:=c.f2.toNat) (by omega);have i:=aM (n:=c.f3.toNat) (by omega);have j:=aM (n:=zz c.f4) (wF (by unfold i64; omega));have k:=aM (n:=zz c.f5) (wF (by unfold i64; omega));have l:=aM (n:=c.f6.length) (by omega);have m:=aM (n:=c.f7.length) (by omega);have o:(stb c.f6).length=c.f6.length:=by simp [stb]
 have p:(stb c.f7).length=c.f7.length:=by simp [stb]
 unfold ckB;simp only [List.length_append];omega
theorem Cut.pg {k:Int} {c:List S61} (h:Cut k c) (hk:k<=8):aRk c/\(pgL c).length<=6100/\9<=(pgL c).length/\Bs (pgL c):=by obtain⟨a,h0,b,hr⟩:=h.run;have hle:=h.le;have hL:=hr.laid hk;have hb:=aC9 (by omega) hL;have e:=jC 101 (vA c);exact⟨hL,by unfold pgL; omega,by unfold pgL; omega,aAo (by decide) (aM6 (by omega) hL)⟩
theorem yG (cs ds:List (List S61)):aS (cs++ds)=aS cs++aS ds:=by simp [aS]
theorem yT:∀ (cs:List (List S61)) (a:Nat),(dR cs a).length=cs.length
 | [],_=>rfl
 | c::cs,a=>by simp [dR,yT cs]
theorem aCr {k:Int} (hk:k<=8):∀ {cs:List (List S61)},(∀ c∈cs,Cut k c)->(aS cs).length<=6100 * cs.length/\9 * cs.length<=(aS cs).length/\Bs (aS cs)
 | [],_=>⟨by simp [aS],by simp [aS],Bs.nil⟩
 | c::cs,h=>by obtain⟨a,b,d⟩:=aCr hk λx hx=>h x (List.mem_cons_of_mem _ hx);obtain⟨_,f,g,e⟩:=(h c List.mem_cons_self).pg hk;rw [show aS (c::cs)=pgL c++aS cs from rfl];exact⟨by simp; omega,by simp; omega,e.app d⟩
theorem aOp {k:Int} (hk:k<=8):∀ {cs:List (List S61)} {a:Nat},(∀ c∈cs,Cut k c)->∀ x∈dR cs a,CkOk x/\x.f1<=((a+(aS cs).length:Nat):Int)/\(0<cs.length->x.f1<((a+(aS cs).length:Nat):Int))
 | [],a,_,x,hx=>by cases hx
 | c::cs,a,h,x,hx=>by
  have hc:=h c List.mem_cons_self;obtain⟨_,d,f,g⟩:=hc.pg hk;rw [show aS (c::cs)=pgL c++aS cs from rfl,List.length_append];rcases List.mem_cons.1 hx with rfl | hx
  ·have e:=(aN8 c (a:Int)).2;exact⟨hc.ok (by omega),by rw [e]; omega,λ_=>by rw [e]; omega⟩
  ·obtain⟨b,i,i3⟩:=aOp hk (λx hx=>h x (List.mem_cons_of_mem _ hx)) x hx;refine⟨b,by omega,λ_=>?_⟩;have:0<cs.length:=by rw [← yT cs (a+(pgL c).length)];exact List.length_pos_of_mem hx
   have:=i3 this;omega
theorem aM9 {ns:List Nat} (h:∀ n∈ns,n<18446744073709551616) (p:List Int) (hl:p.length+10 * ns.length<=140737488355000):pX p (ns.map λn:Nat=>(n:Int))=some (p++ns.flatMap uv):=by
 have hb:∀ m,m<=ns.length->((ns.take m).flatMap uv).length<=10 * m:=by
  intro m
  induction m with
  | zero=>intro _; simp
  | succ m ih =>
   intro hm;have hx:=List.getElem?_eq_getElem (l:=ns) (i:=m) (by omega);have:=aM (h _ (List.getElem_mem (l:=ns) (n:=m) (by omega)));rw [List.take_add_one,hx,List.flatMap_append,List.length_append];have:=ih (by omega);simp only [Option.toList_some,List.flatMap_cons,List.flatMap_nil,List.append_nil];omega
 unfold pX;have hk:=kC (b:=λs:List Int×Int=>iH (ns.map λn:Nat=>(n:Int)) s.1 s.2) (λk=>(p++(ns.take k).flatMap uv,(k:Int))) (t:=p++ns.flatMap uv) ns.length (λk hk=>by
  have hx:=List.getElem?_eq_getElem (l:=ns) (i:=k) hk;have a:(ns.map λn:Nat=>(n:Int))[k]?=some ((ns[k]:Nat):Int):=by rw [List.getElem?_map,hx]; rfl
  show iH _ _ (k:Int)=_;unfold iH;have c:=hb k (by omega);have d:=aM (h _ (List.getElem_mem hk));rw [if_pos (by simp only [decide_eq_true_eq,List.length_map]; omega),bE rfl a];simp only [Option.bind_some];rw [sN _ _ (h _ (List.getElem_mem hk)) (by simp only [List.length_append]; omega)];simp only [Option.bind_some,lt_];rw [w64 (by omega) (by omega),List.take_add_one,hx,List.flatMap_append];simp only [Option.toList_some,List.flatMap_cons,List.flatMap_nil,List.append_nil,List.append_assoc];rfl) (by
  show iH _ _ ((ns.length:Nat):Int)=_;unfold iH;rw [if_neg (by simp),List.take_length])
 rw [show (p,(0:Int))=(p++(ns.take 0).flatMap uv,((0:Nat):Int)) by simp,hk];rfl
def WL (k:Int) (l:List S61):List Int×Int :=
 if l.length=0\/k<1\/8<k then ([],1) else if 1024<l.length then ([],2) else
 match flt k (l.head?.map (·.f0) |>.getD 0) l 0 with
 | some c=>([],c)
 | none=>(qS l k.toNat,0)
section
variable {k:Int} (hk:k<=8)
include hk
theorem aJl:∀ (cs:List (List S61)) (p:List Int) (ch:List S90),(∀ c∈cs,Cut k c)->p.length+6100 * cs.length<=1000000->ch.length+cs.length<=100000 ->
  cs.foldlM (λ(s:List Int×List S90) l=>lZ s.1 s.2 l) (p,ch)=some (p++aS cs,ch++dR cs p.length)
 | [],p,ch,_,_,_=>by simp [aS,dR]
 | c::cs,p,ch,h,hp,hch=>by
  have hc:=h c List.mem_cons_self;obtain⟨hL,a,b,d⟩:=hc.pg hk;have hle:=hc.le;simp only [List.length_cons] at hp hch;rw [List.foldlM_cons];have e:lZ p ch c=some (p++pgL c,ch++[ckL c (p.length:Int)]):=by unfold lZ;rw [aGz hc.ps (by omega)];simp only [Option.bind_some];rw [bL (by simp; omega),aLf (by omega) hL (by omega)];rfl
  simp only [e,Option.bind_eq_bind,Option.bind_some];rw [aJl cs _ _ (λx hx=>h x (List.mem_cons_of_mem _ hx)) (by simp only [List.length_append]; omega) (by simp; omega)];simp [aS,dR]
end
theorem aUv {k:Int} (l:List S90) (h:∀ c∈l,CkOk c/\c.f1<1099511627776) (hl:l.length<=1000) (p:List Int) (hp:p.length<=100) :
  loop (λs:List Int×Int=>gK l s.1 s.2) (p,0)=some (p++l.flatMap ckB):=by
 have hb:∀ m,m<=l.length->((l.take m).flatMap ckB).length<=144 * m:=by
  intro m
  induction m with
  | zero=>intro _; simp
  | succ m ih =>
   intro hm;have hx:=List.getElem?_eq_getElem (l:=l) (i:=m) (by omega);obtain⟨a,d⟩:=h _ (List.getElem_mem (l:=l) (n:=m) (by omega));have:=a.len (by omega);rw [List.take_add_one,hx,List.flatMap_append,List.length_append];have:=ih (by omega);simp only [Option.toList_some,List.flatMap_cons,List.flatMap_nil,List.append_nil];omega
 have hk:=kC (b:=λs:List Int×Int=>gK l s.1 s.2) (λk=>(p++(l.take k).flatMap ckB,(k:Int))) (t:=p++l.flatMap ckB) l.length (λk hk=>by
  have hx:=List.getElem?_eq_getElem (l:=l) (i:=k) hk;obtain⟨a,d⟩:=h _ (List.getElem_mem hk);have e:=hb k (by omega);show gK l _ (k:Int)=_;unfold gK;rw [if_pos (by simp only [decide_eq_true_eq]; omega),bE rfl hx];simp only [Option.bind_some,lt_];generalize l[k]=c at a d hx;obtain⟨a0,f,a2,a4,g⟩:=a;rw [oM (n:=c.f0) (by omega) (by omega),oM (n:=c.f1) (by omega) (by omega)];have hu:=aM9 (ns:=[c.f0.toNat,c.f1.toNat,c.f2.toNat,c.f3.toNat]) (by simp; omega) (p++(l.take k).flatMap ckB) (by simp only [List.length_append,List.length_cons,List.length_nil]; omega);simp only [List.map_cons,List.map_nil] at hu;rw [show ((c.f0.toNat:Nat):Int)=c.f0 by omega,show ((c.f1.toNat:Nat):Int)=c.f1 by omega,show ((c.f2.toNat:Nat):Int)=c.f2 by omega,show ((c.f3.toNat:Nat):Int)=c.f3 by omega] at hu;rw [hu];simp only [Option.bind_some];have j:=aM (n:=c.f0.toNat) (by omega);have o:=aM (n:=c.f1.toNat) (by omega);have q:=aM (n:=c.f2.toNat) (by omega);have r:=aM (n:=c.f3.toNat) (by omega);have i4:i64 c.f4:=by unfold i64; omega
  have i5:i64 c.f5:=by unfold i64; omega
  have u:=aM (n:=zz c.f4) (wF i4);have v:=aM (n:=zz c.f5) (wF i5);have w:=aM (n:=c.f6.length) (by omega);have x:(stb c.f6).length=c.f6.length:=by simp [stb]
  rw [zF i4 _ (by simp only [List.length_append,List.flatMap_cons,List.flatMap_nil,List.length_nil]; omega)];simp only [Option.bind_some];rw [zF i5 _ (by simp only [List.length_append,List.flatMap_cons,List.flatMap_nil,List.length_nil]; omega)];simp only [Option.bind_some];rw [aEe _ _ (by omega) (by simp only [List.length_append,List.flatMap_cons,List.flatMap_nil,List.length_nil]; omega)];simp only [Option.bind_some];rw [aEe _ _ (by omega) (by simp only [List.length_append,List.flatMap_cons,List.flatMap_nil,List.length_nil]; omega)];simp only [Option.bind_some];rw [w64 (by omega) (by omega),List.take_add_one,hx,List.flatMap_append];simp only [Option.toList_some,List.flatMap_cons,List.flatMap_nil,List.append_nil,List.append_assoc,ckB];rfl) (by
  show gK l _ ((l.length:Nat):Int)=_;unfold gK;rw [if_neg (by simp),List.take_length])
 rw [show (p,(0:Int))=(p++(l.take 0).flatMap ckB,((0:Nat):Int)) by simp,hk]
theorem aSp {k:Nat} (hk:k<=8) {l:List S90} (h:∀ c∈l,CkOk c/\c.f1<1099511627776) (hl:l.length<=1000):(sD k l).length<=20+144 * l.length/\Bs (sD k l):=by
 have e:=aM (n:=k) (by omega);have f:=aM (n:=l.length) (by omega);have key:∀ l:List S90,(∀ c∈l,CkOk c/\c.f1<1099511627776)->(l.flatMap ckB).length<=144 * l.length/\Bs (l.flatMap ckB):=by
  intro l
  induction l with
  | nil=>intro _; exact⟨by simp,Bs.nil⟩
  | cons c l ih =>
   intro h;obtain⟨g,a⟩:=ih λx hx=>h x (List.mem_cons_of_mem _ hx);obtain⟨b,i⟩:=h c List.mem_cons_self;have:=b.len (by omega);rw [List.flatMap_cons];refine⟨by simp only [List.length_append,List.length_cons]; omega,Bs.app ?_ a⟩;exact (Bs.uv _).app ((Bs.uv _).app ((Bs.uv _).app ((Bs.uv _).app ((Bs.uv _).app ((Bs.uv _).app ((Bs.uv _).app ((Bs.stb _).app ((Bs.uv _).app (Bs.stb _)))))))))
 obtain⟨j,d⟩:=key l h;unfold sD;exact⟨by simp only [List.length_append]; omega,(Bs.uv _).app ((Bs.uv _).app d)⟩
theorem aVd {n:Nat} (h:n<1099511627776):[IntKind.u8.wrap (n:Int),IntKind.u8.wrap (oT .i64 (n:Int) 8),IntKind.u8.wrap (oT .i64 (n:Int) 16),IntKind.u8.wrap (oT .i64 (n:Int) 24)]=iW n:=by have a:oT .i64 (n:Int) 8=((n / 256:Nat):Int):=mD (k:=.i64) n 8 (by decide);have b:oT .i64 (n:Int) 16=((n / 65536:Nat):Int):=mD (k:=.i64) n 16 (by decide);have c:oT .i64 (n:Int) 24=((n / 16777216:Nat):Int):=mD (k:=.i64) n 24 (by decide);rw [a,b,c,uE,uE,uE,uE];rfl
structure Seg (k:Int) (l:List S61):Prop where
 k1:1<=k
 k8:k<=8
 ps:0<l.length
 le:l.length<=1024
 run:∃ a:Int,0<=a/\a+l.length<=1099511627776/\Run k a l
section
variable {k:Int} {l:List S61} (h:Seg k l)
include h
theorem Seg.cut:∀ c∈pcs 64 l,Cut k c:=by obtain⟨a,h0,b,hr⟩:=h.run;exact hr.cut ⟨h0,λ_=>b⟩
theorem Seg.num:(pcs 64 l).length<=16/\0<(pcs 64 l).length:=by have a:=h.le;have b:=h.ps;rw [zN];omega
theorem Seg.cks:(∀ x∈dR (pcs 64 l) 0,CkOk x/\x.f1<1099511627776)/\(dR (pcs 64 l) 0).length<=16/\(aS (pcs 64 l)).length<=97600/\9<=(aS (pcs 64 l)).length/\Bs (aS (pcs 64 l)):=by obtain⟨n1,n2⟩:=h.num;obtain⟨p1,p2,p3⟩:=aCr h.k8 h.cut;refine⟨λx hx=>?_,by rw [yT]; exact n1,by omega,by omega,p3⟩;obtain⟨c1,c2,_⟩:=aOp h.k8 h.cut x hx;exact⟨c1,by omega⟩
theorem Seg.foot:(sD k.toNat (dR (pcs 64 l) 0)).length<=2400/\Bs (sD k.toNat (dR (pcs 64 l) 0)):=by obtain⟨c1,c2,_⟩:=h.cks;have:=h.k8;obtain⟨f1,f2⟩:=aSp (k:=k.toNat) (by omega) c1 (by omega);exact⟨by omega,f2⟩
theorem bAa:oG l k=some (qS l k.toNat,0):=by
 obtain⟨n1,n2⟩:=h.num;obtain⟨c1,c2,c3,a,b⟩:=h.cks;obtain⟨f1,f2⟩:=h.foot;have c:=h.k1;have d:=h.k8;have hle:=h.le;unfold oG;rw [bL (by omega),aJl h.k8 _ _ _ h.cut (by simp; omega) (by simp; omega)];simp only [Option.bind_some,List.nil_append,List.length_nil];unfold qJ;simp only [lt_];rw [oM (n:=k) (by omega) (by omega),oM (by omega) (by omega)];have hu:=aM9 (ns:=[k.toNat,(dR (pcs 64 l) 0).length]) (by simp; omega) [] (by simp);simp only [List.map_cons,List.map_nil,List.nil_append] at hu;rw [show ((k.toNat:Nat):Int)=k by omega] at hu;rw [hu];simp only [Option.bind_some];have e:=aM (n:=k.toNat) (by omega);have f:=aM (n:=(dR (pcs 64 l) 0).length) (by omega);rw [aUv (k:=k) _ c1 (by omega) _ (by simp; omega)];simp only [Option.bind_some];unfold pC rP;have ef:([k.toNat,(dR (pcs 64 l) 0).length].flatMap uv++(dR (pcs 64 l) 0).flatMap ckB)=sD k.toNat (dR (pcs 64 l) 0):=by simp [sD]
 rw [ef,zL (by decide) f2 (by omega) (by omega)];simp only [Option.bind_some,lt_];rw [aVd (by omega)];have g:=jC 102 (sD k.toNat (dR (pcs 64 l) 0));rw [zL (by decide) (zZ _) (by simp [jD]) (by simp only [List.length_append]; omega)];rfl
end
theorem aTz {l:List S61} (hg:∀ e∈l,Gd e) (k:Int) (hl:l.length<4611686018427387904):sP l k=some (WL k l):=by
 unfold sP WL;have d:jS l k true=some ([],1):=rfl;by_cases h0:l.length=0
 ·rw [if_pos (by simp [h0]),d,if_pos (.inl h0)]
 rw [if_neg (by simp; intro e; simp [e] at h0)];by_cases a:k<1
 ·rw [if_pos (by simpa using a),d,if_pos (.inr (.inl a))]
 rw [if_neg (by simpa using a)];by_cases b:8<k
 ·rw [show decide (8<k)=true by simpa using b,d,if_pos (.inr (.inr b))]
 rw [show decide (8<k)=false by simpa using b,if_neg (by rintro (h | h | h); exact h0 h; exact a h; exact b h)];unfold jS;rw [if_neg (by simp)];by_cases hn:1024<l.length
 ·rw [if_pos (by simp only [decide_eq_true_eq]; omega),if_pos hn]
 rw [if_neg (by simp only [decide_eq_true_eq]; omega),if_neg hn];obtain⟨e0,f⟩:∃ e,l[0]?=some e:=⟨_,List.getElem?_eq_getElem (by omega)⟩;have g:(l.head?.map (·.f0) |>.getD 0)=e0.f0:=by rw [List.head?_eq_getElem?,f]; rfl
 have:=aPt (k:=k) hg f (by omega) l.length 0 (by omega) (.inl rfl);rw [g,show (0:Int)=((0:Nat):Int) from rfl,this,List.drop_zero];simp only [Option.bind_some];cases hf:flt k e0.f0 l 0 with
 | some c=>rfl
 | none =>
  have hr:=aP0 hf hg;have i:=aHq hr (by omega);obtain⟨x,y,hx,m,ex,ey,mx,my⟩:=i;have f1:=xE (hr.fm y my);have j:=hr.gd x mx;exact bAa (l:=l) (k:=k) ⟨by omega,by omega,by omega,by omega,_,by have:=j.1; omega,by omega,hr⟩
theorem rdU {m:Nat} {most:Int} {r:List Int} (h:m<18446744073709551616) (hm:(m:Int)<=most) (hB:Bs (uv m++r)):bC ⟨uv m++r⟩ most=some (.inl ((m:Int),⟨r⟩)):=by have:=aCn most hB;rw [aH3 h r hm] at this;exact this
theorem rdI {x:Int} {r:List Int} (h:i64 x) (hB:Bs (uv (zz x)++r)):cV ⟨uv (zz x)++r⟩=some (.inl (x,⟨r⟩)):=by have:=aH2 hB;rw [aM8 h r] at this;exact this
theorem rdT {s:List UInt8} {r:List Int} (h:s.length<=32) (hB:Bs (uv s.length++(stb s++r))) (hl:(uv s.length++(stb s++r)).length<9223372036854775808):eZ ⟨uv s.length++(stb s++r)⟩ 32=some (.inl (s,⟨r⟩)):=by have:=aLl 32 hB hl;rw [aP8 h r] at this;exact this
theorem aQp {a0:S128} {x:Int} {y:Int×S140} {ch:List S90} {c:S90} {r:List Int} {i:Nat} (hc:CkOk c) (o:c.f1<=(a0.f0.length:Int)) (q:a0.f0.length<=1000000) (hr:r.length<=1000000)
  (hB:Bs (ckB c++r)) (hi:(i:Int)<y.1) (hi':i<=1024) (s:ch.length=i) (h0:i=0->c.f1=0) (hp:0<i->∃ p,ch[i - 1]?=some p/\c.f2=p.f3+1/\p.f1<c.f1) :
  cW a0 x y ch (ckB c++r) (i:Int)=some (.inl (ch++[c],r,((i+1:Nat):Int))):=by
 obtain⟨t,u,v,w,b⟩:=hc;have z:=aM (n:=c.f2.toNat) (by omega);have i4:i64 c.f4:=by unfold i64; omega
 have i5:i64 c.f5:=by unfold i64; omega
 have A:=aM (n:=c.f6.length) (by omega);have B:=aM (n:=c.f7.length) (by omega);have C:(stb c.f6).length=c.f6.length:=by simp [stb]
 have D:(stb c.f7).length=c.f7.length:=by simp [stb]
 have e:ckB c++r=uv c.f0.toNat++(uv c.f1.toNat++(uv c.f2.toNat++(uv c.f3.toNat++(uv (zz c.f4)++(uv (zz c.f5)++(uv c.f6.length++(stb c.f6++(uv c.f7.length++(stb c.f7++r))))))))):=by simp only [ckB,List.append_assoc]
 rw [e] at hB ⊢;have b1:=hB.r;have b2:=b1.r;have d:=b2.r;have f:=d.r;have g:=f.r;have h:=g.r;have j:=h.r.r;unfold cW;rw [if_pos (by simpa using hi)];simp only [lt_];rw [oM (n:=(a0.f0.length:Int)) (by omega) (by omega),rdU (by omega) (by omega) hB];simp only [Option.bind_some,hJ,lt_];rw [rdU (by omega) (by omega) b1];simp only [Option.bind_some,hJ,lt_];rw [show ((c.f0.toNat:Nat):Int)=c.f0 by omega,show ((c.f1.toNat:Nat):Int)=c.f1 by omega,w64 (n:=c.f0) (by omega) (by omega),w64 (n:=c.f1) (by omega) (by omega)];unfold kV;rw [rdU (by omega) (by omega) b2];simp only [Option.bind_some,hJ];rw [rdU (by omega) (by omega) d];simp only [Option.bind_some,hJ];rw [rdI i4 f];simp only [Option.bind_some,hJ];rw [rdI i5 g];simp only [Option.bind_some,hJ];rw [rdT b.1 h (by simp only [List.length_append]; omega)];simp only [Option.bind_some,hJ];rw [rdT b.2 j (by simp only [List.length_append]; omega)];simp only [Option.bind_some,hJ,lt_];rw [show ((c.f2.toNat:Nat):Int)=c.f2 by omega,show ((c.f3.toNat:Nat):Int)=c.f3 by omega];rw [if_pos (by simp only [decide_eq_true_eq]; omega),oM (n:=c.f3 - c.f2) (by omega) (by omega),w64 (n:=c.f0 - 1) (by omega) (by omega),oM (n:=c.f0 - 1) (by omega) (by omega),if_pos (by simp only [beq_iff_eq]; omega),
  show decide (c.f2<=c.f3)=true by simp only [decide_eq_true_eq]; omega,mL]
 simp only [Option.bind_some,hJ];have a:eN ch (i:Int) c.f0 c.f1 (c.f2,⟨uv c.f3.toNat++(uv (zz c.f4)++(uv (zz c.f5)++(uv c.f6.length++(stb c.f6++(uv c.f7.length++(stb c.f7++r))))))⟩) (c.f3,⟨uv (zz c.f4)++(uv (zz c.f5)++(uv c.f6.length++(stb c.f6++(uv c.f7.length++(stb c.f7++r)))))⟩)
   (c.f4,⟨uv (zz c.f5)++(uv c.f6.length++(stb c.f6++(uv c.f7.length++(stb c.f7++r))))⟩) (c.f5,⟨uv c.f6.length++(stb c.f6++(uv c.f7.length++(stb c.f7++r)))⟩) (c.f6,⟨uv c.f7.length++(stb c.f7++r)⟩) (c.f7,⟨r⟩) r=some (.inl (ch++[c],r,((i+1:Nat):Int))):=by
  unfold eN;simp only [lt_];rw [bL (by simp only [List.length_cons,List.length_nil]; omega),oM (by omega) (by omega)];rfl
 unfold fQ;by_cases hz:i=0
 ·rw [if_neg (by simp only [decide_eq_true_eq]; omega),h0 hz,show ((0:Int)==0)=true from rfl,mL];simp only [Option.bind_some,hJ];rw [h0 hz] at a;exact a
 ·obtain⟨p,k,l,m⟩:=hp (by omega);rw [if_pos (by simp only [decide_eq_true_eq]; omega)];simp only [lt_];rw [oM (n:=(i:Int) - 1) (by omega) (by omega),bE (n:=i - 1) (by omega) k];simp only [Option.bind_some,lt_];rw [oM (n:=p.f3+1) (by omega) (by omega),if_pos (by simp only [beq_iff_eq]; exact l),show decide (p.f1<c.f1)=true by simpa using m,mL];simp only [Option.bind_some,hJ];exact a
theorem aPp:∀ (cs:List (List S61)) (a i:Nat),(dR cs a)[i]?=(cs[i]?).map λc=>ckL c ((a+(aS (cs.take i)).length:Nat):Int)
 | [],a,i=>by simp [dR]
 | c::cs,a,0=>by simp [dR,aS]
 | c::cs,a,i+1=>by show (dR cs (a+(pgL c).length))[i]?=_;rw [aPp cs];simp only [List.getElem?_cons_succ,List.take_succ_cons];rw [show aS (c::cs.take i)=pgL c++aS (cs.take i) from rfl,List.length_append,Nat.add_assoc]
section
variable {k:Int} {l:List S61} (h:Seg k l)
include h
theorem Seg.at_ {i:Nat} {x:S90} (hx:(dR (pcs 64 l) 0)[i]?=some x):∃ a:Int,0<=a/\Run k a l/\x=ckL ((l.drop (i * 64)).take 64) (((aS ((pcs 64 l).take i)).length:Nat):Int)/\i * 64<l.length/\x.f1=(((aS ((pcs 64 l).take i)).length:Nat):Int)/\x.f2=a+(i * 64:Nat)/\x.f3=a+(min l.length (i * 64+64):Nat) - 1/\x.f0=((min 64 (l.length - i * 64):Nat):Int):=by
 obtain⟨a,d,m,hr⟩:=h.run;rw [aPp,Nat.zero_add] at hx;obtain⟨c,hc,rfl⟩:=Option.map_eq_some_iff.1 hx;have b:i * 64<l.length:=by have:=(List.getElem?_eq_some_iff.1 hc).1;rw [zN] at this;exact (aAf (by decide)).2 this
 rw [aE5 (by decide) b] at hc;cases hc;have e:=(hr.drop (i * 64)).take 64;have hl:((l.drop (i * 64)).take 64).length=min 64 (l.length - i * 64):=by simp
 obtain⟨f,g⟩:=aEs e (by omega) (((aS ((pcs 64 l).take i)).length:Nat):Int);obtain⟨e0,j⟩:=aN8 ((l.drop (i * 64)).take 64) (((aS ((pcs 64 l).take i)).length:Nat):Int);exact⟨a,d,hr,rfl,b,j,f,by rw [g,hl]; omega,by rw [e0,hl]⟩
theorem Seg.page_lt {i j:Nat} (a:i<j) (b:j<=(pcs 64 l).length):(aS ((pcs 64 l).take i)).length<(aS ((pcs 64 l).take j)).length:=by
 have e:(pcs 64 l).take j=(pcs 64 l).take i++((pcs 64 l).take j).drop i:=by have:=List.take_append_drop i ((pcs 64 l).take j);rw [List.take_take,Nat.min_eq_left (by omega)] at this;exact this.symm
 rw [e,yG,List.length_append];have hc:∀ c∈((pcs 64 l).take j).drop i,Cut k c:=λc hc=>h.cut c (List.mem_of_mem_take (List.mem_of_mem_drop hc));obtain⟨p1,p2,p3⟩:=aCr h.k8 hc;have:((pcs 64 l).take j).drop i≠[]:=by intro e;have:=congrArg List.length e;simp at this;omega
 have:=List.length_pos_iff.2 this;omega
theorem aP5 {Pg:List Int} (D:Pg.length=(aS (pcs 64 l)).length):kQ ⟨Pg,0,[]⟩ ⟨sD k.toNat (dR (pcs 64 l) 0)⟩=some (.inl (⟨Pg,k,dR (pcs 64 l) 0⟩,⟨[]⟩)):=by
 obtain⟨n1,n2⟩:=h.num;obtain⟨c1,c2,c3,E,F⟩:=h.cks;obtain⟨f1,f2⟩:=h.foot;have G:=h.k1;have g:=h.k8;have hn:=yT (pcs 64 l) 0;unfold sD at f2 f1 ⊢;unfold kQ;rw [rdU (by omega) (by omega) f2];simp only [Option.bind_some,hJ,lt_];rw [show ((k.toNat:Nat):Int)=k by omega,w64 (n:=k) (by omega) (by omega),rdU (by omega) (by omega) f2.r];simp only [Option.bind_some,hJ];rw [if_pos (by simp only [decide_eq_true_eq]; omega),show decide (0<(((dR (pcs 64 l) 0).length:Nat):Int))=true by simp only [decide_eq_true_eq]; omega,mL];simp only [Option.bind_some,hJ];have hB:=f2.r.r;have m:((dR (pcs 64 l) 0).flatMap ckB).length<=2400:=by simp only [List.length_append] at f1; omega
 have o:∀ x∈dR (pcs 64 l) 0,x.f1<=(Pg.length:Int):=λx hx=>by have:=(aOp g h.cut x hx).2.1;omega
 have c:=λ{i x}=>h.at_ (i:=i) (x:=x);have p:=λ{i j}=>h.page_lt (i:=i) (j:=j);generalize q:(((((dR (pcs 64 l) 0).length:Nat):Int)),(⟨(dR (pcs 64 l) 0).flatMap ckB⟩:S140))=Y;have u:Y.1=(((dR (pcs 64 l) 0).length:Nat):Int):=by rw [← q]
 unfold iE;generalize dR (pcs 64 l) 0=cks at *;have hk:=kC (b:=λs:List S90×List Int×Int=>cW ⟨Pg,0,[]⟩ k Y s.1 s.2.1 s.2.2) (λi=>(cks.take i,(cks.drop i).flatMap ckB,(i:Int)))
  (t:=.inl (cks,[])) cks.length (λi hi=>by
   have hx:=List.getElem?_eq_getElem (l:=cks) (i:=i) hi;obtain⟨a,H,v,I,J,d,w,K,L⟩:=c hx;have hd:cks.drop i=cks[i]::cks.drop (i+1):=List.drop_eq_getElem_cons hi;have y:(cks.flatMap ckB)=(cks.take i).flatMap ckB++(ckB cks[i]++(cks.drop (i+1)).flatMap ckB):=by rw [← List.flatMap_cons, ← hd, ← List.flatMap_append,List.take_append_drop]
   have f:=m;rw [y] at hB f;simp only [List.length_append] at f;have hm:=List.getElem_mem hi;show cW _ k Y (cks.take i) ((cks.drop i).flatMap ckB) (i:Int)=_;rw [hd,List.flatMap_cons];rw [aQp (c1 _ hm).1 (o _ hm) (by show Pg.length<=_; omega) (by omega) hB.r (by rw [u]; omega) (by omega) (by simp; omega) (λe=>by subst e; rw [d]; simp [aS]) (λM=>by
    have hp:=List.getElem?_eq_getElem (l:=cks) (i:=i - 1) (by omega);obtain⟨b,N,z,O,P,A,Q,B,R⟩:=c hp;have C:a=b:=by have S:=v.of 0 _ (List.getElem?_eq_getElem (by omega));have T:=z.of 0 _ (List.getElem?_eq_getElem (by omega));omega
    refine⟨_,by rw [List.getElem?_take,if_pos (by omega)]; exact hp,by rw [w,B,C]; omega,?_⟩;rw [d,A];have:=p (i:=i - 1) (j:=i) (by omega) (by omega);omega),List.take_add_one,hx]
   rfl) (by
   show cW _ k Y _ _ ((cks.length:Nat):Int)=_;unfold cW;rw [if_neg (by simp only [decide_eq_true_eq]; omega),List.take_length,List.drop_length];rfl)
 rw [show (([]:List S90),cks.flatMap ckB,(0:Int))=(cks.take 0,(cks.drop 0).flatMap ckB,((0:Nat):Int)) by simp,hk];rfl
end
theorem aK6 {a b:Nat} (c:a<4294967296) (hb:b<4294967296):ior .i64 (a:Int) (b:Int)=((a ||| b:Nat):Int):=by unfold ior;rw [eI,eI];have h:a ||| b<2 ^ 32:=Nat.or_lt_two_pow (show a<2 ^ 32 by omega) (show b<2 ^ 32 by omega);simp only [BitVec.toNat_or,BitVec.toNat_ofNat,show IntKind.i64.bits=64 from rfl];rw [Nat.mod_eq_of_lt (show a<2 ^ 64 by omega),Nat.mod_eq_of_lt (show b<2 ^ 64 by omega),w64 (by omega) (by omega)]
theorem aG4 {a n:Nat} (hn:n<=24) (c:a<256):uY .i64 (a:Int) (n:Int)=((a * 2 ^ n:Nat):Int):=by have b:2 ^ n<=2 ^ 24:=Nat.pow_le_pow_right (by decide) hn;have d:a * 2 ^ n<=255 * 2 ^ 24:=Nat.mul_le_mul (by omega) b;unfold uY;rw [show min ((n:Int).toNat) IntKind.i64.bits=n from by rw [Int.toNat_natCast,show IntKind.i64.bits=64 from rfl]; omega,aE0];rw [show (a:Int) * ((2 ^ n:Nat):Int)=((a * 2 ^ n:Nat):Int) from rfl,w64 (by omega) (by omega)]
theorem aP3 {n:Nat} (h:n<4294967296):ior .i64 (ior .i64 (ior .i64 ((n % 256:Nat):Int) (uY .i64 ((n / 256 % 256:Nat):Int) 8)) (uY .i64 ((n / 65536 % 256:Nat):Int) 16)) (uY .i64 ((n / 16777216 % 256:Nat):Int) 24)=(n:Int):=by have b:=aG4 (a:=n / 256 % 256) (n:=8) (by decide) (by omega);have c:=aG4 (a:=n / 65536 % 256) (n:=16) (by decide) (by omega);have d:=aG4 (a:=n / 16777216 % 256) (n:=24) (by decide) (by omega);rw [show ((8:Nat):Int)=8 from rfl] at b;rw [show ((16:Nat):Int)=16 from rfl] at c;rw [show ((24:Nat):Int)=24 from rfl] at d;have k:(2:Nat) ^ 8=256:=rfl;have i:(2:Nat) ^ 16=65536:=rfl;have j:(2:Nat) ^ 24=16777216:=rfl;have e:n % 256 ||| n / 256 % 256 * 2 ^ 8=n % 256+n / 256 % 256 * 2 ^ 8:=aAy (by omega) _;rw [b,c,d,aK6 (by omega) (by omega),e];have f:n % 256+n / 256 % 256 * 2 ^ 8 ||| n / 65536 % 256 * 2 ^ 16=n % 256+n / 256 % 256 * 2 ^ 8+n / 65536 % 256 * 2 ^ 16:=aAy (by omega) _;rw [aK6 (by omega) (by omega),f];have g:n % 256+n / 256 % 256 * 2 ^ 8+n / 65536 % 256 * 2 ^ 16 ||| n / 16777216 % 256 * 2 ^ 24=n % 256+n / 256 % 256 * 2 ^ 8+n / 65536 % 256 * 2 ^ 16+n / 16777216 % 256 * 2 ^ 24:=aAy (by omega) _;rw [aK6 (by omega) (by omega),g];omega
def yM (l:List S61) (k:Int):S128:=⟨aS (pcs 64 l),k,dR (pcs 64 l) 0⟩
section
variable {k:Int} {l:List S61} (h:Seg k l)
include h
theorem Seg.bytes:Bs (qS l k.toNat)/\(qS l k.toNat).length=(aS (pcs 64 l)).length+(sD k.toNat (dR (pcs 64 l) 0)).length+22:=by obtain⟨c1,c2,c3,c,a⟩:=h.cks;obtain⟨f1,f2⟩:=h.foot;have d:=jC 102 (sD k.toNat (dR (pcs 64 l) 0));have b:=jC 116 (iW (aS (pcs 64 l)).length);rw [jD] at b;unfold qS;exact⟨(a.app (aAo (by decide) f2)).app (aAo (by decide) (zZ _)),by simp only [List.length_append]; omega⟩
theorem aQg:kH (qS l k.toNat)=some (some (yM l k),0):=by
 obtain⟨c1,c2,c3,i,j⟩:=h.cks;obtain⟨f1,f2⟩:=h.foot;obtain⟨b1,b2⟩:=h.bytes;have m:=jC 102 (sD k.toNat (dR (pcs 64 l) 0));have e:=jC 116 (iW (aS (pcs 64 l)).length);rw [jD] at e;have a:=vN (p:=aS (pcs 64 l)++fB 102 (sD k.toNat (dR (pcs 64 l) 0))) (b:=iW (aS (pcs 64 l)).length) (q:=[]) (kind:=116) (by simp [jD]);have c:=vN (p:=aS (pcs 64 l)) (b:=sD k.toNat (dR (pcs 64 l) 0)) (q:=fB 116 (iW (aS (pcs 64 l)).length)) (kind:=102) (by omega);rw [List.append_nil,show aS (pcs 64 l)++fB 102 (sD k.toNat (dR (pcs 64 l) 0))++fB 116 (iW (aS (pcs 64 l)).length)=qS l k.toNat from rfl] at a;rw [show aS (pcs 64 l)++fB 102 (sD k.toNat (dR (pcs 64 l) 0))++fB 116 (iW (aS (pcs 64 l)).length)=qS l k.toNat from rfl] at c;have f:=aP5 h (Pg:=aS (pcs 64 l)) rfl;have g:(qS l k.toNat).take (aS (pcs 64 l)).length=aS (pcs 64 l):=by unfold qS; rw [List.append_assoc,List.take_left' rfl]
 unfold yM;rw [List.length_append] at a;generalize qS l k.toNat=B at *;generalize sD k.toNat (dR (pcs 64 l) 0)=Ft at *;generalize dR (pcs 64 l) 0=cks at *;generalize aS (pcs 64 l)=Pg at *;unfold kH;rw [if_neg (by simp only [decide_eq_true_eq]; omega)];simp only [lt_];rw [w64 (n:=(B.length:Int) - 13) (by omega) (by omega),show (B.length:Int) - 13=((Pg.length+(fB 102 Ft).length:Nat):Int) by omega,oW b1 (by omega),a];simp only [Option.bind_some];rw [if_neg (by simp),if_neg (by simp),if_neg (by rw [jD]; simp)];unfold lC;rw [if_neg (by simp only [bne_iff_ne,ne_eq,Decidable.not_not]; omega)];simp only [show at_ (iW Pg.length) 0=some ((Pg.length % 256:Nat):Int) from rfl,show at_ (iW Pg.length) 1=some ((Pg.length / 256 % 256:Nat):Int) from rfl,show at_ (iW Pg.length) 2=some ((Pg.length / 65536 % 256:Nat):Int) from rfl,show at_ (iW Pg.length) 3=some ((Pg.length / 16777216 % 256:Nat):Int) from rfl,Option.bind_some,lt_];rw [w64 (n:=((Pg.length % 256:Nat):Int)) (by omega) (by omega),w64 (n:=((Pg.length / 256 % 256:Nat):Int)) (by omega) (by omega),w64 (n:=((Pg.length / 65536 % 256:Nat):Int)) (by omega) (by omega),w64 (n:=((Pg.length / 16777216 % 256:Nat):Int)) (by omega) (by omega),aP3 (by omega)];rw [w64 (n:=(B.length:Int) - 13) (by omega) (by omega),if_neg (by simp only [decide_eq_true_eq]; omega),oW b1 (by omega),c];simp only [Option.bind_some];have d:=qK (xs:=B) (l:=0) (u:=Pg.length) (by omega) (by omega);rw [g,List.drop_zero,show ((0:Nat):Int)=0 from rfl] at d;rw [if_neg (by simp),d];simp only [Option.bind_some];rw [aB0 (by omega)];simp only [Option.bind_some];rw [if_neg (by simp),if_neg (by simp only [bne_iff_ne,ne_eq,Decidable.not_not]; omega)];unfold kD;rw [f];rfl
theorem bC3:WL k l=(qS l k.toNat,0):=by
 obtain⟨a,b,c,hr⟩:=h.run;have d:=h.k1;have f:=h.k8;have g:=h.ps;have j:=h.le;unfold WL;rw [if_neg (by omega),if_neg (by omega)];have hx:=List.getElem?_eq_getElem (l:=l) (i:=0) (by omega);have e:(l.head?.map (·.f0) |>.getD 0)=a:=by rw [List.head?_eq_getElem?,hx];have:=hr.of 0 _ hx;simp at this ⊢;exact this
 rw [e,aNm (by simpa using hr)]
end
def aCe (n:Nat):List S61:=(List.range n).map λi:Nat=>⟨(i:Int),0,(i:Int),[],0⟩
theorem aH0 {n i:Nat} {x:S61} (h:(aCe n)[i]?=some x):x=⟨(i:Int),0,(i:Int),[],0⟩/\i<n:=by unfold aCe at h;rw [List.getElem?_map] at h;obtain⟨j,a,rfl⟩:=Option.map_eq_some_iff.1 h;obtain⟨b,rfl⟩:=List.getElem?_eq_some_iff.1 a;rw [List.getElem_range];exact⟨rfl,by simpa using b⟩
theorem Run.seg {k f:Int} {m:List S61} (h:Run k f m) (hk:1<=k/\k<=8) (hf:0<=f/\f<=4294967296) (h0:0<m.length) (hl:m.length<=150):Seg k m :=
 ⟨hk.1,hk.2,h0,by omega,f,hf.1,by omega,h⟩
def jB (f:S26) (e:S61):Bool:=decide (f.f0<=e.f0)&&(decide (e.f0<f.f1)&&(decide (f.f2<=e.f2)&&decide (e.f2<=f.f3)))
def qX (f:S26) (c:S90):Bool:=decide (f.f0<f.f1)&&(decide (f.f0<=c.f3)&&(decide (c.f2<f.f1)&&(decide (f.f2<=f.f3)&&(decide (f.f2<=c.f5)&&decide (c.f4<=f.f3)))))
theorem aTp (f:S26) (e:S61):kN f e=some (jB f e):=by unfold kN jB;cases decide (f.f0<=e.f0) <;> cases decide (e.f0<f.f1) <;> cases decide (f.f2<=e.f2) <;> rfl
theorem aLp (f:S26) (c:S90):jV f c=some (qX f c):=by unfold jV qX;cases decide (f.f0<f.f1) <;> cases decide (f.f0<=c.f3) <;> cases decide (c.f2<f.f1) <;> cases decide (f.f2<=f.f3) <;> cases decide (f.f2<=c.f5) <;> rfl
theorem aS5 (l:List S61) (p:Int):∀ e∈l,(ckL l p).f2<=e.f0/\e.f0<=(ckL l p).f3/\(ckL l p).f4<=e.f2/\e.f2<=(ckL l p).f5:=λe he=>by
 cases l with
 | nil=>cases he
 | cons x r =>
  obtain⟨⟨_,a2⟩,⟨_,b2⟩,⟨_,c2⟩,_,a⟩:=aKr (x::r) (ck0 (x::r) p x);exact⟨a2 e he,b2 e he,c2 e he,a e he⟩
theorem aM7 {f:S26} {l:List S61} {p:Int} (h:qX f (ckL l p)=false):l.filter (jB f)=[]:=by
 rw [List.filter_eq_nil_iff];intro e he hw;obtain⟨b1,b2,a,b⟩:=aS5 l p e he;unfold jB at hw;simp only [Bool.and_eq_true,decide_eq_true_eq] at hw;have:qX f (ckL l p)=true:=by unfold qX;simp only [Bool.and_eq_true,decide_eq_true_eq];omega
 rw [h] at this;cases this
theorem aEl (l:List S61) (p:Int):ckL (l.map dI) p=ckL l p:=by
 have key:∀ (l:List S61) (c:S90),(l.map dI).foldl ckF c=l.foldl ckF c:=by
  intro l
  induction l with
  | nil=>intro c; rfl
  | cons e l ih=>intro c; exact ih (ckF c e)
 cases l with
 | nil=>rfl
 | cons e r =>
  show ((e::r).map dI).foldl ckF (ck0 ((e::r).map dI) p (dI e))=_;rw [key,show ck0 ((e::r).map dI) p (dI e)=ck0 (e::r) p e from by unfold ck0; rw [List.length_map]; rfl];rfl
theorem aMw (c:S90):aI8 c c=true:=by unfold aI8;simp
theorem aFt (f:S26) (l:List S61):(l.map dI).filter (jB f)=(l.filter (jB f)).map dI:=by rw [List.filter_map]; rfl
section
variable {k:Int} {l:List S61} (h:Seg k l) (f:S26)
include h
theorem aLx {c:S90} {Y:List S61×Int×Int} {m:List S61} {a:Int} (d:Y.1=m.map dI) (hm:Run k a m) (h:0<=a/\a+m.length<=1099511627776) (hl:m.length<=64) (hc:c.f2=a) (out:List S61) (i:out.length<=1024) :
  loop (λs:List S61×Int=>dB f c Y s.1 s.2) (out,0)=some (.inl (out++(m.map dI).filter (jB f))):=by
 have hb:∀ j,((m.map dI).take j |>.filter (jB f)).length<=64:=λj=>by have:=List.length_filter_le (jB f) ((m.map dI).take j);simp at this ⊢;omega
 have hk:=kC (b:=λs:List S61×Int=>dB f c Y s.1 s.2) (λj=>(out++((m.map dI).take j).filter (jB f),(j:Int))) (t:=.inl (out++(m.map dI).filter (jB f))) m.length (λj e=>by
  have hx:(m.map dI)[j]?=some (dI m[j]):=by rw [List.getElem?_map,List.getElem?_eq_getElem e]; rfl
  have g:=hm.of j _ (List.getElem?_eq_getElem e);have l:=hb j;show dB f c Y (out++((m.map dI).take j).filter (jB f)) (j:Int)=_;unfold dB;rw [d,if_pos (by simp only [decide_eq_true_eq,List.length_map]; omega),bE rfl hx];simp only [Option.bind_some,lt_];rw [oM (n:=(j:Int)) (by omega) (by omega),hc,oM (n:=a+(j:Int)) (by omega) (by omega),if_neg (by simp only [bne_iff_ne,ne_eq,Decidable.not_not]; exact g),aTp];simp only [Option.bind_some];rw [List.take_add_one,hx,List.filter_append];simp only [Option.toList_some];cases hw:jB f (dI m[j]) with
  | true =>
   rw [if_pos rfl,bL (by simp only [List.length_append,List.length_cons,List.length_nil]; omega)];unfold fP;rw [lt_,w64 (by omega) (by omega),List.filter_cons_of_pos hw,List.filter_nil,List.append_assoc];rfl
  | false =>
   rw [if_neg (by simp)];unfold fP;rw [lt_,w64 (by omega) (by omega),List.filter_cons_of_neg (by rw [hw]; simp),List.filter_nil,List.append_nil];rfl) (by
  show dB f c Y _ ((m.length:Nat):Int)=_;unfold dB;rw [d,if_neg (by simp),List.take_of_length_le (by simp)])
 rw [show (out,(0:Int))=(out++((m.map dI).take 0).filter (jB f),((0:Nat):Int)) by simp,hk]
theorem aVl:fV (some (yM l k)) f=some ((l.filter (jB f)).map dI,(((dR (pcs 64 l) 0).countP (qX f):Nat):Int),0):=by
 obtain⟨n1,n2⟩:=h.num;obtain⟨c1,c2,c3,R,D⟩:=h.cks;have E:=h.k8;have hle:=h.le;have r:=λ{i x}=>h.at_ (i:=i) (x:=x);have hn:=yT (pcs 64 l) 0;obtain⟨a,S,T,hr⟩:=h.run;have hlen:(pcs 64 l).length=(l.length+64 - 1) / 64:=zN;unfold fV;simp only;have hk:=kC (b:=λs:List S61×Int×Int=>cB f (yM l k) s.1 s.2.1 s.2.2) (λi=>(((l.take (i * 64)).map dI).filter (jB f),((((dR (pcs 64 l) 0).take i).countP (qX f):Nat):Int),(i:Int)))
  (t:=.inl ((l.map dI).filter (jB f),(((dR (pcs 64 l) 0).countP (qX f):Nat):Int))) (pcs 64 l).length (λi hi=>by
   have hx:=List.getElem?_eq_getElem (l:=dR (pcs 64 l) 0) (i:=i) (by omega);obtain⟨a',U,F,j,G,u,v,H,w⟩:=r hx;have I:a=a':=by have W:=hr.of 0 _ (List.getElem?_eq_getElem (by omega));have X:=F.of 0 _ (List.getElem?_eq_getElem (by omega));omega
   subst I;have g:=aE5 (q:=64) (by decide) G;have J:=h.cut _ (List.mem_of_getElem? g);have o:=(hr.drop (i * 64)).take 64;have K:l.take ((i+1) * 64)=l.take (i * 64)++(l.drop (i * 64)).take 64:=by rw [Nat.add_mul,Nat.one_mul,List.take_add]
   have L:((l.drop (i * 64)).take 64).length=min 64 (l.length - i * 64):=by simp
   have M:((dR (pcs 64 l) 0).take i).countP (qX f)<=16:=by have:=List.countP_le_length (p:=qX f) (l:=(dR (pcs 64 l) 0).take i);simp at this;omega
   have N:(((l.take (i * 64)).map dI).filter (jB f)).length<=1024:=by have:=List.length_filter_le (jB f) ((l.take (i * 64)).map dI);simp at this ⊢;omega
   have O:((dR (pcs 64 l) 0).take (i+1))=(dR (pcs 64 l) 0).take i++[(dR (pcs 64 l) 0)[i]'(by omega)]:=by rw [List.take_add_one,hx]; rfl
   show cB f (yM l k) (((l.take (i * 64)).map dI).filter (jB f)) ((((dR (pcs 64 l) 0).take i).countP (qX f):Nat):Int) (i:Int)=_;rw [K,O,List.map_append,List.filter_append,List.countP_append];generalize ((l.take (i * 64)).map dI).filter (jB f)=out at N ⊢;generalize Y:((dR (pcs 64 l) 0).take i).countP (qX f)=d at M ⊢;generalize Z:(dR (pcs 64 l) 0)[i]'(by omega)=c at j u v H w hx ⊢;unfold cB;rw [show (yM l k).f2=dR (pcs 64 l) 0 from rfl,if_pos (by simp only [decide_eq_true_eq]; omega),bE rfl hx];simp only [Option.bind_some];rw [aLp];simp only [Option.bind_some];cases hmay:qX f c with
   | false =>
    rw [if_pos (show (!false)=true from rfl)];have P:((l.drop (i * 64)).take 64).filter (jB f)=[]:=aM7 (p:=(((aS ((pcs 64 l).take i)).length:Nat):Int)) (by rw [← j]; exact hmay);rw [aFt,P];unfold eJ;rw [lt_,w64 (by omega) (by omega)];simp [hmay]
   | true =>
    rw [if_neg (by simp)];simp only [lt_];rw [w64 (n:=((d:Nat):Int)+1) (by omega) (by omega),w64 (n:=(i:Int)+1) (by omega) (by omega)];have y:aS (pcs 64 l)=aS ((pcs 64 l).take i)++pgL ((l.drop (i * 64)).take 64)++aS ((pcs 64 l).drop (i+1)):=by
     have:=List.take_append_drop i (pcs 64 l);rw [List.drop_eq_getElem_cons (by omega)] at this;rw [List.getElem?_eq_getElem (by omega)] at g;rw [Option.some.inj g] at this
     conv=>lhs; rw [← this,yG]
     rw [List.append_assoc];rfl
    have z:∀ e:Int,e=(((aS ((pcs 64 l).take i)).length+(pgL ((l.drop (i * 64)).take 64)).length:Nat):Int) ->
      cA f (yM l k) out (i:Int) c (((d:Nat):Int)+1) e=some (.inl (out++(((l.drop (i * 64)).take 64).map dI).filter (jB f),((d:Nat):Int)+1,((i+1:Nat):Int))):=by
     intro e he;unfold cA;rw [show (yM l k).f0=aS (pcs 64 l) from rfl,show (yM l k).f1=k from rfl,zU D (by omega),u];have A:=aNf (l:=(l.drop (i * 64)).take 64) (by omega) (o.laid E) k (aS ((pcs 64 l).take i)) (aS ((pcs 64 l).drop (i+1)));rw [show fB 101 (vA ((l.drop (i * 64)).take 64))=pgL ((l.drop (i * 64)).take 64) from rfl, ← y,if_pos (List.all_eq_true.2 o.fm)] at A;rw [A];simp only [Option.bind_some];rw [if_pos (by rfl),if_neg (by simp only [bne_iff_ne,ne_eq,Decidable.not_not]; exact he.symm),if_neg (by simp only [bne_iff_ne,ne_eq,Decidable.not_not,List.length_map]; rw [L,w]),aGz (by rw [List.length_map]; exact J.ps) (by rw [List.length_map]; omega),aEl, ← j];simp only [Option.bind_some,aMw];unfold cD;rw [if_neg (by simp)];unfold dN;rw [if_neg (by simp),aLx h f (m:=(l.drop (i * 64)).take 64) rfl o (by omega) (by omega) v out (by omega)];simp only [Option.bind_some];unfold gU iG eJ;rw [lt_,w64 (by omega) (by omega)];rfl
    have B:((d+[c].countP (qX f):Nat):Int)=((d:Nat):Int)+1:=by rw [List.countP_cons_of_pos hmay]; simp
    by_cases a0:i+1<(pcs 64 l).length
    ·have C:=List.getElem?_eq_getElem (l:=dR (pcs 64 l) 0) (i:=i+1) (by omega);obtain⟨_,_,_,_,_,Q,_⟩:=r C;rw [if_pos (by simp only [decide_eq_true_eq]; omega),bE (n:=i+1) (by omega) C];simp only [Option.bind_some];rw [z _ (by rw [Q,List.take_add_one,g,Option.toList_some,yG,List.length_append]; simp [aS]),B]
    ·rw [if_neg (by simp only [decide_eq_true_eq]; omega),z _ (by
      rw [show (yM l k).f0=aS (pcs 64 l) from rfl,y,List.drop_of_length_le (l:=pcs 64 l) (i:=i+1) (by omega)];simp [aS]),B]) (by
   show cB f (yM l k) _ _ (((pcs 64 l).length:Nat):Int)=_;unfold cB;rw [show (yM l k).f2=dR (pcs 64 l) 0 from rfl,if_neg (by simp only [decide_eq_true_eq]; omega),List.take_of_length_le (l:=l) (by omega),List.take_of_length_le (l:=dR (pcs 64 l) 0) (by omega)])
 rw [show (([]:List S61),(0:Int),(0:Int))=(((l.take (0 * 64)).map dI).filter (jB f),((((dR (pcs 64 l) 0).take 0).countP (qX f):Nat):Int),((0:Nat):Int)) by simp,hk];simp only [Option.bind_some];rw [aFt];rfl
end
section
variable (f:S26)
end
theorem bBp {a:Int} (h:gI .u32 a):0<=a/\a<4294967296:=by unfold gI Lit.wf at h;simp only [Bool.and_eq_true,decide_eq_true_eq] at h;exact⟨h.1,Int.lt_of_le_of_lt h.2 (by decide)⟩
theorem aG5 {k f:Int} {m:List S61} (h:Seg k m) (hr:Run k f m) (hf:0<=f/\f<=4294967296):eD (some (yM m k))=some (f,f+m.length):=by
 obtain⟨n1,n2⟩:=h.num;have hle:=h.le;have d:=h.ps;have hn:=yT (pcs 64 m) 0;have hlen:(pcs 64 m).length=(m.length+64 - 1) / 64:=zN;have hx:=List.getElem?_eq_getElem (l:=dR (pcs 64 m) 0) (i:=0) (by omega);have c:=List.getElem?_eq_getElem (l:=dR (pcs 64 m) 0) (i:=(dR (pcs 64 m) 0).length - 1) (by omega);obtain⟨a,o,e,p,q,r,g,s,t⟩:=h.at_ hx;obtain⟨b,u,p1,p2,p3,v,x,j,y⟩:=h.at_ c;have w:=List.getElem?_eq_getElem (l:=m) (i:=0) d;have z:=e.of 0 _ w;have A:=p1.of 0 _ w;have B:=hr.of 0 _ w;unfold eD;simp only;rw [show (yM m k).f2=dR (pcs 64 m) 0 from rfl,show at_ (dR (pcs 64 m) 0) 0=_ from bE (n:=0) rfl hx];simp only [Option.bind_some,lt_];rw [w64 (by omega) (by omega),bE (n:=(dR (pcs 64 m) 0).length - 1) (by omega) c];simp only [Option.bind_some];rw [oM (by omega) (by omega),g,j];have:f+(m.length:Int)=b+((min m.length (((dR (pcs 64 m) 0).length - 1) * 64+64):Nat):Int) - 1+1:=by omega
 rw [this,show a+((0 * 64:Nat):Int)=f by omega]
theorem aJt {l:List S61} {f:S26} (h:∀ e∈l,jB f e=false):l.filter (jB f)=[]:=by rw [List.filter_eq_nil_iff];intro e he;rw [h e he];simp
def sI:Nat->Nat->Nat
 | 0,c=>c
 | m+1,c=>sI m (s1 c)
theorem aLm:∀ (m a b:Nat),sI m (a ^^^ b)=sI m a ^^^ sI m b
 | 0,_,_=>rfl
 | m+1,a,b=>by show sI m (s1 (a ^^^ b))=_; rw [aRz,aLm m]; rfl
theorem aFd:∀ (m b z:Nat),sI m (2 ^ m * b ^^^ z)=b ^^^ sI m z
 | 0,b,z=>by simp [sI]
 | m+1,b,z=>by show sI m (s1 (2 ^ (m+1) * b ^^^ z))=_;rw [show 2 ^ (m+1) * b=2 * (2 ^ m * b) by rw [Nat.pow_succ,Nat.mul_comm (2 ^ m) 2,Nat.mul_assoc],aTt,aFd m];rfl
theorem aK8:∀ (m n c:Nat),sI (m+n) c=sI n (sI m c)
 | 0,n,c=>by rw [Nat.zero_add]; rfl
 | m+1,n,c=>by rw [Nat.add_right_comm]; exact aK8 m n (s1 c)
theorem aK7:∀ m,sI m 0=0
 | 0=>rfl
 | m+1=>aK7 m
theorem bAc {c:Nat} (h:c<4294967296) (h0:c≠0):s1 c≠0:=by
 unfold s1;split
 ·intro e;have b:c / 2=3988292384:=by
   have a:=congrArg (· ^^^ 3988292384) e
   simp only [Nat.xor_assoc,Nat.xor_self,Nat.xor_zero,Nat.zero_xor] at a;exact a
  omega
 ·omega
theorem aW4:∀ (m:Nat) {c:Nat},c<4294967296->c≠0->sI m c≠0
 | 0,_,_,h=>h
 | m+1,c,h,h0=>aW4 m (aWy h) (bAc h h0)
theorem aZc (c m:Nat):c=(2 ^ m * (c / 2 ^ m)) ^^^ (c % 2 ^ m):=by
 apply Nat.eq_of_testBit_eq;intro i;rw [Nat.testBit_xor,Nat.testBit_two_pow_mul,Nat.testBit_mod_two_pow,Nat.testBit_div_two_pow];by_cases h:i<m
 ·simp [h,Nat.not_le.2 h]
 ·rw [show i - m+m=i by omega]; simp [h,Nat.le_of_not_lt h]
theorem aEa (a b x y m:Nat) (hx:x<2 ^ m) (c:y<2 ^ m):(x+2 ^ m * a) ^^^ (y+2 ^ m * b)=(x ^^^ y)+2 ^ m * (a ^^^ b):=by
 have hp:0<2 ^ m:=Nat.two_pow_pos m;have d:((x+2 ^ m * a) ^^^ (y+2 ^ m * b)) % 2 ^ m=x ^^^ y:=by rw [Nat.xor_mod_two_pow,Nat.add_mul_mod_self_left,Nat.add_mul_mod_self_left,Nat.mod_eq_of_lt hx,Nat.mod_eq_of_lt c]
 have e:((x+2 ^ m * a) ^^^ (y+2 ^ m * b)) / 2 ^ m=a ^^^ b:=by rw [Nat.xor_div_two_pow,Nat.add_mul_div_left _ _ hp,Nat.add_mul_div_left _ _ hp,Nat.div_eq_of_lt hx,Nat.div_eq_of_lt c,Nat.zero_add,Nat.zero_add]
 rw [← d, ← e];exact (Nat.mod_add_div _ _).symm
theorem aXu (x c:Nat):∀ k,st x k c=sI k (c ^^^ x % 2 ^ k)
 | 0=>by simp [st,sI,Nat.mod_one]
 | k+1=>by
  show s1 (st x k c ^^^ (x / 2 ^ k % 2))=_;rw [aXu x c k];have hx:x % 2 ^ (k+1)=(2 ^ k * (x / 2 ^ k % 2)) ^^^ (x % 2 ^ k):=by have:=aZc (x % 2 ^ (k+1)) k;rw [this,Nat.mod_mod_of_dvd x (Nat.pow_dvd_pow 2 (Nat.le_succ k)),Nat.pow_succ,Nat.mod_mul_right_div_self]
  rw [aK8 k 1,hx];generalize x / 2 ^ k % 2=b;generalize x % 2 ^ k=r;rw [show c ^^^ (2 ^ k * b ^^^ r)=2 ^ k * b ^^^ (c ^^^ r) by rw [← Nat.xor_assoc,Nat.xor_comm c,Nat.xor_assoc],aFd];show s1 (sI k (c ^^^ r) ^^^ b)=s1 (b ^^^ sI k (c ^^^ r));rw [Nat.xor_comm]
def gZ:List Int->Nat
 | []=>0
 | x::r=>x.toNat+256 * gZ r
theorem aGx:∀ {xs:List Int},Bs xs->gZ xs<2 ^ (8 * xs.length)
 | [],_=>by simp [gZ]
 | x::r,h=>by obtain⟨b,a⟩:=h.cons;have ih:=aGx a;rw [List.length_cons,show 8 * (r.length+1)=8+8 * r.length by omega,Nat.pow_add,show (2:Nat) ^ 8=256 from rfl];show x.toNat+256 * gZ r<_;omega
theorem aE4:∀ (a b:List Int),gZ (a++b)=gZ a+2 ^ (8 * a.length) * gZ b
 | [],b=>by simp [gZ]
 | x::a,b=>by show x.toNat+256 * gZ (a++b)=x.toNat+256 * gZ a+_;rw [aE4 a b,List.length_cons,show 8 * (a.length+1)=8+8 * a.length by omega,Nat.pow_add,show (2:Nat) ^ 8=256 from rfl,Nat.mul_add,Nat.mul_assoc,Nat.add_assoc]
theorem aMd:∀ {a b:List Int},Bs a->Bs b->a.length=b.length->gZ a=gZ b->a=b
 | [],[],_,_,_,_=>rfl
 | [],_::_,_,_,hl,_=>by simp at hl
 | _::_,[],_,_,hl,_=>by simp at hl
 | x::a,y::b,ha,hb,hl,h=>by
  obtain⟨g,c⟩:=ha.cons;obtain⟨i,d⟩:=hb.cons;have j:x.toNat+256 * gZ a=y.toNat+256 * gZ b:=h;have e:x=y:=by omega
  have f:gZ a=gZ b:=by omega
  rw [e,aMd c d (by simpa using hl) f]
theorem aAt {xs:List Int} (h:Bs xs) {o:Nat} (b:o<=xs.length):gZ (xs.drop o)=gZ xs / 2 ^ (8 * o)/\gZ (xs.take o)=gZ xs % 2 ^ (8 * o):=by
 have e:=aE4 (xs.take o) (xs.drop o);have hl:(xs.take o).length=o:=by simp; omega
 have a:=aGx (h.take o);rw [List.take_append_drop,hl] at e;rw [hl] at a;rw [e];exact⟨by rw [Nat.add_mul_div_left _ _ (Nat.two_pow_pos _),Nat.div_eq_of_lt a,Nat.zero_add],by rw [Nat.add_mul_mod_self_left,Nat.mod_eq_of_lt a]⟩
theorem aIo:∀ (xs:List Int) (c:Nat),Bs xs->aEq c xs=sI (8 * xs.length) (c ^^^ gZ xs)
 | [],c,_=>by simp [aEq,sI,gZ]
 | x::r,c,h=>by
  obtain⟨b,a⟩:=h.cons;have ih:=aIo r (st x.toNat 8 c) a;show aEq (st x.toNat 8 c) r=_;rw [ih,aXu,Nat.mod_eq_of_lt (by show x.toNat<256; omega),List.length_cons,show 8 * (r.length+1)=8+8 * r.length by omega,aK8];have e:c ^^^ gZ (x::r)=2 ^ 8 * gZ r ^^^ (c ^^^ x.toNat):=by have:=aEa (gZ r) 0 0 x.toNat 8 (by decide) (by show x.toNat<256; omega);simp only [Nat.zero_add,Nat.mul_zero,Nat.add_zero,Nat.zero_xor,Nat.xor_zero] at this;show c ^^^ (x.toNat+2 ^ 8 * gZ r)=_;rw [← this, ← Nat.xor_assoc,Nat.xor_comm c,Nat.xor_assoc]
  rw [e,aFd,Nat.xor_comm]
theorem aMc {v:List Int} (h:Bs v) (hl:v.length=4):uA v=gZ v:=by
 obtain⟨a,b,c,d,r,rfl,_⟩:=aGk h (by omega);have:r=[]:=List.eq_nil_of_length_eq_zero (by simpa using hl);subst this;rw [aCw];simp [gZ]
 try omega
def Burst (D:Nat):Prop:=∃ k w:Nat,D=2 ^ k * w/\w<4294967296
theorem Burst.div {D:Nat} (h:Burst D) (j:Nat):Burst (D / 2 ^ j):=by
 obtain⟨k,w,rfl,hw⟩:=h;rcases Nat.le_total j k with a | a
 ·refine⟨k - j,w,?_,hw⟩;rw [show k=j+(k - j) by omega,Nat.pow_add,Nat.mul_assoc,Nat.mul_div_cancel_left _ (Nat.two_pow_pos j),Nat.add_sub_cancel_left]
 ·refine⟨0,w / 2 ^ (j - k),?_,Nat.lt_of_le_of_lt (Nat.div_le_self _ _) hw⟩;rw [show j=k+(j - k) by omega,Nat.pow_add,Nat.mul_div_mul_left _ _ (Nat.two_pow_pos k),Nat.add_sub_cancel_left,Nat.pow_zero,Nat.one_mul]
theorem Burst.mod {D:Nat} (h:Burst D) (j:Nat):Burst (D % 2 ^ j):=by
 obtain⟨k,w,rfl,hw⟩:=h;rcases Nat.le_total k j with a | a
 ·refine⟨k,w % 2 ^ (j - k),?_,Nat.lt_of_le_of_lt (Nat.mod_le _ _) hw⟩;rw [show j=k+(j - k) by omega,Nat.pow_add,Nat.mul_mod_mul_left,Nat.add_sub_cancel_left]
 ·refine⟨0,0,?_,by decide⟩;rw [show k=j+(k - j) by omega,Nat.pow_add,Nat.mul_assoc,Nat.mul_mod_right]
theorem Burst.ne {D:Nat} (h:Burst D) (h0:D≠0) (m:Nat):sI m D≠0:=by
 obtain⟨k,w,rfl,hw⟩:=h;have a:w≠0:=λe=>h0 (by rw [e,Nat.mul_zero]);rcases Nat.le_total k m with hk | hk
 ·have:=aFd k w 0;rw [Nat.xor_zero,aK7,Nat.xor_zero] at this;rw [show m=k+(m - k) by omega,aK8,this];exact aW4 _ hw a
 ·have:=aFd m (2 ^ (k - m) * w) 0;rw [Nat.xor_zero,aK7,Nat.xor_zero, ← Nat.mul_assoc, ← Nat.pow_add,show m+(k - m)=k by omega] at this;rw [this];have:=Nat.two_pow_pos (k - m);exact Nat.mul_ne_zero (by omega) a
theorem aVs {a b:Nat} (h:a ^^^ b=0):a=b:=by
 have c:=congrArg (· ^^^ b) h
 simp only [Nat.xor_assoc,Nat.xor_self,Nat.xor_zero,Nat.zero_xor] at c;exact c
theorem Burst.part {A B:List Int} (hA:Bs A) (hB:Bs B) (hl:A.length=B.length) (h:Burst (gZ A ^^^ gZ B)) (o n:Nat) (b:o+n<=A.length):Burst (gZ ((A.drop o).take n) ^^^ gZ ((B.drop o).take n)):=by have a:=(aAt hA (o:=o) (by omega)).1;have b1:=(aAt hB (o:=o) (by omega)).1;have a2:=(aAt (hA.drop o) (o:=n) (by simp; omega)).2;have b2:=(aAt (hB.drop o) (o:=n) (by simp; omega)).2;rw [a2,b2,a,b1, ← Nat.xor_mod_two_pow, ← Nat.xor_div_two_pow];exact (h.div _).mod _
theorem aRn {H T a b:List Int} (bH:Bs H) (bT:Bs T) (f:Bs a) (h:Bs b) (hl:a.length=H.length) (t4:T.length=4) (j:b.length=4) (c:crc H=uA T)
  (hb:Burst (gZ (a++b) ^^^ gZ (H++T))) (k:gZ (a++b) ^^^ gZ (H++T)≠0):crc a≠uA b:=by
 intro hp;have key:=hb.ne k (8 * H.length);apply key;have g:=aGx bH;have d:=aGx f;rw [hl] at d;have e:gZ (a++b) ^^^ gZ (H++T)=2 ^ (8 * H.length) * (gZ b ^^^ gZ T) ^^^ (gZ a ^^^ gZ H):=by rw [aE4,aE4,hl,aEa _ _ _ _ _ d g];have:=aEa (gZ b ^^^ gZ T) 0 0 (gZ a ^^^ gZ H) (8 * H.length) (Nat.two_pow_pos _) (Nat.xor_lt_two_pow d g);simp only [Nat.zero_add,Nat.mul_zero,Nat.add_zero,Nat.zero_xor,Nat.xor_zero] at this;exact this.symm
 rw [e,aFd,aLm];rw [aMc bT t4] at c;rw [aMc h j] at hp;unfold crc at c hp;rw [aIo _ _ bH,aLm] at c;rw [aIo _ _ f,hl,aLm] at hp;rw [← c, ← hp];generalize sI (8 * H.length) 4294967295=u;generalize sI (8 * H.length) (gZ a)=v;generalize sI (8 * H.length) (gZ H)=w;apply Nat.eq_of_testBit_eq;intro i;simp only [Nat.testBit_xor,Nat.zero_testBit];cases u.testBit i <;> cases v.testBit i <;> cases w.testBit i <;> cases (4294967295:Nat).testBit i <;> rfl
theorem xG {p X q b:List Int} {kind:Int} (hk:0<=kind/\kind<256) (hb:Bs b) (u:b.length<=1048576) (f:Bs X) (hl:X.length=(fB kind b).length) (j:Burst (gZ X ^^^ gZ (fB kind b))) (k:X≠fB kind b) :
  ((sB (p++X++q) (p.length:Int)).2.2.2=3\/(sB (p++X++q) (p.length:Int)).2.2.2=4) \/
  (∃ n:Nat,n≠b.length/\(sB (p++X++q) (p.length:Int)).2.1.length=n/\(sB (p++X++q) (p.length:Int)).2.2.1=(p.length:Int)+n+9/\(sB (p++X++q) (p.length:Int)).2.2.2=0):=by
 have v:=jC kind b;have hB:=aAo hk hb;have l:(p++X++q).drop p.length=X++q:=by rw [List.append_assoc,List.drop_left]
 unfold sB;rw [if_neg (by simp only [List.length_append]; omega),Int.toNat_natCast,l];by_cases g:(X++q).length<9
 ·rw [if_pos g]; exact .inl (.inl rfl)
 rw [if_neg g];by_cases h:1048576<uA (X++q)\/(X++q).length - 9<uA (X++q)
 ·rw [if_pos h]; exact .inl (.inl rfl)
 rw [if_neg h];by_cases hc:crc ((X++q).take (5+uA (X++q)))=uA ((X++q).drop (5+uA (X++q)))
 ·rw [if_pos hc];right;refine⟨uA (X++q),?_,?_,?_,rfl⟩
  ·intro hn
   
   rw [hn] at hc;have hlen:X.length=5+b.length+4:=by omega
   have m:(X++q).take (5+b.length)=X.take (5+b.length):=by rw [List.take_append_of_le_length (by omega)]
   have o:(X++q).drop (5+b.length)=X.drop (5+b.length)++q:=by rw [List.drop_append_of_le_length (by omega)]
   have s:(X.drop (5+b.length)).length=4:=by simp; omega
   have t:uA (X.drop (5+b.length)++q)=uA (X.drop (5+b.length)):=by obtain⟨a,w,c,d,r,hr,_⟩:=aGk (f.drop (5+b.length)) (by omega);rw [hr,List.cons_append,List.cons_append,List.cons_append,List.cons_append,aCw,aCw]
   rw [m,o,t] at hc;have x:=aC0 kind b;have i:fB kind b=tM kind b++iW (crc (tM kind b)):=rfl;refine aRn (H:=tM kind b) (T:=iW (crc (tM kind b))) (aIh hk hb) (zZ _) (f.take _) (f.drop _) (by simp; omega) (jD _) s ?_ ?_ ?_ hc
   ·have:=aE8 (aLq (tM kind b)) [];rw [List.append_nil] at this;exact this.symm
   ·rw [List.take_append_drop, ← i]; exact j
   ·rw [List.take_append_drop, ← i];intro e;exact k (aMd f hB hl (aVs e))
  ·simp only [List.length_drop,List.length_take];omega
  ·show (p.length:Int)+uA (X++q)+9=_;rfl
 ·rw [if_neg hc]; exact .inl (.inr rfl)
theorem aVg {a b:Nat} (c:a<256) (hb:b<256):wR .u8 (a:Int) (b:Int)=((a ^^^ b:Nat):Int):=by unfold wR;rw [eI,eI,uE];have h:a ^^^ b<2 ^ 8:=Nat.xor_lt_two_pow (show a<2 ^ 8 by omega) (show b<2 ^ 8 by omega);simp only [BitVec.toNat_xor,BitVec.toNat_ofNat,show IntKind.u8.bits=8 from rfl];rw [Nat.mod_eq_of_lt (show a<2 ^ 8 by omega),Nat.mod_eq_of_lt (show b<2 ^ 8 by omega),Nat.mod_eq_of_lt (show a ^^^ b<256 from h)]
theorem aMf {s:Nat} (hs:s<8):∀ {xs:List Int} {j:Nat} {x:Nat},Bs xs->xs[j]?=some (x:Int)->gZ (xs.set j ((x ^^^ 2 ^ s:Nat):Int))=gZ xs ^^^ 2 ^ (8 * j+s)/\Bs (xs.set j ((x ^^^ 2 ^ s:Nat):Int))
 | [],j,x,_,h=>by simp at h
 | y::r,0,x,hB,h=>by
  simp at h;subst h;obtain⟨c,b⟩:=hB.cons;have hp:2 ^ s<256:=Nat.pow_lt_pow_right (a:=2) (by decide) (show s<8 from hs);have hx:x<2 ^ 8:=by show x<256; omega
  have f:x ^^^ 2 ^ s<256:=Nat.xor_lt_two_pow (n:=8) hx hp;have:=aEa (gZ r) 0 x (2 ^ s) 8 hx hp;simp only [Nat.mul_zero,Nat.add_zero,Nat.xor_zero] at this;refine⟨?_,Bs.mk (by omega) b⟩;show (((x ^^^ 2 ^ s:Nat):Int)).toNat+256 * gZ r=((x:Int).toNat+256 * gZ r) ^^^ 2 ^ (8 * 0+s);rw [Int.toNat_natCast,Int.toNat_natCast,Nat.mul_zero,Nat.zero_add];exact this.symm
 | y::r,j+1,x,hB,h=>by obtain⟨c,b⟩:=hB.cons;obtain⟨d,e⟩:=aMf hs (xs:=r) (j:=j) b (by simpa using h);refine⟨?_,Bs.mk c e⟩;show y.toNat+256 * gZ (r.set j _)=(y.toNat+256 * gZ r) ^^^ _;rw [d];have:=aEa (gZ r) (2 ^ (8 * j+s)) y.toNat 0 8 (by show y.toNat<256; omega) (by decide);rw [Nat.zero_add,Nat.xor_zero, ← Nat.pow_add,show 8+(8 * j+s)=8 * (j+1)+s by omega] at this;exact this.symm
section
variable {p:List Int} {k a2:Nat}
end
theorem aZe {α:Type} (xs:List α) {o n:Nat} (h:o+n<=xs.length):xs=xs.take o++(xs.drop o).take n++xs.drop (o+n):=by have b:=List.take_append_drop o xs;have a:=List.take_append_drop n (xs.drop o);rw [List.drop_drop] at a;rw [List.append_assoc,a,b]
section
variable {k:Int} {l:List S61} (h:Seg k l)
include h
theorem aMi {B:List Int} (hB:Bs B) (hl:B.length=(qS l k.toNat).length) (g:Burst (gZ B ^^^ gZ (qS l k.toNat))) :
  (∃ e:Int,(e=3\/e=4)/\kH B=some (none,e)) \/
  (kH B=some (some ⟨B.take (aS (pcs 64 l)).length,k,dR (pcs 64 l) 0⟩,0)/\B.drop (aS (pcs 64 l)).length=(qS l k.toNat).drop (aS (pcs 64 l)).length):=by
 obtain⟨c1,c2,c3,H,I⟩:=h.cks;obtain⟨f1,f2⟩:=h.foot;obtain⟨b1,b2⟩:=h.bytes;have E:=jC 102 (sD k.toNat (dR (pcs 64 l) 0));have F:=jC 116 (iW (aS (pcs 64 l)).length);rw [jD] at F;obtain⟨S,hS⟩:∃ S,S=qS l k.toNat:=⟨_,rfl⟩;have r:S=aS (pcs 64 l)++fB 102 (sD k.toNat (dR (pcs 64 l) 0))++fB 116 (iW (aS (pcs 64 l)).length):=hS;have G:=aP5 h (Pg:=B.take (aS (pcs 64 l)).length) (by simp; omega);rw [← hS] at hl g b1 b2 ⊢;generalize sD k.toNat (dR (pcs 64 l) 0)=Ft at *;generalize dR (pcs 64 l) 0=cks at *;generalize aS (pcs 64 l)=Pg at *;have s:S.drop (Pg.length+(Ft.length+9))=fB 116 (iW Pg.length):=by rw [r,List.drop_left' (by rw [List.length_append,E]; omega)]
 have t:(S.drop Pg.length).take (Ft.length+9)=fB 102 Ft:=by rw [r,List.append_assoc,List.drop_left,List.take_left' (by omega)]
 have i:=aZe B (o:=Pg.length+(Ft.length+9)) (n:=13) (by omega);rw [List.drop_of_length_le (show B.length<=Pg.length+(Ft.length+9)+13 by omega)] at i;have D:(B.drop (Pg.length+(Ft.length+9))).take 13=B.drop (Pg.length+(Ft.length+9)):=List.take_of_length_le (by simp; omega);have v:=aZe B (o:=Pg.length) (n:=Ft.length+9) (by omega);have w:=Burst.part hB b1 hl g (Pg.length+(Ft.length+9)) 13 (by omega);have x:=Burst.part hB b1 hl g Pg.length (Ft.length+9) (by omega);rw [t] at x;rw [s,List.take_of_length_le (l:=fB 116 (iW Pg.length)) (by omega)] at w;have hlo:(B.take (Pg.length+(Ft.length+9))).length=Pg.length+(Ft.length+9):=by simp; omega
 have y:(B.take Pg.length).length=Pg.length:=by simp; omega
 unfold kH;rw [if_neg (by simp only [decide_eq_true_eq]; omega)];simp only [lt_];rw [w64 (n:=(B.length:Int) - 13) (by omega) (by omega),show (B.length:Int) - 13=((Pg.length+(Ft.length+9):Nat):Int) by omega,oW hB (by omega)];simp only [Option.bind_some];by_cases d:(B.drop (Pg.length+(Ft.length+9))).take 13=fB 116 (iW Pg.length)
 ·have a:=vN (p:=B.take (Pg.length+(Ft.length+9))) (b:=iW Pg.length) (q:=[]) (kind:=116) (by simp [jD]);rw [← d, ← i,hlo,d] at a;rw [a];simp only;rw [if_neg (by simp),if_neg (by simp),if_neg (by rw [jD]; simp)];unfold lC;rw [if_neg (by simp only [bne_iff_ne,ne_eq,Decidable.not_not]; omega)];simp only [show at_ (iW Pg.length) 0=some ((Pg.length % 256:Nat):Int) from rfl,show at_ (iW Pg.length) 1=some ((Pg.length / 256 % 256:Nat):Int) from rfl,show at_ (iW Pg.length) 2=some ((Pg.length / 65536 % 256:Nat):Int) from rfl,show at_ (iW Pg.length) 3=some ((Pg.length / 16777216 % 256:Nat):Int) from rfl,Option.bind_some,lt_];rw [w64 (n:=((Pg.length % 256:Nat):Int)) (by omega) (by omega),w64 (n:=((Pg.length / 256 % 256:Nat):Int)) (by omega) (by omega),w64 (n:=((Pg.length / 65536 % 256:Nat):Int)) (by omega) (by omega),w64 (n:=((Pg.length / 16777216 % 256:Nat):Int)) (by omega) (by omega),aP3 (by omega)];rw [w64 (n:=(B.length:Int) - 13) (by omega) (by omega),if_neg (by simp only [decide_eq_true_eq]; omega),oW hB (by omega)];simp only [Option.bind_some];have j:=qK (xs:=B) (l:=0) (u:=Pg.length) (by omega) (by omega);rw [List.drop_zero,show ((0:Nat):Int)=0 from rfl] at j;have z:=aB0 (l:=B.take Pg.length) (by omega);by_cases f:(B.drop Pg.length).take (Ft.length+9)=fB 102 Ft
  ·have c:=vN (p:=B.take Pg.length) (b:=Ft) (q:=B.drop (Pg.length+(Ft.length+9))) (kind:=102) (by omega);rw [← f, ← v,y,f] at c;right;refine⟨?_,?_⟩
   ·rw [c];simp only;rw [if_neg (by simp),j];simp only [Option.bind_some];rw [z];simp only [Option.bind_some];rw [if_neg (by simp),if_neg (by simp only [bne_iff_ne,ne_eq,Decidable.not_not]; omega)];unfold kD;rw [G];rfl
   ·have A:=List.take_append_drop (Ft.length+9) (B.drop Pg.length);have C:=List.take_append_drop (Ft.length+9) (S.drop Pg.length);rw [List.drop_drop] at A C;rw [← A, ← C,f,t, ← D,d,s]
  ·left;have c:=xG (p:=B.take Pg.length) (X:=(B.drop Pg.length).take (Ft.length+9)) (q:=B.drop (Pg.length+(Ft.length+9))) (b:=Ft) (kind:=102) (by decide) f2 (by omega) ((hB.drop _).take _) (by simp; omega) x f;rw [← v,y] at c;generalize sB B (Pg.length:Int)=Y at c;rcases c with c | ⟨n,n1,n2,n3,m⟩
   ·refine⟨Y.2.2.2,c,?_⟩;rw [if_pos (by rcases c with e | e <;> rw [e] <;> rfl)]
   ·refine⟨3,.inl rfl,?_⟩;rw [if_neg (by rw [m]; simp),j];simp only [Option.bind_some];rw [z];simp only [Option.bind_some];split
    ·rfl
    ·rw [if_pos (by simp only [bne_iff_ne,ne_eq]; omega)];rfl
 ·left;have a:=xG (p:=B.take (Pg.length+(Ft.length+9))) (X:=(B.drop (Pg.length+(Ft.length+9))).take 13) (q:=[]) (b:=iW Pg.length) (kind:=116) (by decide) (zZ _) (by simp [jD]) ((hB.drop _).take _) (by simp; omega) w d;rw [← i,hlo,jD] at a;generalize sB B ((Pg.length+(Ft.length+9):Nat):Int)=Y at a;rcases a with a | ⟨n,n1,n2,n3,m⟩
  ·refine⟨Y.2.2.2,a,?_⟩;rw [if_pos (by rcases a with e | e <;> rw [e] <;> rfl)]
  ·refine⟨3,.inl rfl,?_⟩;rw [if_neg (by rw [m]; simp)];split
   ·rfl
   ·rw [if_pos (by simp only [bne_iff_ne,ne_eq]; omega)];rfl
end
def tX:S26:=⟨0,1099511627776,-1099511627776,1099511627776⟩
theorem aVi {c:S90} (h:CkOk c):qX tX c=true:=by obtain⟨a,b,d,e,f⟩:=h;unfold qX tX;simp only [Bool.and_eq_true,decide_eq_true_eq];omega
section
variable {k:Int} {l:List S61} (h:Seg k l)
include h
theorem aM1 {B:List Int} (hB:Bs B) (hl:B.length=(aS (pcs 64 l)).length) (N:Burst (gZ B ^^^ gZ (aS (pcs 64 l)))) (O:B≠aS (pcs 64 l)) :
  ∃ e:Int,(e=3\/e=4)/\fV (some ⟨B,k,dR (pcs 64 l) 0⟩) tX=some ([],0,e):=by
 obtain⟨n1,n2⟩:=h.num;obtain⟨c1,c2,c3,c4,P⟩:=h.cks;have Q:=h.k8;have hle:=h.le;have y:=λ{i x}=>h.at_ (i:=i) (x:=x);have hn:=yT (pcs 64 l) 0;obtain⟨a,a8,a9,hr⟩:=h.run;have hlen:(pcs 64 l).length=(l.length+64 - 1) / 64:=zN;have key:∀ (n i:Nat) (out:List S61) (q:Nat),i+n=(pcs 64 l).length->out.length<=i * 64->q<=i->B.take (aS ((pcs 64 l).take i)).length=aS ((pcs 64 l).take i) ->
   ∃ e:Int,(e=3\/e=4)/\loop (λs:List S61×Int×Int=>cB tX ⟨B,k,dR (pcs 64 l) 0⟩ s.1 s.2.1 s.2.2) (out,(q:Int),(i:Int))=some (.inr ([],0,e)):=by
  intro n
  induction n with
  | zero =>
   intro i out q hi _ _ ht;exfalso;rw [List.take_of_length_le (l:=pcs 64 l) (by omega),List.take_of_length_le (by omega)] at ht;exact O ht
  | succ n ih =>
   intro i out q hi ho hq ht;have hx:=List.getElem?_eq_getElem (l:=dR (pcs 64 l) 0) (i:=i) (by omega);obtain⟨a',q0,R,z,S,u,A,T,C⟩:=y hx;have D:=(c1 _ (List.mem_of_getElem? hx)).1;have U:a=a':=by have w1:=hr.of 0 _ (List.getElem?_eq_getElem (by omega));have w2:=R.of 0 _ (List.getElem?_eq_getElem (by omega));omega
   subst U;have j:=aE5 (q:=64) (by decide) S;have E:=h.cut _ (List.mem_of_getElem? j);have F:=(hr.drop (i * 64)).take 64;have W:((l.drop (i * 64)).take 64).length=min 64 (l.length - i * 64):=by simp
   generalize b6:(dR (pcs 64 l) 0)[i]'(by omega)=c at z u A T C hx D;obtain⟨gL,g1,g2,g3⟩:=E.pg Q;have G:aS (pcs 64 l)=aS ((pcs 64 l).take i)++pgL ((l.drop (i * 64)).take 64)++aS ((pcs 64 l).drop (i+1)):=by
    have:=List.take_append_drop i (pcs 64 l);rw [List.drop_eq_getElem_cons (by omega)] at this;rw [List.getElem?_eq_getElem (by omega)] at j;rw [Option.some.inj j] at this
    conv=>lhs; rw [← this,yG]
    rw [List.append_assoc];rfl
   have H:aS ((pcs 64 l).take (i+1))=aS ((pcs 64 l).take i)++pgL ((l.drop (i * 64)).take 64):=by rw [List.take_add_one,j,Option.toList_some,yG];simp [aS]
   have Z:=congrArg List.length G;rw [List.length_append,List.length_append] at Z;have I:=aZe B (o:=(aS ((pcs 64 l).take i)).length) (n:=(pgL ((l.drop (i * 64)).take 64)).length) (by omega);have J:=Burst.part hB P hl N (aS ((pcs 64 l).take i)).length (pgL ((l.drop (i * 64)).take 64)).length (by omega);have a0:((aS (pcs 64 l)).drop (aS ((pcs 64 l).take i)).length).take (pgL ((l.drop (i * 64)).take 64)).length=pgL ((l.drop (i * 64)).take 64):=by rw [G,List.append_assoc,List.drop_left,List.take_left]
   rw [a0] at J;have hlo:(B.take (aS ((pcs 64 l).take i)).length).length=(aS ((pcs 64 l).take i)).length:=by simp; omega
   have t:∃ e:Int,e=(((aS ((pcs 64 l).take i)).length+(pgL ((l.drop (i * 64)).take 64)).length:Nat):Int)/\cB tX ⟨B,k,dR (pcs 64 l) 0⟩ out (q:Int) (i:Int)=cA tX ⟨B,k,dR (pcs 64 l) 0⟩ out (i:Int) c (((q:Nat):Int)+1) e:=by
    refine⟨_,rfl,?_⟩;unfold cB;simp only;rw [if_pos (by simp only [decide_eq_true_eq]; omega),bE rfl hx];simp only [Option.bind_some];rw [aLp,aVi D];simp only [Option.bind_some];rw [if_neg (by simp)];simp only [lt_];rw [w64 (n:=((q:Nat):Int)+1) (by omega) (by omega),w64 (n:=(i:Int)+1) (by omega) (by omega)];by_cases c0:i+1<(pcs 64 l).length
    ·have K:=List.getElem?_eq_getElem (l:=dR (pcs 64 l) 0) (i:=i+1) (by omega);obtain⟨_,_,_,_,_,p4,_⟩:=y K;rw [if_pos (by simp only [decide_eq_true_eq]; omega),bE (n:=i+1) (by omega) K];simp only [Option.bind_some];rw [p4,H,List.length_append]
    ·rw [if_neg (by simp only [decide_eq_true_eq]; omega)];have:(aS ((pcs 64 l).drop (i+1))).length=0:=by rw [List.drop_of_length_le (by omega)]; rfl
     rw [show ((B.length:Nat):Int)=(((aS ((pcs 64 l).take i)).length+(pgL ((l.drop (i * 64)).take 64)).length:Nat):Int) by omega]
   obtain⟨e,he,t⟩:=t;by_cases v:(B.drop (aS ((pcs 64 l).take i)).length).take (pgL ((l.drop (i * 64)).take 64)).length=pgL ((l.drop (i * 64)).take 64)
   ·
    have L:=I;rw [v] at L;have d:=aNf (l:=(l.drop (i * 64)).take 64) (by omega) gL k (B.take (aS ((pcs 64 l).take i)).length) (B.drop ((aS ((pcs 64 l).take i)).length+(pgL ((l.drop (i * 64)).take 64)).length));rw [show fB 101 (vA ((l.drop (i * 64)).take 64))=pgL ((l.drop (i * 64)).take 64) from rfl,if_pos (List.all_eq_true.2 F.fm), ← L,hlo] at d;have w:cA tX ⟨B,k,dR (pcs 64 l) 0⟩ out (i:Int) c (((q:Nat):Int)+1) e=some (.inl (out++(((l.drop (i * 64)).take 64).map dI).filter (jB tX),((q+1:Nat):Int),((i+1:Nat):Int))):=by unfold cA;simp only;rw [zU hB (by omega),u,d];simp only [Option.bind_some];rw [if_pos (by rfl),if_neg (by simp only [bne_iff_ne,ne_eq,Decidable.not_not]; exact he.symm),if_neg (by simp only [bne_iff_ne,ne_eq,Decidable.not_not,List.length_map]; rw [W,C]),aGz (by rw [List.length_map]; exact E.ps) (by rw [List.length_map]; omega),aEl, ← z];simp only [Option.bind_some,aMw];unfold cD;rw [if_neg (by simp)];unfold dN;rw [if_neg (by simp),aLx h tX (m:=(l.drop (i * 64)).take 64) rfl F (by omega) (by omega) A out (by omega)];simp only [Option.bind_some];unfold gU iG eJ;rw [lt_,w64 (by omega) (by omega)];rfl
    have a2:=List.length_filter_le (jB tX) (((l.drop (i * 64)).take 64).map dI);rw [List.length_map] at a2;obtain⟨e',f,g⟩:=ih (i+1) (out++(((l.drop (i * 64)).take 64).map dI).filter (jB tX)) (q+1) (by omega) (by rw [List.length_append]; omega) (by omega) (by
     rw [H,List.length_append,List.take_add,ht,v])
    exact⟨e',f,(cL (t.trans w)).trans g⟩
   ·
    have r:=xG (p:=B.take (aS ((pcs 64 l).take i)).length) (X:=(B.drop (aS ((pcs 64 l).take i)).length).take (pgL ((l.drop (i * 64)).take 64)).length) (q:=B.drop ((aS ((pcs 64 l).take i)).length+(pgL ((l.drop (i * 64)).take 64)).length)) (b:=vA ((l.drop (i * 64)).take 64)) (kind:=101) (by decide) (aM6 (by omega) gL) (by have:=aC9 (l:=(l.drop (i * 64)).take 64) (by omega) gL; omega) ((hB.drop _).take _) (by
     show _=(pgL ((l.drop (i * 64)).take 64)).length;simp; omega) J v
    rw [← I,hlo] at r;have c6:(pgL ((l.drop (i * 64)).take 64)).length=9+(vA ((l.drop (i * 64)).take 64)).length:=jC 101 _;have d:((evR B (((aS ((pcs 64 l).take i)).length:Nat):Int) k).2.2=3\/(evR B (((aS ((pcs 64 l).take i)).length:Nat):Int) k).2.2=4)\/((evR B (((aS ((pcs 64 l).take i)).length:Nat):Int) k).2.2=0/\(evR B (((aS ((pcs 64 l).take i)).length:Nat):Int) k).2.1≠e):=by
     unfold evR;rcases r with r | ⟨n',m1,m2,m3,m4⟩
     ·rw [if_pos (by rcases r with e | e <;> rw [e] <;> decide)];exact .inl r
     ·rw [if_neg (by rw [m4]; simp)];split
      ·exact .inl (.inl rfl)
      ·split
       ·split
        ·right;refine⟨rfl,?_⟩;simp only;rw [m3,he];omega
        ·exact .inl (.inl rfl)
       ·exact .inl (.inl rfl)
    have w:∃ e':Int,(e'=3\/e'=4)/\cA tX ⟨B,k,dR (pcs 64 l) 0⟩ out (i:Int) c (((q:Nat):Int)+1) e=some (.inr (.inr ([],0,e'))):=by
     unfold cA;simp only;rw [zU hB (by omega),u];simp only [Option.bind_some];generalize evR B (((aS ((pcs 64 l).take i)).length:Nat):Int) k=Y at d;have h3:cD tX out (i:Int) c (((q:Nat):Int)+1) Y true=some (.inr (.inr ([],0,3))):=by unfold cD dN;rw [if_pos rfl,if_pos (by rfl)]
     rcases d with hz | ⟨hz,a6⟩
     ·refine⟨Y.2.2,hz,?_⟩;have M:¬ Y.2.2=0:=by omega
      rw [if_neg (by simpa using M)];unfold cD dN;rw [if_neg (by simp),if_pos (by simpa using M)]
     ·refine⟨3,.inl rfl,?_⟩;rw [if_pos (by simpa using hz),if_pos (by simp only [bne_iff_ne,ne_eq]; exact a6),h3]
    obtain⟨e',f,g⟩:=w;exact⟨e',f,bK (t.trans g)⟩
 obtain⟨e,f,g⟩:=key (pcs 64 l).length 0 [] 0 (by omega) (by simp) (by omega) (by simp [aS]);refine⟨e,f,?_⟩;unfold fV;simp only;rw [show (([]:List S61),(0:Int),(0:Int))=([],((0:Nat):Int),((0:Nat):Int)) from rfl,g];rfl
end
theorem aYe {kind:Int} {b:List Int} (hk:0<=kind/\kind<256) (hB:Bs b) (hb:b.length<=1048576):yY (fB kind b) kind=some (b,0):=by
  have d:rN (fB kind b) 0=some (kind,b,((fB kind b).length:Int),0):=by have e:=oW (b:=fB kind b) (a:=0) (aAo hk hB) (by rw [jC]; omega);have c:=vN (p:=[]) (q:=[]) (kind:=kind) hb;rw [List.nil_append,List.append_nil] at c;rw [e];congr 1;refine c.trans ?_;simp
  unfold yY;rw [d];simp only [Option.bind_some];rw [if_pos (by simp),if_neg (by simp)];unfold oU;rw [if_neg (by simp)];unfold rG;rw [if_neg (by simp)]
theorem IsR.of {ρ:Type} {o:Option ((ρ×S140)⊕S140)} {a:ρ} {r:List Int} (h:IsR o (some (a,r))):o=some (.inl (a,⟨r⟩)):=by
  rcases h.cases with ⟨a',r',e,b⟩ | ⟨e,_⟩
  · cases e; exact b
  · cases e
section
end
theorem aKz {f:List UInt8} (h:sL f=true):f.length<=32:=by unfold sL at h;simp only [Bool.and_eq_true,decide_eq_true_eq] at h;exact h.2
def Kp (s s':S77):Prop:=s'.f1=s.f1/\(s.f2=0->s.f3=false->s'.f2=0/\s'.f3=false)
theorem Kp.refl (s:S77):Kp s s:=⟨rfl,λa b=>⟨a,b⟩⟩
theorem Kp.trans {a b c:S77} (h:Kp a b) (d:Kp b c):Kp a c:=⟨d.1.trans h.1,λx y=>d.2 (h.2 x y).1 (h.2 x y).2⟩
theorem Kp.off {s s':S77} (h:Kp s s') (a:s.f2=0) (b:s.f3=false) (c:s'.f3=true):False:=by have:=(h.2 a b).2;rw [c] at this; cases this
theorem aKg (s:S77) (l:List S98):Kp s { step s with f0:=l }:=by refine⟨rfl,λa b=>?_⟩;unfold step;rw [a,b];exact⟨rfl,rfl⟩
theorem vZ {s:S77} {n:List UInt8} (hn:sL n=true) (h:s.f3=false):tJ s n=0:=by unfold tJ; rw [if_pos hn,h]; rfl
theorem aUc {kk:Nat} {s:S77} (h:SI kk s) {n:List UInt8} {x:S98} (hx:get s.f0 n=some x):sL n=true:=by obtain⟨a,rfl⟩:=vV hx;exact h.form x a
theorem aHl {kk:Nat} {s:S77} (h:SI kk s) (a:s.f3=false) {n:List UInt8} {x:S98} (hx:get s.f0 n=some x) (f:S98->List S98) :
    Kp s (aBk s n f).2/\(((aBk s n f).1=0/\(aBk s n f).2.f3=false/\(aBk s n f).2.f0=f x)\/((aBk s n f).1=9/\(aBk s n f).2.f3=true/\(aBk s n f).2.f0=s.f0)):=by
  unfold aBk;rw [if_pos (vZ (aUc h hx) a),hx];dsimp only;split
  · rename_i c
    exact⟨aKg s s.f0,.inr ⟨rfl,c,rfl⟩⟩
  · rename_i c
    exact⟨aKg s (f x),.inl ⟨rfl,by simpa using c,rfl⟩⟩
theorem aUa {kk:Nat} {s:S77} (h:SI kk s) (a:s.f3=false) {n:List UInt8} (hn:sL n=true) (p:List Int) :
    Kp s (qR s n p).2/\(((qR s n p).1=10/\(qR s n p).2=s/\(s.f1 - used s.f0<p.length\/500<=s.f0.length)) \/
      (((qR s n p).1=0/\(qR s n p).2.f3=false\/(qR s n p).1=9/\(qR s n p).2.f3=true)/\(qR s n p).2.f0=put s.f0 ⟨n,((get s.f0 n).getD ⟨n,[],0⟩).f1++p,((get s.f0 n).getD ⟨n,[],0⟩).f2⟩)):=by
  unfold qR;rw [if_pos (vZ hn a)];split
  · rename_i c
    exact⟨Kp.refl s,.inl ⟨rfl,rfl,c.elim .inl λc=>.inr c.2⟩⟩
  · refine⟨aKg s _,.inr ⟨?_,rfl⟩⟩
    dsimp only;split
    · rename_i c
      exact .inr ⟨rfl,c⟩
    · rename_i c
      exact .inl ⟨rfl,by simpa using c⟩
theorem aBy:∀ {l:List S98},mF l->(l.map S98.f0).Nodup
  | [],_=>List.nodup_nil
  | x::l,h=>by obtain⟨a,b⟩:=List.pairwise_cons.1 h;refine List.nodup_cons.2 ⟨λhm=>?_,aBy b⟩;obtain⟨y,c,e⟩:=List.mem_map.1 hm;have:=a y c;rw [e,yW] at this;cases this
theorem aGl:∀ {l:List S98},mF l->∀ {x:S98},x∈l->get l x.f0=some x
  | [],_,x,hx=>by cases hx
  | y::l,h,x,hx=>by
    obtain⟨a,b⟩:=List.pairwise_cons.1 h;rcases List.mem_cons.1 hx with rfl | hx
    · simp [get]
    · have c:(y.f0==x.f0)=false:=by rw [beq_eq_false_iff_ne];intro e;have:=a x hx;rw [e,yW] at this;cases this
      have:=aGl b hx;unfold get at this ⊢;rw [List.find?_cons_of_neg (by simp [c])];exact this
def aIz (f:List UInt8) (p:List Int):S98:=⟨f,p,p.length⟩
def aDx (n:Nat):List UInt8:=if n<10 then [UInt8.ofNat (48+n)] else if n<100 then [UInt8.ofNat (48+n / 10),UInt8.ofNat (48+n % 10)] else [UInt8.ofNat (48+n / 10 / 10),UInt8.ofNat (48+n / 10 % 10),UInt8.ofNat (48+n % 10)]
theorem aG3 {u:Nat} (h:u<10):Lib.decDigits u=[UInt8.ofNat (48+u)]:=by rw [Lib.decDigits,dif_pos h]
theorem aUh {u:Nat} (h:¬ u<10):Lib.decDigits u=Lib.decDigits (u / 10)++[UInt8.ofNat (48+u % 10)]:=by rw [Lib.decDigits,dif_neg h]
theorem aSr {n:Nat} (h:n<1000):Lib.itoa (n:Int)=aDx n:=by
  unfold Lib.itoa aDx;rw [if_neg (by omega),show ((n:Int)).toNat=n from rfl];by_cases a:n<10
  · rw [if_pos a,aG3 a]
  · rw [if_neg a,aUh a]
    by_cases b:n<100
    · rw [if_pos b,aG3 (by omega)]; rfl
    · rw [if_neg b,aUh (by omega),aG3 (by omega)]; rfl
theorem aD9 (n:Nat):(aDx n).length<=3:=by unfold aDx; split <;> (try split) <;> simp
def bDl (l:List UInt8):Nat:=l.foldl (λa c=>10 * a+(c.toNat - 48)) 0
def preS:List UInt8:=[115,101,103,46]
def oB:List UInt8:=[99,97,116]
def qO:List UInt8:=[99,97,116,46,116,109,112]
def kJ (a b:Nat):List UInt8:=((preS++aDx a)++[46])++aDx b
def wX (f:List UInt8):Bool:=decide (4<=f.length)&&(f.take 4==preS)
theorem aBr {n:Nat} (h:n<1000):jW (n:Int) 10=some (aDx n):=by unfold jW sE;rw [bL ⟨by omega,by omega,rfl⟩,aSr h];rfl
theorem aPy {a b:Nat} (c:a<1000) (hb:b<1000):rX (a:Int) (b:Int)=some (kJ a b):=by have d:=aD9 a;have e:=aD9 b;unfold rX;rw [aBr c];simp only [Option.bind_some];rw [bL (by simp only [List.length_cons,List.length_nil,maxLen]; omega),bL (by simp only [List.length_append,List.length_cons,List.length_nil,maxLen]; omega),aBr hb];simp only [Option.bind_some];rw [bL (by simp only [List.length_append,List.length_cons,List.length_nil,maxLen]; omega)];rfl
theorem aHk (a b:Nat):(kJ a b).length<=11:=by have c:=aD9 a;have d:=aD9 b;simp only [kJ,preS,List.length_append,List.length_cons,List.length_nil]; omega
theorem aPl:∀ n<1000,(aDx n).all (λc=>decide (48<=c.toNat)&&decide (c.toNat<=57))=true:=by decide +kernel
theorem aEp:∀ n<1000,bDl (aDx n)=n:=by decide +kernel
theorem aNd {n:Nat} (h:n<1000):∀ c∈aDx n,c≠46:=by intro c hc e;have:=List.all_eq_true.1 (aPl n h) c hc;subst e;revert this;decide
theorem aJf:∀ {x y p q:List UInt8},(∀ c∈x,c≠46)->(∀ c∈y,c≠46)->x++46::p=y++46::q->x=y/\p=q
  | [],[],p,q,_,_,h=>by injection h with _ h; exact⟨rfl,h⟩
  | [],c::y,p,q,_,hy,h=>by injection h with h _; exact absurd h.symm (hy c (List.mem_cons_self ..))
  | c::x,[],p,q,hx,_,h=>by injection h with h _; exact absurd h (hx c (List.mem_cons_self ..))
  | c::x,d::y,p,q,hx,hy,h=>by injection h with h1 h2;obtain⟨a,b⟩:=aJf (λc hc=>hx c (List.mem_cons_of_mem _ hc)) (λc hc=>hy c (List.mem_cons_of_mem _ hc)) h2;exact⟨by rw [h1,a],b⟩
theorem aHb {a b c d:Nat} (e:a<1000) (hb:b<1000) (hc:c<1000) (hd:d<1000) (h:kJ a b=kJ c d):a=c/\b=d:=by
  have f:aDx a++46::aDx b=aDx c++46::aDx d:=by have:=congrArg (List.drop 4) h;simpa [kJ,preS] using this
  obtain⟨g,i⟩:=aJf (aNd e) (aNd hc) f;have:=aEp a e;have:=aEp b hb;rw [g,aEp c hc] at *;rw [i,aEp d hd] at *;omega
theorem aC1 {a b:Nat} (e:a<1000) (hb:b<1000):sL (kJ a b)=true:=by
  have hl:=aHk a b;have d:∀ n<1000,(aDx n).all okc=true:=λn hn=>by refine List.all_eq_true.2 λc hc=>?_;have:=List.all_eq_true.1 (aPl n hn) c hc;unfold okc;rw [this];simp
  unfold sL;rw [decide_eq_true (show (kJ a b).length<=32 by omega),decide_eq_true (show 1<=(kJ a b).length by simp [kJ,preS])];simp only [kJ,List.all_append,d a e,d b hb,Bool.and_true];decide
theorem aB3:sL oB=true:=by decide
theorem aKd:sL qO=true:=by decide
theorem aAi (a b:Nat):wX (kJ a b)=true:=by simp [wX,kJ,preS]
theorem aRp:wX oB=false:=by decide
theorem aQ3 (f:List UInt8) (hf:f.length<4611686018427387904):nM f preS=some (wX f):=by
  unfold nM mM wX;rw [show ((preS.length:Nat):Int)=4 from rfl];by_cases h:4<=f.length
  · rw [if_pos (by simp only [decide_eq_true_eq]; omega),show (4:Int)=((4:Nat):Int) from rfl,show (0:Int)=((0:Nat):Int) from rfl,qK (by omega) h]
    simp [h]
  · rw [if_neg (by simp only [decide_eq_true_eq]; omega)]
    simp [h]
def aBe (l:List S46):Int:=match l.getLast? with | none=>0 | some x=>x.f2
theorem aXt (c:S79) (h:c.f2.length<4611686018427387904):fR c=some (aBe c.f2,c):=by
  unfold fR aBe;rcases hc:c.f2 with _ | ⟨x,l⟩
  · rfl
  · have a:0<c.f2.length:=by rw [hc]; simp
    rw [← hc,if_neg (by simp only [beq_iff_eq]; omega),lt_,w64 (by omega) (by omega)];have hi:c.f2.length - 1<c.f2.length:=by omega
    have hx:c.f2[c.f2.length - 1]?=some c.f2[c.f2.length - 1]:=List.getElem?_eq_getElem hi;rw [show (c.f2.length:Int) - 1=((c.f2.length - 1:Nat):Int) by omega,bE rfl hx,List.getLast?_eq_getElem?,hx];rfl
theorem aNp (c:S79) (h:c.f2.length<=1000000):eK c=some (c.f2,c):=by
  unfold eK bM;rw [bL (by simp only [List.length_nil]; omega)];unfold sO;cases hc:c.f2 with
  | nil=>simp
  | cons x l=>rfl
theorem aNk (l:List S46) (n:List UInt8) (hl:l.length<4611686018427387904):∀ (m i:Nat),i+m=l.length ->
    ∃ j:Int,((loop (λs:List UInt8×Int=>aK l s.1 s.2) (n,(i:Int))).bind λt=>match t with | (.inl t)=>cI t | (.inr t)=>some t)=some (j,n)/\decide (0<=j)=(l.drop i).any (λe=>e.f0==n)
  | 0,i,hi=>by
    rw [bK (b:=λs:List UInt8×Int=>aK l s.1 s.2) (t:=.inl n) (by
      show aK l n (i:Int)=_;unfold aK;rw [if_neg (by simp only [decide_eq_true_eq]; omega)]),List.drop_of_length_le (by omega)]
    exact⟨-1,rfl,rfl⟩
  | m+1,i,hi=>by
    have hx:=List.getElem?_eq_getElem (l:=l) (i:=i) (by omega);have hr:aK l n (i:Int)=if (l[i].f0==n)=true then some (.inr (.inr ((i:Int),n))) else some (.inl (n,((i+1:Nat):Int))):=by
      unfold aK kY;rw [if_pos (by simp only [decide_eq_true_eq]; omega),bE rfl hx];simp only [Option.bind_some];split
      · rfl
      · rw [lt_,w64 (by omega) (by omega)]; rfl
    rw [List.drop_eq_getElem_cons (by omega),List.any_cons];by_cases c:(l[i].f0==n)=true
    · rw [if_pos c] at hr
      rw [bK (b:=λs:List UInt8×Int=>aK l s.1 s.2) hr,c];exact⟨(i:Int),rfl,by simp⟩
    · rw [if_neg c] at hr
      rw [cL (b:=λs:List UInt8×Int=>aK l s.1 s.2) hr,show (l[i].f0==n)=false by simpa using c,Bool.false_or];exact aNk l n hl m (i+1) (by omega)
theorem aMn (l:List S46) (n:List UInt8) (hl:l.length<4611686018427387904):bV l n=some (l.any (λe=>e.f0==n),n):=by obtain⟨j,a,b⟩:=aNk l n hl l.length 0 (by omega);have c:cX l n=some (j,n):=a;unfold bV;rw [c];simp only [Option.bind_some];rw [b,List.drop_zero]
def sU (l:List S46) (f:List UInt8):Bool:=(f==qO)||(wX f && !(l.any λe=>e.f0==f))
def swg (go:List UInt8->Bool):List (List UInt8)->S77->Int×S77
  | [],s=>(0,s)
  | f::r,s=>if go f=true then (if (tZ s f).1=0 then swg go r (tZ s f).2 else tZ s f) else swg go r s
def wc (c:S79) (p:Int×S77):Int×S79×S77:=(p.1,c,p.2)
theorem aRo {kk:Nat} {s:S77} (h:SI kk s) (hk:kk<4611686018427387904) (c:S79) (hc:c.f2.length<=1000000) {L:List (List UInt8)} {i:Nat} {f:List UInt8} (hf:L[i]?=some f) (hl:f.length<=32) (hL:L.length<=500) :
    bP c L s.f0 s.f1 s.f2 s.f3 s.f4 (i:Int)=if sU c.f2 f=true then (if (tZ s f).1=0 then some (.inl ((tZ s f).2.f0,(tZ s f).2.f1,(tZ s f).2.f2,(tZ s f).2.f3,(tZ s f).2.f4,((i+1:Nat):Int))) else some (.inr (.inr (wc c (tZ s f))))) else some (.inl (s.f0,s.f1,s.f2,s.f3,s.f4,((i+1:Nat):Int))):=by
  have hi:=(List.getElem?_eq_some_iff.1 hf).1;have j:∀ (l:List S98) (a b:Int) (c:Bool) (d:Int),fE (i:Int) l a b c d=some (.inl (l,a,b,c,d,((i+1:Nat):Int))):=by intro l a b c d;unfold fE;rw [lt_,w64 (by omega) (by omega)];rfl
  have k:∀ (b g:Bool),dX c s.f0 s.f1 s.f2 s.f3 s.f4 (i:Int) (b,f) g=if g=true then (if (tZ s f).1=0 then some (.inl ((tZ s f).2.f0,(tZ s f).2.f1,(tZ s f).2.f2,(tZ s f).2.f3,(tZ s f).2.f4,((i+1:Nat):Int))) else some (.inr (.inr (wc c (tZ s f))))) else some (.inl (s.f0,s.f1,s.f2,s.f3,s.f4,((i+1:Nat):Int))):=by
    intro b g;unfold dX;cases g with
    | false=>rw [if_neg (by simp),if_neg (by simp),j]
    | true =>
      rw [if_pos rfl,if_pos rfl,show (⟨s.f0,s.f1,s.f2,s.f3,s.f4⟩:S77)=s from rfl,show ((b,f):Bool×List UInt8).2=f from rfl,h.Delete hk (by omega)];simp only [Option.bind_some];by_cases c1:(tZ s f).1=0
      · rw [if_neg (by simp [c1]),if_pos c1,j]
      · rw [if_pos (by simpa using c1),if_neg c1]
        rfl
  unfold bP;rw [if_pos (by simp only [decide_eq_true_eq]; omega),bE rfl hf];simp only [Option.bind_some];rw [aMn _ _ (by omega)];simp only [Option.bind_some];rw [show ([99,97,116,46,116,109,112]:List UInt8)=qO from rfl,show ([115,101,103,46]:List UInt8)=preS from rfl,aQ3 f (by omega)];simp only [Option.bind_some,k];unfold sU;cases (f==qO) <;> cases wX f <;> cases (c.f2.any λe=>e.f0==f) <;> rfl
theorem aIi (c:S79) (hc:c.f2.length<=1000000) {L:List (List UInt8)} (hL:L.length<=500) (h32:∀ f∈L,f.length<=32):∀ (m i kk:Nat) (s:S77),i+m=L.length->SI kk s->kk+m<4611686018427387904 ->
    ((loop (λq:List S98×Int×Int×Bool×Int×Int=>bP c L q.1 q.2.1 q.2.2.1 q.2.2.2.1 q.2.2.2.2.1 q.2.2.2.2.2) (s.f0,s.f1,s.f2,s.f3,s.f4,(i:Int))).bind λt=>match t with | (.inl t)=>iU c t.1 t.2.1 t.2.2.1 t.2.2.2.1 t.2.2.2.2 | (.inr t)=>some t)=some (wc c (swg (sU c.f2) (L.drop i) s))
  | 0,i,kk,s,hi,h,hk=>by
    rw [bK (b:=λq:List S98×Int×Int×Bool×Int×Int=>bP c L q.1 q.2.1 q.2.2.1 q.2.2.2.1 q.2.2.2.2.1 q.2.2.2.2.2) (t:=.inl (s.f0,s.f1,s.f2,s.f3,s.f4)) (by
      show bP c L s.f0 s.f1 s.f2 s.f3 s.f4 (i:Int)=_;unfold bP;rw [if_neg (by simp only [decide_eq_true_eq]; omega)]),List.drop_of_length_le (by omega)]
    rfl
  | m+1,i,kk,s,hi,h,hk=>by
    have hx:=List.getElem?_eq_getElem (l:=L) (i:=i) (by omega);have hr:=aRo h (by omega) c hc hx (h32 _ (List.getElem_mem (by omega))) hL;rw [List.drop_eq_getElem_cons (by omega)];unfold swg;by_cases c1:sU c.f2 L[i]=true
    · rw [if_pos c1] at hr ⊢
      by_cases c2:(tZ s L[i]).1=0
      · rw [if_pos c2] at hr ⊢
        rw [cL (b:=λq:List S98×Int×Int×Bool×Int×Int=>bP c L q.1 q.2.1 q.2.2.1 q.2.2.2.1 q.2.2.2.2.1 q.2.2.2.2.2) hr];exact aIi c hc hL h32 m (i+1) (kk+1) _ (by omega) (h.del (n:=L[i])) (by omega)
      · rw [if_neg c2] at hr ⊢
        rw [bK (b:=λq:List S98×Int×Int×Bool×Int×Int=>bP c L q.1 q.2.1 q.2.2.1 q.2.2.2.1 q.2.2.2.2.1 q.2.2.2.2.2) hr];rfl
    · rw [if_neg c1] at hr ⊢
      rw [cL (b:=λq:List S98×Int×Int×Bool×Int×Int=>bP c L q.1 q.2.1 q.2.2.1 q.2.2.2.1 q.2.2.2.2.1 q.2.2.2.2.2) hr];exact aIi c hc hL h32 m (i+1) kk _ (by omega) h (by omega)
theorem aIc (go:List UInt8->Bool):∀ (L:List (List UInt8)) (s:S77) (kk:Nat),SI kk s->s.f3=false->L.Nodup->(∀ f∈L,∃ x,get s.f0 f=some x) ->
    SI (kk+L.length) (swg go L s).2/\Kp s (swg go L s).2/\(∀ f,go f=false->get (swg go L s).2.f0 f=get s.f0 f)/\(∀ f x,get (swg go L s).2.f0 f=some x->get s.f0 f=some x) /\
      (used (swg go L s).2.f0<=used s.f0/\(swg go L s).2.f0.length<=s.f0.length) /\
      (((swg go L s).1=0/\(swg go L s).2.f3=false/\∀ f∈L,go f=true->get (swg go L s).2.f0 f=none)\/((swg go L s).1=9/\(swg go L s).2.f3=true))
  | [],s,kk,h,hon,hnd,hL=>⟨h,Kp.refl s,λ_ _=>rfl,λ_ _ q=>q,⟨Nat.le_refl _,Nat.le_refl _⟩,.inl ⟨rfl,hon,λf hf=>by cases hf⟩⟩
  | f::L,s,kk,h,hon,hnd,hL=>by
    obtain⟨hf,p⟩:=List.nodup_cons.1 hnd;unfold swg;by_cases c:go f=true
    · rw [if_pos c]
      obtain⟨x,hx⟩:=hL f List.mem_cons_self;have r:=h.del (n:=f);obtain⟨kp,hd⟩:=aHl h hon hx λx=>del s.f0 f;have C:=aG8 h.rise f;have D:=aLt h.rise f;rcases hd with ⟨e0,u,k⟩ | ⟨v,w,k⟩
      · have z:(tZ s f).1=0:=e0
        have i:(tZ s f).2.f0=del s.f0 f:=k;rw [if_pos z];have A:∀ g∈L,∃ x,get (tZ s f).2.f0 g=some x:=λg hg=>by obtain⟨y,j⟩:=hL g (List.mem_cons_of_mem _ hg);refine⟨y,?_⟩;rw [i,aC7 h.rise,if_neg (λe=>hf (by rw [e]; exact hg))];exact j
        obtain⟨l,m,i3,i4,⟨i5,B⟩,o⟩:=aIc go L (tZ s f).2 (kk+1) r u p A;refine⟨by rw [List.length_cons,show kk+(L.length+1)=kk+1+L.length by omega]; exact l,Kp.trans kp m,λg hg=>?_,λg y j=>?_,⟨?_,?_⟩,?_⟩
        · rw [i3 g hg,i,aC7 h.rise,if_neg (λe=>by subst e; rw [c] at hg; cases hg)]
        · have:=i4 g y j
          rw [i,aC7 h.rise] at this;split at this
          · cases this
          · exact this
        · rw [i] at i5; omega
        · rw [i] at B; omega
        · rcases o with ⟨a,b,d⟩ | q
          · refine .inl ⟨a,b,λg hg cg=>?_⟩
            rcases List.mem_cons.1 hg with rfl | hg
            · cases hq:get (swg go L (tZ s g).2).2.f0 g with
              | none=>rfl
              | some y =>
                have:=i4 g y hq;rw [i,aC7 h.rise,if_pos rfl] at this;cases this
            · exact d g hg cg
          · exact .inr q
      · have t:(tZ s f).1=9:=v
        have i:(tZ s f).2.f0=s.f0:=k;rw [if_neg (by rw [t]; decide)];exact⟨r.mono (by rw [List.length_cons]; omega),kp,λg _=>by rw [i],λg y j=>by rw [i] at j; exact j,⟨by rw [i]; exact Nat.le_refl _,by rw [i]; exact Nat.le_refl _⟩,.inr ⟨t,w⟩⟩
    · rw [if_neg c]
      obtain⟨l,m,i3,i4,i5,o⟩:=aIc go L s kk h hon p λg hg=>hL g (List.mem_cons_of_mem _ hg);refine⟨l.mono (by rw [List.length_cons]; omega),m,i3,i4,i5,?_⟩;rcases o with ⟨a,b,d⟩ | q
      · refine .inl ⟨a,b,λg hg cg=>?_⟩
        rcases List.mem_cons.1 hg with rfl | hg
        · exact absurd cg c
        · exact d g hg cg
      · exact .inr q
theorem aQu {kk:Nat} {s:S77} (h:SI kk s) (hk:kk+500<4611686018427387904) (c:S79) (hc:c.f2.length<=1000000):dD c s=some (wc c (swg (sU c.f2) (s.f0.map S98.f0) s)):=by
  have hl:=h.len;unfold dD;rw [h.Names];simp only [Option.bind_some];have:=aIi c hc (L:=s.f0.map S98.f0) (by simpa using hl) (λf hf=>by
    obtain⟨x,hx,rfl⟩:=List.mem_map.1 hf;exact aKz (h.form x hx)) s.f0.length 0 kk s (by simp) h (by omega)
  rw [List.drop_zero] at this;exact this
def aGh (e:S46):List Int:=uv e.f1.toNat++(uv e.f2.toNat++(uv (zz e.f3)++uv (zz e.f4)))
def zH:List S46->List Int
  | []=>[]
  | e::l=>aGh e++zH l
def aDq (pt:Int) (l:List S46):List Int:=uv pt.toNat++(uv l.length++zH l)
structure EOk (a:Nat) (e:S46):Prop where
  fr:e.f1=a
  lt:e.f1<e.f2
  le:e.f2<1000
  nm:e.f0=kJ e.f1.toNat e.f2.toNat
  lo : -1099511627776<=e.f3
  hi:e.f4<=1099511627776
  lh:e.f3<=e.f4
inductive Chain:Nat->List S46->Prop
  | nil (a:Nat):Chain a []
  | cons {a:Nat} {e:S46} {l:List S46} (h:EOk a e) (hl:Chain e.f2.toNat l):Chain a (e::l)
theorem aQi (e:S46):Bs (aGh e):=(Bs.uv _).app ((Bs.uv _).app ((Bs.uv _).app (Bs.uv _)))
theorem aIm:∀ l:List S46,Bs (zH l)
  | []=>Bs.nil
  | e::l=>(aQi e).app (aIm l)
theorem aGo (pt:Int) (l:List S46):Bs (aDq pt l):=(Bs.uv _).app ((Bs.uv _).app (aIm l))
theorem EOk.i64 {a:Nat} {e:S46} (h:EOk a e):P.i64 e.f3/\P.i64 e.f4:=by have:=h.lo; have:=h.hi; have:=h.lh;unfold P.i64;omega
theorem EOk.len {a:Nat} {e:S46} (h:EOk a e):(aGh e).length<=40:=by have b:=aM (n:=e.f1.toNat) (by have:=h.le; have:=h.lt; omega);have c:=aM (n:=e.f2.toNat) (by have:=h.le; omega);have d:=aM (wF h.i64.1);have f:=aM (wF h.i64.2);simp only [aGh,List.length_append]; omega
theorem Chain.len:∀ {a:Nat} {l:List S46},Chain a l->(zH l).length<=40 * l.length
  | _,_,.nil _=>Nat.le_refl _
  | _,_,.cons h hl=>by have:=h.len;have:=Chain.len hl;simp only [zH,List.length_append,List.length_cons]; omega
theorem Chain.few:∀ {a:Nat} {l:List S46},Chain a l->a<1000->a+l.length<1000
  | _,_,.nil _,h=>by simpa using h
  | _,_,.cons h hl,_=>by have:=h.fr; have:=h.lt; have:=h.le;have:=Chain.few hl (by omega);simp only [List.length_cons]; omega
theorem Chain.app:∀ {a:Nat} {l:List S46} {e:S46},Chain a l->EOk (match l.getLast? with | none=>a | some x=>x.f2.toNat) e->Chain a (l++[e])
  | a,[],e,_,h=>.cons h (.nil _)
  | a,x::l,e,.cons hx hl,h=>by
    refine .cons hx (Chain.app hl ?_);cases l with
    | nil=>exact h
    | cons y l =>
      rw [List.getLast?_cons_cons] at h;cases hq:(y::l).getLast? with
      | none=>simp at hq
      | some z=>rw [hq] at h; exact h
theorem aL2 (es:List S46):∀ (m i a:Nat) (b:List Int),i+m=es.length->Chain a (es.drop i)->b.length+40 * m<=1000000->es.length<=1000 ->
    loop (λs:List Int×Int=>cG es s.1 s.2) (b,(i:Int))=some (b++zH (es.drop i))
  | 0,i,a,b,hi,hc,hb,hl=>by refine bK ?_;show cG es b (i:Int)=_;unfold cG;rw [if_neg (by simp only [decide_eq_true_eq]; omega),List.drop_of_length_le (by omega),zH,List.append_nil]
  | m+1,i,a,b,hi,hc,hb,hl=>by
    have hx:=List.getElem?_eq_getElem (l:=es) (i:=i) (by omega);rw [List.drop_eq_getElem_cons (by omega)] at hc ⊢;obtain⟨he,e⟩:EOk a es[i]/\Chain es[i].f2.toNat (es.drop (i+1)):=by cases hc with | cons c d=>exact⟨c,d⟩
    have c:=aM (n:=es[i].f1.toNat) (by have:=he.le; have:=he.lt; omega);have d:=aM (n:=es[i].f2.toNat) (by have:=he.le; omega);have f:=aM (wF he.i64.1);have hf:=he.fr;have g:=he.lt;have hr:cG es b (i:Int)=some (.inl (b++aGh es[i],((i+1:Nat):Int))):=by unfold cG;rw [if_pos (by simp only [decide_eq_true_eq]; omega),bE rfl hx];simp only [Option.bind_some];rw [show es[i].f1=((es[i].f1.toNat:Nat):Int) by omega,sN _ _ (by have:=he.le; omega) (by omega)];simp only [Option.bind_some,Int.toNat_natCast];rw [show es[i].f2=((es[i].f2.toNat:Nat):Int) by omega,sN _ _ (by have:=he.le; omega) (by simp only [List.length_append,Int.toNat_natCast]; omega)];simp only [Option.bind_some,Int.toNat_natCast];rw [zF he.i64.1 _ (by simp only [List.length_append]; omega)];simp only [Option.bind_some];rw [zF he.i64.2 _ (by simp only [List.length_append]; omega)];simp only [Option.bind_some];rw [lt_,w64 (by omega) (by omega)];simp [aGh,List.append_assoc]
    rw [cL (b:=λs:List Int×Int=>cG es s.1 s.2) hr,aL2 es m (i+1) _ (b++aGh es[i]) (by omega) e (by have:=he.len; simp only [List.length_append]; omega) hl,zH,List.append_assoc]
theorem aOi (l:List S46) (e:S46):aBe (l++[e])=e.f2:=by simp [aBe]
theorem aQ9 {e:S46} {n:List UInt8} (h:e.f0=n):(⟨n,e.f1,e.f2,e.f3,e.f4⟩:S46)=e:=by subst h; rfl
theorem aTq {α β γ:Type} (v:α) (f:α->Option γ) (g:β->Option γ):((some (Sum.inl v:α⊕β)).bind λy=>fJ y f g)=f v:=rfl
theorem aRg {y:Int×S140} {pt:Int} {acc:List S46} {e:S46} {r:List Int} {i a:Nat} (he:EOk a e) (b:aBe acc=(a:Int)) (hB:Bs (aGh e++r)) (hi:(i:Int)<y.1) (hi':i<=1000) (c:acc.length<=1000) :
    cK y (aGh e++r) pt acc (i:Int)=some (.inl (r,pt,acc++[e],((i+1:Nat):Int))):=by
  have hf:=he.fr; have j:=he.lt; have hle:=he.le; have d:=he.lh;have f:((e.f1.toNat:Nat):Int)=e.f1:=by omega
  have g:((e.f2.toNat:Nat):Int)=e.f2:=by omega
  have e0:aGh e++r=uv e.f1.toNat++(uv e.f2.toNat++(uv (zz e.f3)++(uv (zz e.f4)++r))):=by simp only [aGh,List.append_assoc]
  rw [e0] at hB ⊢;have b1:=hB.r;have b2:=b1.r;have h:=b2.r;unfold cK;rw [if_pos (by simpa using hi),rdU (by omega) (by omega) hB];rw [aTq];rw [rdU (by omega) (by omega) b1];rw [aTq];rw [rdI he.i64.1 b2];rw [aTq];rw [rdI he.i64.2 h];rw [aTq];rw [aPy (by omega) (by omega),Option.bind_some];rw [aXt ⟨(),pt,acc⟩ (Nat.lt_of_le_of_lt c (by decide)),Option.bind_some];rw [b,if_pos (by rw [beq_iff_eq]; omega),if_pos (by rw [decide_eq_true_eq]; omega),decide_eq_true d,mL];rw [aTq];unfold eV;rw [bL (by simp only [List.length_cons,List.length_nil]; omega),lt_,oM (n:=(i:Int)+1) (by omega) (by omega)];simp only [f,g,aQ9 he.nm];rw [show ((i+1:Nat):Int)=(i:Int)+1 by omega]
theorem aJ2 {y:Int×S140} {pt:Int}:∀ (es:List S46) (i a:Nat) (acc:List S46),Chain a es->aBe acc=(a:Int)->acc.length=i->y.1=((i+es.length:Nat):Int)->i+es.length<=500 ->
    loop (λs:List Int×Int×List S46×Int=>cK y s.1 s.2.1 s.2.2.1 s.2.2.2) (zH es,pt,acc,(i:Int))=some (.inl ([],pt,acc++es))
  | [],i,a,acc,hc,hend,hacc,hy,hl=>by refine bK ?_;show cK y [] pt acc (i:Int)=_;unfold cK;rw [if_neg (by rw [hy]; simp),List.append_nil]
  | e::es,i,a,acc,.cons he hc,hend,hacc,hy,hl=>by simp only [List.length_cons] at hy hl;have hr:=aRg (y:=y) (pt:=pt) (r:=zH es) (i:=i) he hend ((aQi e).app (aIm es)) (by rw [hy]; omega) (by omega) (by omega);rw [show zH (e::es)=aGh e++zH es from rfl,cL (b:=λs:List Int×Int×List S46×Int=>cK y s.1 s.2.1 s.2.2.1 s.2.2.2) hr];have:=he.fr; have:=he.lt;rw [aJ2 es (i+1) e.f2.toNat (acc++[e]) hc (by rw [aOi]; omega) (by simp [hacc]) (by rw [hy]; congr 1; omega) (by omega),List.append_assoc];rfl
theorem aO6 {pt:Int} {es:List S46} (hp:1<=pt/\pt<=8) (hc:Chain 0 es) (hl:es.length<=500):iD ⟨(),pt,[]⟩ (fB 99 (aDq pt es))=some (0,⟨(),pt,es⟩):=by have a:=aM (n:=pt.toNat) (by omega);have b:=aM (n:=es.length) (by omega);have c:=hc.len;have hB:=aGo pt es;unfold iD;rw [aYe (by decide) hB (by simp only [aDq,List.length_append]; omega)];simp only [Option.bind_some];rw [if_neg (by decide)];unfold mG lN;simp only [lt_];rw [oM (n:=pt) (by omega) (by omega),show aDq pt es=uv pt.toNat++(uv es.length++zH es) from rfl,rdU (by omega) (by omega) hB];simp only [Option.bind_some,hJ];rw [show ((pt.toNat:Nat):Int)=pt by omega,show (pt==pt)=true by simp,mL];simp only [Option.bind_some,hJ];rw [rdU (by omega) (by omega) hB.r];simp only [Option.bind_some,hJ];have hL:=aJ2 (y:=((es.length:Int),(⟨zH es⟩:S140))) (pt:=pt) es 0 0 [] hc rfl rfl (by simp) (by omega);rw [show ((0:Nat):Int)=0 from rfl] at hL;rw [hL];rfl
theorem aTw (l:List Nat):rl (l.map lT)=rl l:=by unfold rl;rw [List.map_map];exact List.map_congr_left λx _=>by show IntKind.i64.wrap ((lT (lT x):Nat):Int)=_; rw [zG]
theorem aG1 (l:List S61):vA (l.map dI)=vA l:=by
  have a:nW (l.map dI)=nW l:=by unfold nW; rw [List.map_map]; rfl
  have b:jN (l.map dI)=jN l:=by unfold jN; rw [List.map_map]; rfl
  have c:jM (l.map dI)=jM l:=by unfold jM; rw [List.map_map]; rfl
  have d:nG (l.map dI)=nG l:=by unfold nG; rw [List.map_map]; rfl
  have e:mP (l.map dI)=(mP l).map lT:=by unfold mP; rw [List.map_map,List.map_map]; rfl
  unfold vA;rw [a,b,c,d,e,aTw]
theorem aSy (l:List S61):pcs 64 (l.map dI)=(pcs 64 l).map (List.map dI):=by unfold pcs;rw [List.length_map,List.map_map];refine List.map_congr_left λk _=>?_;show ((l.map dI).drop (k * 64)).take 64=List.map dI ((l.drop (k * 64)).take 64);rw [List.map_take,List.map_drop]
theorem aIw:∀ cs:List (List S61),aS (cs.map (List.map dI))=aS cs
  | []=>rfl
  | c::cs=>by show pgL (c.map dI)++aS (cs.map (List.map dI))=pgL c++aS cs;rw [aIw cs];unfold pgL;rw [aG1]
theorem aM2:∀ (cs:List (List S61)) (a:Nat),dR (cs.map (List.map dI)) a=dR cs a
  | [],_=>rfl
  | c::cs,a=>by show ckL (c.map dI) (a:Int)::dR (cs.map (List.map dI)) (a+(pgL (c.map dI)).length)=ckL c (a:Int)::dR cs (a+(pgL c).length);rw [aM2 cs,aEl,show pgL (c.map dI)=pgL c by unfold pgL; rw [aG1]]
theorem aQ8 (l:List S61) (k:Nat):qS (l.map dI) k=qS l k:=by unfold qS;rw [aSy,aIw,aM2]
theorem Run.back {k a:Int} {l:List S61} (h:Run k a l):Run k a (l.map dI):=by
  refine⟨λe he=>?_,λe he=>?_,λi x hx=>?_⟩
  · obtain⟨x,hx,rfl⟩:=List.mem_map.1 he
    exact h.fm x hx
  · obtain⟨x,hx,rfl⟩:=List.mem_map.1 he
    exact⟨(h.gd x hx).1,aMz (h.gd x hx).2⟩
  · rw [List.getElem?_map] at hx
    obtain⟨y,b,rfl⟩:=Option.map_eq_some_iff.1 hx;exact h.of i y b
theorem Seg.back {k:Int} {l:List S61} (h:Seg k l):Seg k (l.map dI):=by obtain⟨a,h0,b,hr⟩:=h.run;exact⟨h.k1,h.k8,by rw [List.length_map]; exact h.ps,by rw [List.length_map]; exact h.le,a,h0,by rw [List.length_map]; exact b,hr.back⟩
def pc (m:List S61) (a b:Nat):List S61:=(m.drop a).take (b - a)
structure Lg (k:Int) (m:List S61):Prop where
  run:Run k 0 m
  le:m.length<=250
  k1:1<=k
  k8:k<=8
theorem wV {m:List S61} {a b:Nat} (h:b<=m.length):(pc m a b).length=b - a:=by unfold pc; simp; omega
theorem aOu {m:List S61} {a b c:Nat} (d:a<=b) (e:b<=c):pc m a b++pc m b c=pc m a c:=by
  unfold pc;have:(m.drop a).take (c - a)=(m.drop a).take (b - a)++((m.drop a).drop (b - a)).take (c - b):=by rw [show c - a=(b - a)+(c - b) by omega,List.take_add]
  rw [this,List.drop_drop,show a+(b - a)=b by omega]
theorem aLs (m:List S61) (b:Nat):pc m 0 b=m.take b:=by unfold pc; simp
theorem yJ {k:Int} {m:List S61} (h:Run k 0 m) (a b:Nat):Run k a (pc m a b):=by have:=(h.drop a).take (b - a);rw [Int.zero_add] at this;exact this
theorem Lg.seg {k:Int} {m:List S61} (h:Lg k m) {a b:Nat} (c:a<b) (hb:b<=m.length):Seg k (pc m a b):=by have:=h.le;exact⟨h.k1,h.k8,by rw [wV hb]; omega,by rw [wV hb]; omega,a,by omega,by rw [wV hb]; omega,yJ h.run a b⟩
def szB (n:Nat):Nat:=6100 * ((n+63) / 64)+2422
theorem Seg.size {k:Int} {l:List S61} (h:Seg k l):(qS l k.toNat).length<=szB l.length:=by
  obtain⟨b1,b2⟩:=h.bytes;obtain⟨f1,f2⟩:=h.foot;obtain⟨p1,p2,p3⟩:=aCr h.k8 h.cut;have hlen:(pcs 64 l).length=(l.length+64 - 1) / 64:=zN;unfold szB;rw [b2];rw [hlen] at p1;have:l.length+64 - 1=l.length+63:=by omega
  rw [this] at p1;omega
theorem aEd {a b:Nat} (h:a<=b):szB a<=szB b:=by have:(a+63) / 64<=(b+63) / 64:=Nat.div_le_div_right (by omega);unfold szB;omega
def aDb (l:List S61):Int:=(ckL l 0).f4
def wZ (l:List S61):Int:=(ckL l 0).f5
def iQ (m:List S61) (a b:Nat):S46:=⟨kJ a b,(a:Int),(b:Int),aDb (pc m a b),wZ (pc m a b)⟩
def aY (m:List S61):Nat->List Nat->List S46
  | _,[]=>[]
  | a,b::r=>iQ m a b::aY m b r
def jG:Nat->List Nat->Nat
  | a,[]=>a
  | _,b::r=>jG b r
def RiseN:Nat->List Nat->Nat->Prop
  | a,[],n=>a<=n
  | a,b::r,n=>a<b/\RiseN b r n
theorem RiseN.end_le:∀ {r:List Nat} {a n:Nat},RiseN a r n->a<=jG a r/\jG a r<=n
  | [],a,n,h=>⟨Nat.le_refl _,h⟩
  | b::r,a,n,h=>by have:=RiseN.end_le h.2;have:=h.1;show a<=jG b r/\jG b r<=n;omega
theorem RiseN.len:∀ {r:List Nat} {a n:Nat},RiseN a r n->a+r.length<=jG a r
  | [],a,n,h=>Nat.le_refl _
  | b::r,a,n,h=>by have:=RiseN.len h.2;have:=h.1;show a+(r.length+1)<=jG b r;omega
theorem aLy:∀ (r s:List Nat) (a:Nat),jG a (r++s)=jG (jG a r) s
  | [],_,_=>rfl
  | b::r,s,_=>aLy r s b
theorem aCm (m:List S61):∀ (r s:List Nat) (a:Nat),aY m a (r++s)=aY m a r++aY m (jG a r) s
  | [],_,_=>rfl
  | b::r,s,a=>by show iQ m a b::aY m b (r++s)=iQ m a b::(aY m b r++aY m (jG b r) s);rw [aCm m r s b]
theorem fG (m:List S61):∀ (r:List Nat) (a:Nat),(aY m a r).length=r.length
  | [],_=>rfl
  | b::r,a=>by show (aY m b r).length+1=r.length+1; rw [fG m r b]
theorem RiseN.app:∀ {r s:List Nat} {a n:Nat},RiseN a (r++s) n↔RiseN a r (jG a r)/\RiseN (jG a r) s n
  | [],s,a,n=>⟨λh=>⟨Nat.le_refl _,h⟩,λh=>h.2⟩
  | b::r,s,a,n=>by show a<b/\RiseN b (r++s) n↔(a<b/\RiseN b r (jG b r))/\RiseN (jG b r) s n;rw [RiseN.app (r:=r) (s:=s) (a:=b) (n:=n)];exact⟨λh=>⟨⟨h.1,h.2.1⟩,h.2.2⟩,λh=>⟨h.1.1,h.1.2,h.2⟩⟩
theorem RiseN.mono:∀ {r:List Nat} {a n b:Nat},RiseN a r n->n<=b->RiseN a r b
  | [],_,_,_,h,h'=>Nat.le_trans h h'
  | _::_,_,_,_,h,h'=>⟨h.1,RiseN.mono h.2 h'⟩
theorem wJ {m:List S61}:∀ {r:List Nat} {a n:Nat},RiseN a r n->∀ e∈aY m a r,∃ x y:Nat,a<=x/\x<y/\y<=n/\e=iQ m x y
  | [],_,_,_,e,he=>by cases he
  | b::r,a,n,h,e,he=>by
    rcases List.mem_cons.1 he with rfl | he
    · exact⟨a,b,Nat.le_refl _,h.1,Nat.le_trans (RiseN.end_le h.2).1 (RiseN.end_le h.2).2,rfl⟩
    · obtain⟨x,y,g,c,d,f⟩:=wJ h.2 e he
      have:=h.1;exact⟨x,y,by omega,c,d,f⟩
theorem aMx (m:List S61):∀ (r:List Nat) (a:Nat),r≠[]->aBe (aY m a r)=(jG a r:Int)
  | [],a,h=>absurd rfl h
  | [b],a,_=>rfl
  | b::c::r,a,_=>by have:=aMx m (c::r) b (by simp);show aBe (iQ m a b::aY m b (c::r))=_;unfold aBe at this ⊢;rw [show aY m b (c::r)=iQ m b c::aY m c r from rfl] at this ⊢;rw [List.getLast?_cons_cons];exact this
theorem aRm (m:List S61) (r:List Nat):aBe (aY m 0 r)=(jG 0 r:Int):=by
  by_cases h:r=[]
  · subst h; rfl
  · exact aMx m r 0 h
theorem aL8 {l:List S61} {k a:Int} (h:Run k a l) (h0:0<l.length) : -1099511627776<=aDb l/\wZ l<=1099511627776/\aDb l<=wZ l:=by
  have hb:=aS5 l 0;have hx:=List.getElem_mem h0;obtain⟨_,_,i,j⟩:=hb _ hx;have e:ckL l 0=l.foldl ckF (ck0 l 0 (l[0]'h0)):=by
    cases l with
    | nil=>simp at h0
    | cons z c=>rfl
  have b:=aGt (λ_=>True) (λv => -1099511627776<=v/\v<=1099511627776) (λ_=>True) l (ck0 l 0 (l[0]'h0))
    ⟨⟨trivial,trivial⟩,⟨by have:=xE (h.fm _ hx); exact⟨this.2.2.1,this.2.2.2.1⟩,by have:=xE (h.fm _ hx); exact⟨this.2.2.1,this.2.2.2.1⟩⟩,trivial,trivial⟩
    λv d=>⟨trivial,by have:=xE (h.fm _ d); exact⟨this.2.2.1,this.2.2.2.1⟩,trivial⟩
  rw [← e] at b;obtain⟨_,⟨f,g⟩,_⟩:=b;exact⟨f.1,g.2,by unfold aDb wZ; omega⟩
theorem vF {k:Int} {m:List S61} (h:Lg k m):∀ {r:List Nat} {a:Nat},RiseN a r m.length->Chain a (aY m a r)
  | [],_,_=>.nil _
  | b::r,a,hr=>by have hb:=(RiseN.end_le hr.2);have hle:=h.le;have g:=hr.1;obtain⟨c,d,f⟩:=aL8 (yJ h.run a b) (by rw [wV (by omega)]; omega);exact .cons (e:=iQ m a b) ⟨rfl,by show (a:Int)<b; omega,by show (b:Int)<1000; omega,rfl,c,d,f⟩ (vF h hr.2)
theorem aC2 {k:Int} {m:List S61} (h:Lg k m) {r:List Nat} (hr:RiseN 0 r m.length) {e:S46} (he:e∈aY m 0 r):wX e.f0=true/\sL e.f0=true:=by obtain⟨x,y,a,b,c,rfl⟩:=wJ hr e he;have:=h.le;exact⟨aAi x y,aC1 (by omega) (by omega)⟩
theorem aQb {m:List S61}:∀ {r:List Nat} {a n x y:Nat},RiseN a r n->n<=250->x<1000->y<1000->(aY m a r).any (λe=>e.f0==kJ x y)=true->iQ m x y∈aY m a r
  | [],_,_,_,_,_,_,_,_,h=>by cases h
  | b::r,a,n,x,y,hr,hn,hx,hy,h=>by
    have c:=hr.1;have d:=RiseN.end_le hr.2;rw [show aY m a (b::r)=iQ m a b::aY m b r from rfl,List.any_cons,Bool.or_eq_true] at h;rcases h with h | h
    · obtain⟨rfl,rfl⟩:=aHb (by omega) (by omega) hx hy (beq_iff_eq.1 h:kJ a b=kJ x y)
      exact List.mem_cons_self
    · exact List.mem_cons_of_mem _ (aQb hr.2 hn hx hy h)
def aM5 (k:Int) (m:List S61) (r:List Nat):List Int:=fB 99 (aDq k (aY m 0 r))
def aFl (k:Int) (m:List S61) (e:S46):S98:=aIz e.f0 (qS (pc m e.f1.toNat e.f2.toNat) k.toNat)
structure Ct (k:Int) (m:List S61) (r:List Nat) (l:List S98):Prop where
  cat0:r=[]->get l oB=none
  cat:r≠[]->get l oB=some (aIz oB (aM5 k m r))
  segs:∀ e∈aY m 0 r,get l e.f0=some (aFl k m e)
def aS0 (m:List S61) (r:List Nat) (f:List UInt8):Prop:=f=oB\/∃ e∈aY m 0 r,f=e.f0
theorem Ct.of {k:Int} {m:List S61} {r:List Nat} {l a:List S98} (h:Ct k m r l) (hp:∀ f,aS0 m r f->get a f=get l f):Ct k m r a :=
  ⟨λe=>(hp _ (.inl rfl)).trans (h.cat0 e),λe=>(hp _ (.inl rfl)).trans (h.cat e),λe he=>(hp _ (.inr ⟨e,he,rfl⟩)).trans (h.segs e he)⟩
theorem aJe (l:List S46):sU l oB=false:=by unfold sU; rw [aRp]; rfl
theorem aG0 (l:List S46):sU l qO=true:=by unfold sU; simp
theorem aC3 {f:List UInt8} (h:wX f=true):f≠qO/\f≠oB :=
  ⟨λe=>by rw [e] at h; exact absurd h (by decide),λe=>by rw [e] at h; exact absurd h (by decide)⟩
theorem zD {k:Int} {m:List S61} (h:Lg k m) {r:List Nat} (hr:RiseN 0 r m.length) {f:List UInt8} (hf:aS0 m r f):sU (aY m 0 r) f=false:=by
  rcases hf with rfl | ⟨e,he,rfl⟩
  · exact aJe _
  · have a:=(aC3 (aC2 h hr he).1).1
    unfold sU;rw [show ((aY m 0 r).any λx=>x.f0==e.f0)=true from List.any_eq_true.2 ⟨e,he,by simp⟩,show (e.f0==qO)=false by simpa using a];simp
theorem aTy {m:List S61} {r:List Nat} {n x y:Nat} (hr:RiseN 0 r n) (hn:n<=250) (hx:x<1000) (a:y<1000) (h:iQ m x y∉aY m 0 r):sU (aY m 0 r) (kJ x y)=true:=by
  have:(aY m 0 r).any (λe=>e.f0==kJ x y)=false:=by
    cases c:(aY m 0 r).any (λe=>e.f0==kJ x y) with
    | false=>rfl
    | true=>exact absurd (aQb hr hn hx a c) h
  unfold sU;rw [this,aAi];simp
def CleanC (es:List S46) (l:List S98):Prop:=∀ f x,get l f=some x->sU es f=false
theorem CleanC.none {es:List S46} {l:List S98} (h:CleanC es l) {f:List UInt8} (hf:sU es f=true):get l f=none:=by
  cases hg:get l f with
  | none=>rfl
  | some x=>rw [h f x hg] at hf; cases hf
def aZg (l:List S98):Prop:=∀ f x,get l f=some x->f=oB\/f=qO\/wX f=true
theorem aF8 {kk:Nat} {s:S77} (h:SI kk s) (hk:kk+500<4611686018427387904) (j:s.f3=false) (c:S79) (hc:c.f2.length<=1000000) :
    ∃ e s',dD c s=some (e,c,s')/\SI (kk+500) s'/\Kp s s'/\(∀ f,sU c.f2 f=false->get s'.f0 f=get s.f0 f)/\(∀ f x,get s'.f0 f=some x->get s.f0 f=some x)/\(used s'.f0<=used s.f0/\s'.f0.length<=s.f0.length) /\
      ((e=0/\s'.f3=false/\CleanC c.f2 s'.f0)\/(e=9/\s'.f3=true)):=by
  obtain⟨k,l,i3,i4,i5,m⟩:=aIc (sU c.f2) (s.f0.map S98.f0) s kk h j (aBy h.rise) λf hf=>by obtain⟨x,hx,rfl⟩:=List.mem_map.1 hf;exact⟨x,aGl h.rise hx⟩
  refine⟨_,_,aQu h hk c hc,k.mono (by have:=h.len; rw [List.length_map]; omega),l,i3,i4,i5,?_⟩;rcases m with ⟨a,b,d⟩ | q
  · refine .inl ⟨a,b,λf x hx=>?_⟩
    cases g:sU c.f2 f with
    | false=>rfl
    | true =>
      have i:=i4 f x hx;have n:=d f (List.mem_map.2 ⟨x,(vV i).1,(vV i).2⟩) g;rw [n] at hx;cases hx
  · exact .inr q
def FitC (s:S77) (m c:Nat):Prop:=(used s.f0:Int)+m<=s.f1/\s.f0.length+c<=500
theorem FitC.mono {s:S77} {m a c b:Nat} (h:FitC s m c) (d:a<=m) (e:b<=c):FitC s a b:=⟨by have:=h.1; omega,by have:=h.2; omega⟩
theorem aJn {kk:Nat} {s:S77} (h:SI kk s) (hk:kk+500<4611686018427387904) (y:s.f3=false) (c:S79) {n:List UInt8} (hn:sL n=true) (hg:get s.f0 n=none) {p:List Int} (hp:Bs p) :
    ∃ e s',fH c n p s=some (e,c,s')/\SI (kk+2) s'/\Kp s s'/\(∀ f,f≠n->get s'.f0 f=get s.f0 f) /\
      ((e=0/\s'.f3=false/\get s'.f0 n=some (aIz n p))\/(e=9/\s'.f3=true)\/(e=10/\s'=s)) /\
      (∀ m c,FitC s (p.length+m) (c+1)->e≠10/\(e=0->FitC s' m c)):=by
  have h32:=aKz hn;obtain⟨j,r⟩:=aUa h y hn p;have g:=h.app (n:=n) (p:=p) hp;have k:fH c n p s=(if ((qR s n p).1==0)=true then some ((aDf (qR s n p).2 n).1,c,(aDf (qR s n p).2 n).2) else some ((qR s n p).1,c,(qR s n p).2)):=by
    unfold fH;rw [h.Append (by omega) (by omega) p];simp only [Option.bind_some];split
    · rw [show oE (some (qR s n p).2) n=_ from g.Sync (by omega) (by omega)]
      rfl
    · rfl
  rw [hg] at r;have hu:=aAc h.rise ⟨n,[]++p,0⟩;have hl:=aCp h.rise ⟨n,[]++p,0⟩;rw [hg] at hu hl;simp only [Option.getD_none,List.nil_append,Option.isSome_none,List.length_nil,Nat.add_zero] at hu hl;rcases r with ⟨e,es,hr⟩ | ⟨⟨e,on⟩ | ⟨e,off⟩,i⟩
  · refine⟨10,s,?_,h.mono (by omega),Kp.refl s,λ_ _=>rfl,.inr (.inr ⟨rfl,rfl⟩),λm c hf=>?_⟩
    · rw [k,e,es]; rfl
    · exfalso
      obtain⟨f1,f2⟩:=hf;rcases hr with hr | hr <;> omega
  · simp only [Option.getD_none,List.nil_append] at i hu hl
    have hx:get (qR s n p).2.f0 n=some ⟨n,p,0⟩:=by rw [i,vY h.rise,if_pos rfl]
    obtain⟨t,l⟩:=aHl g on hx λx=>put (qR s n p).2.f0 ⟨x.f0,x.f1,x.f1.length⟩;have z:=g.syn (n:=n);have u:=aAc g.rise ⟨n,p,p.length⟩;have o:=aCp g.rise ⟨n,p,p.length⟩;rw [hx] at u o;simp only [Option.getD_some,Option.isSome_some,if_true] at u o;refine⟨(aDf (qR s n p).2 n).1,(aDf (qR s n p).2 n).2,?_,z,Kp.trans j t,λf hf=>?_,?_,λm c v=>?_⟩
    · rw [k,e]; rfl
    · rcases l with ⟨_,_,d⟩ | ⟨_,_,d⟩
      · rw [show (aDf (qR s n p).2 n).2.f0=_ from d,vY g.rise,if_neg (λq=>hf q.symm),i,vY h.rise,if_neg (λq=>hf q.symm)]
      · rw [show (aDf (qR s n p).2 n).2.f0=_ from d,i,vY h.rise,if_neg (λq=>hf q.symm)]
    · rcases l with ⟨a,b,d⟩ | ⟨a,b,d⟩
      · exact .inl ⟨a,b,by rw [show (aDf (qR s n p).2 n).2.f0=_ from d,vY g.rise,if_pos rfl]; rfl⟩
      · exact .inr (.inl ⟨a,b⟩)
    · rcases l with ⟨a,b,d⟩ | ⟨a,b,d⟩
      · refine⟨by rw [show (aDf (qR s n p).2 n).1=0 from a]; decide,λ_=>?_⟩
        obtain⟨f1,f2⟩:=v;have w:(aDf (qR s n p).2 n).2.f0=put (qR s n p).2.f0 ⟨n,p,p.length⟩:=d;have A:=(Kp.trans j t).1;refine⟨?_,?_⟩
        · rw [show (aDf (qR s n p).2 n).2.f1=s.f1 from A,w]
          have B:used (put (qR s n p).2.f0 ⟨n,p,p.length⟩)=used (qR s n p).2.f0:=by omega
          rw [B,i];omega
        · rw [w,o,i,hl]
          simp only [if_neg (by simp:¬ (false=true))];omega
      · refine⟨by rw [show (aDf (qR s n p).2 n).1=9 from a]; decide,λq=>?_⟩
        rw [show (aDf (qR s n p).2 n).1=9 from a] at q;cases q
  · simp only [Option.getD_none,List.nil_append] at i
    refine⟨9,(qR s n p).2,?_,g.mono (by omega),j,λf hf=>?_,.inr (.inl ⟨rfl,off⟩),λm c v=>⟨by decide,λq=>by cases q⟩⟩
    · rw [k,e]; rfl
    · rw [i,vY h.rise,if_neg (λq=>hf q.symm)]
theorem aGy {k:Int} {es:List S46} (hk:1<=k/\k<=8) (hc:Chain 0 es) (hl:es.length<=250):(fB 99 (aDq k es)).length<=40 * es.length+40:=by have a:=aM (n:=k.toNat) (by omega);have b:=aM (n:=es.length) (by omega);have c:=hc.len;rw [jC];simp only [aDq,List.length_append];omega
theorem aK9 {kk:Nat} {s:S77} (h:SI kk s) (hk:kk+500<4611686018427387904) (q:s.f3=false) {k:Int} (w:1<=k/\k<=8) {old es:List S46} (hc:Chain 0 es) (hl:es.length<=250) (hg:get s.f0 qO=none) :
    ∃ e s',cY ⟨(),k,old⟩ es s=some (e,⟨(),k,if e=0 then es else old⟩,s')/\SI (kk+3) s'/\Kp s s'/\(∀ f,f≠qO->f≠oB->get s'.f0 f=get s.f0 f) /\
      ((e=0/\s'.f3=false/\get s'.f0 oB=some (aIz oB (fB 99 (aDq k es)))/\get s'.f0 qO=none)\/((e=9/\s'.f3=true\/e=10/\s'.f3=false)/\get s'.f0 oB=get s.f0 oB)) /\
      (FitC s (40 * es.length+40) 1->e≠10):=by
  have H:=aGy w hc hl;have hBs:Bs (fB 99 (aDq k es)):=aAo (by decide) (aGo k es);have I:=aM (n:=k.toNat) (by omega);have J:=aM (n:=es.length) (by omega);have K:=hc.len;have y:=sN k.toNat [] (by omega) (by simp only [List.length_nil]; omega);have z:=sN es.length (uv k.toNat) (by omega) (by omega);have r:=aL2 es es.length 0 0 (uv k.toNat++uv es.length) (by omega) (by rw [List.drop_zero]; exact hc) (by simp only [List.length_append]; omega) (by omega);rw [List.drop_zero] at r;have A:=zL (p:=[]) (kind:=99) (by decide) (aGo k es) (by simp only [aDq,List.length_append]; omega) (by simp);have dTC:qO≠oB:=by decide
  obtain⟨l,s1,B,g,m,i,t,C⟩:=aJn h hk q ⟨(),k,old⟩ aKd hg hBs;have D:cY ⟨(),k,old⟩ es s=fS ⟨(),k,old⟩ es s (aDq k es):=by unfold cY;rw [lt_,oM (n:=k) (by omega) (by omega),show k=((k.toNat:Nat):Int) by omega,y];simp only [Option.bind_some,List.nil_append];rw [lt_,oM (by omega) (by omega),z];simp only [Option.bind_some];rw [show (0:Int)=((0:Nat):Int) from rfl,r];simp only [Option.bind_some];unfold hX aDq;rw [List.append_assoc];simp only [Int.toNat_natCast]
  rw [D];unfold fS;rw [A];simp only [Option.bind_some,List.nil_append];rw [show ([99,97,116,46,116,109,112]:List UInt8)=qO from rfl,B];simp only [Option.bind_some];have E:FitC s (40 * es.length+40) 1->l≠10:=λhf=>(C 0 0 (hf.mono (by omega) (by omega))).1;by_cases c1:l=0
  rotate_left
  · rw [if_pos (by simpa using c1)]
    refine⟨l,s1,by rw [if_neg c1],g.mono (by omega),m,λf a b=>i f a,?_,E⟩;rcases t with ⟨a,_⟩ | ⟨a,b⟩ | ⟨a,b⟩
    · exact absurd a c1
    · exact .inr ⟨.inl ⟨a,b⟩,i _ dTC.symm⟩
    · exact .inr ⟨.inr ⟨a,by rw [b]; exact q⟩,i _ dTC.symm⟩
  rw [if_neg (by simp [c1])];obtain⟨u,F⟩:s1.f3=false/\get s1.f0 qO=some (aIz qO (fB 99 (aDq k es))):=by
    rcases t with ⟨_,a,b⟩ | ⟨a,_⟩ | ⟨a,_⟩
    · exact⟨a,b⟩
    · rw [c1] at a; cases a
    · rw [c1] at a; cases a
  rw [show ([99,97,116]:List UInt8)=oB from rfl,g.Rename (by omega) (by decide) (by decide)];simp only [Option.bind_some];have G:aO5 s1 qO oB=aBk s1 qO λx=>put (del s1.f0 qO) ⟨oB,x.f1,x.f2⟩:=by unfold aO5;rw [if_pos aKd,if_pos (vZ aB3 u)]
  obtain⟨o,v⟩:=aHl g u F λx=>put (del s1.f0 qO) ⟨oB,x.f1,x.f2⟩;have i4:=g.ren (a:=qO) (b:=oB);rw [← G] at o v;rcases v with ⟨a,b,j⟩ | ⟨a,b,j⟩
  · rw [if_neg (by rw [a]; simp)]
    refine⟨0,_,rfl,i4.mono (by omega),Kp.trans m o,λf c d=>?_,.inl ⟨rfl,b,?_,?_⟩,λ_=>by decide⟩
    · rw [j,vY (yL g.rise _),if_neg (λe=>d e.symm),aC7 g.rise,if_neg (λe=>c e.symm)]
      exact i f c
    · rw [j,vY (yL g.rise _),if_pos rfl]
      rfl
    · rw [j,vY (yL g.rise _),if_neg dTC.symm,aC7 g.rise,if_pos rfl]
  · rw [if_pos (by rw [a]; simp)]
    refine⟨9,_,by rw [a]; rfl,i4.mono (by omega),Kp.trans m o,λf c d=>by rw [j]; exact i f c,.inr ⟨.inl ⟨rfl,b⟩,by rw [j]; exact i _ dTC.symm⟩,λ_=>by decide⟩
theorem aO4 {l:List S61} (hl:l.length<=100000) {x:S61} (hx:l[0]?=some x) :
    loop (λs:Int×Int×Int=>cO l s.1 s.2.1 s.2.2) (x.f2,x.f2,0)=some (aDb l,wZ l):=by
  have e0:ckL l 0=l.foldl ckF (ck0 l 0 x):=by
    cases l with
    | nil=>cases hx
    | cons y l=>cases hx; rfl
  have hk:=kC (b:=λs:Int×Int×Int=>cO l s.1 s.2.1 s.2.2)
    (λk=>(((l.take k).foldl ckF (ck0 l 0 x)).f4,((l.take k).foldl ckF (ck0 l 0 x)).f5,(k:Int)))
    (t:=((l.foldl ckF (ck0 l 0 x)).f4,(l.foldl ckF (ck0 l 0 x)).f5)) l.length (λk hk=>by
      have a:=List.getElem?_eq_getElem (l:=l) (i:=k) hk;show cO l _ _ (k:Int)=_;unfold cO;rw [if_pos (by simp only [decide_eq_true_eq]; omega),bE rfl a];simp only [Option.bind_some,lt_];rw [w64 (by omega) (by omega),aHd ckF _ a];rfl) (by
      show cO l _ _ ((l.length:Nat):Int)=_;unfold cO;rw [if_neg (by simp only [decide_eq_true_eq]; omega),List.take_length])
  unfold aDb wZ;rw [e0];exact hk
theorem aSx {k:Int} {l:List S61} {a b:Nat} (hs:Seg k l) (hr:Run k a l) (hb:b=a+l.length) (f:b<1000) (old:List S46) (s:S77) :
    eB ⟨(),k,old⟩ l s=(fH ⟨(),k,old⟩ (kJ a b) (qS l k.toNat) s).bind λy=>some (⟨kJ a b,(a:Int),(b:Int),aDb l,wZ l⟩,y.1,y.2.1,y.2.2):=by
  have g:=hs.ps;have hx:=List.getElem?_eq_getElem (l:=l) (i:=0) g;have c:at_ l 0=some l[0]:=hx;have d:=aO4 (by omega) hx;generalize l[0]=x0 at c d;have e:=aG5 hs hr (by omega);rw [show (a:Int)+(l.length:Int)=(b:Int) by omega] at e;unfold eB;rw [aTz hr.gd k (by omega),bC3 hs,Option.bind_some,if_neg (by simp),aQg hs,Option.bind_some,e,Option.bind_some,c,Option.bind_some,aPy (by omega) f,Option.bind_some];unfold jY;rw [d,Option.bind_some];unfold iM jZ;exact rfl
theorem wK {c:S79} {e:Int} (h:e=0\/e=9) (s:S77):dH c e s=some (e,c,s):=by unfold dH eX eW;rcases h with rfl | rfl <;> rfl
theorem aOa {c:S79} {e f:Int} {s s':S77} (h0:e≠0) (b:e≠9) (hw:dD c s=some (f,c,s')):dH c e s=some (if f=0 then e else f,c,s'):=by
  unfold dH eX eW;rw [if_pos (by simpa using h0),if_pos (by simpa using b),hw];simp only [Option.bind_some];by_cases a:f=0
  · rw [if_neg (by simp [a]),if_pos a]
  · rw [if_pos (by simpa using a),if_neg a]
end Go.Proofs.YtdkpjpoajlmmfaaGreatDoor.P
