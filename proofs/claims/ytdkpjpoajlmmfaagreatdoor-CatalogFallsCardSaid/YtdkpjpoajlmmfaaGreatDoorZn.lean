/- Texts of the claim, joined: what it uses of Sp, Sq, Sr, Ss, St, Ta, Tb, Tc, Tg, Ua, Wa, Wb, Wc, Wd, We, Wf, Wg, Wh, Wi, Wj, Wk, Wl, Wm, Wn, Wo. -/
import Derived.Test.YtdkpjpoajlmmfaaGreatDoorZm
import Derived.Lib.ParseIntB
namespace Go.Proofs.YtdkpjpoajlmmfaaGreatDoor.P
open Go Go.RowKit Go.Proofs.YtdkpjpoajlmmfaaGreatDoor.E Go.Proofs.YtdkpjpoajlmmfaaGreatDoor.M
set_option linter.unusedVariables false
set_option linter.unusedSectionVars false
theorem Run.seg {k f:Int} {m:List S61} (h:Run k f m) (hk:1<=k/\k<=8) (hf:0<=f/\f<=4294967296) (h0:0<m.length) (hl:m.length<=150):Seg k m :=
 ⟨hk.1,hk.2,h0,by omega,f,hf.1,by omega,h⟩
def kH (f:S26) (e:S61):Bool:=decide (f.f0<=e.f0)&&(decide (e.f0<f.f1)&&(decide (f.f2<=e.f2)&&decide (e.f2<=f.f3)))
def xC (f:S26) (c:S90):Bool:=decide (f.f0<f.f1)&&(decide (f.f0<=c.f3)&&(decide (c.f2<f.f1)&&(decide (f.f2<=f.f3)&&(decide (f.f2<=c.f5)&&decide (c.f4<=f.f3)))))
theorem aT7 (f:S26) (e:S61):lF f e=some (kH f e):=by unfold lF kH;cases decide (f.f0<=e.f0) <;> cases decide (e.f0<f.f1) <;> cases decide (f.f2<=e.f2) <;> rfl
theorem aT3 (f:S26) (c:S90):kP f c=some (xC f c):=by unfold kP xC;cases decide (f.f0<f.f1) <;> cases decide (f.f0<=c.f3) <;> cases decide (c.f2<f.f1) <;> cases decide (f.f2<=f.f3) <;> cases decide (f.f2<=c.f5) <;> rfl
theorem aUk (l:List S61) (p:Int):∀ e∈l,(ckL l p).f2<=e.f0/\e.f0<=(ckL l p).f3/\(ckL l p).f4<=e.f2/\e.f2<=(ckL l p).f5:=λe he=>by
 cases l with
 | nil=>cases he
 | cons x r =>
  obtain⟨⟨_,a2⟩,⟨_,b2⟩,⟨_,c2⟩,_,a⟩:=aMn (x::r) (ck0 (x::r) p x);exact⟨a2 e he,b2 e he,c2 e he,a e he⟩
theorem aPk {f:S26} {l:List S61} {p:Int} (h:xC f (ckL l p)=false):l.filter (kH f)=[]:=by
 rw [List.filter_eq_nil_iff];intro e he hw;obtain⟨b1,b2,a,b⟩:=aUk l p e he;unfold kH at hw;simp only [Bool.and_eq_true,decide_eq_true_eq] at hw;have:xC f (ckL l p)=true:=by unfold xC;simp only [Bool.and_eq_true,decide_eq_true_eq];omega
 rw [h] at this;cases this
theorem aIt (l:List S61) (p:Int):ckL (l.map dE) p=ckL l p:=by
 have key:∀ (l:List S61) (c:S90),(l.map dE).foldl ckF c=l.foldl ckF c:=by
  intro l
  induction l with
  | nil=>intro c;rfl
  | cons e l ih=>intro c;exact ih (ckF c e)
 cases l with
 | nil=>rfl
 | cons e r =>
  show ((e::r).map dE).foldl ckF (ck0 ((e::r).map dE) p (dE e))=_;rw [key,show ck0 ((e::r).map dE) p (dE e)=ck0 (e::r) p e from by unfold ck0;rw [List.length_map];rfl];rfl
theorem aUx (c:S90):aKh c c=true:=by unfold aKh;simp
theorem aHm (f:S26) (l:List S61):(l.map dE).filter (kH f)=(l.filter (kH f)).map dE:=by rw [List.filter_map];rfl
section
variable {k:Int} {l:List S61} (h:Seg k l) (f:S26)
include h
theorem aWb {c:S90} {Y:List S61×Int×Int} {m:List S61} {a:Int} (d:Y.1=m.map dE) (hm:Run k a m) (h:0<=a/\a+m.length<=1099511627776) (hl:m.length<=64) (hc:c.f2=a) (out:List S61) (i:out.length<=1024) :
  loop (λs:List S61×Int=>cX f c Y s.1 s.2) (out,0)=some (.inl (out++(m.map dE).filter (kH f))):=by
 have hb:∀ j,((m.map dE).take j |>.filter (kH f)).length<=64:=λj=>by have:=List.length_filter_le (kH f) ((m.map dE).take j);simp at this ⊢;omega
 have hk:=jJ (b:=λs:List S61×Int=>cX f c Y s.1 s.2) (λj=>(out++((m.map dE).take j).filter (kH f),(j:Int))) (t:=.inl (out++(m.map dE).filter (kH f))) m.length (λj e=>by
  have hx:(m.map dE)[j]?=some (dE m[j]):=by rw [List.getElem?_map,List.getElem?_eq_getElem e];rfl
  have g:=hm.of j _ (List.getElem?_eq_getElem e);have l:=hb j;show cX f c Y (out++((m.map dE).take j).filter (kH f)) (j:Int)=_;unfold cX;rw [d,if_pos (by simp only [decide_eq_true_eq,List.length_map];omega),bA rfl hx];simp only [bHp,lt_];rw [nD (n:=(j:Int)) (by omega) (by omega),hc,nD (n:=a+(j:Int)) (by omega) (by omega),if_neg (by simp only [bne_iff_ne,ne_eq,Decidable.not_not];exact g),aT7];simp only [bHp];rw [List.take_add_one,hx,List.filter_append];simp only [Option.toList_some];cases hw:kH f (dE m[j]) with
  | true =>
   rw [if_pos rfl,bH (by simp only [List.length_append,List.length_cons,List.length_nil];omega)];unfold fZ;rw [lt_,w64 (by omega) (by omega),List.filter_cons_of_pos hw,List.filter_nil,List.append_assoc];rfl
  | false =>
   rw [if_neg (by simp)];unfold fZ;rw [lt_,w64 (by omega) (by omega),List.filter_cons_of_neg (by rw [hw];simp),List.filter_nil,List.append_nil];rfl) (by
  show cX f c Y _ ((m.length:Nat):Int)=_;unfold cX;rw [d,if_neg (by simp),List.take_of_length_le (by simp)])
 rw [show (out,(0:Int))=(out++((m.map dE).take 0).filter (kH f),((0:Nat):Int)) by simp,hk]
theorem aWv:lG (some (aAe l k)) f=some ((l.filter (kH f)).map dE,(((fT (pcs 64 l) 0).countP (xC f):Nat):Int),0):=by
 obtain⟨n1,n2⟩:=h.num;obtain⟨c1,c2,c3,R,D⟩:=h.cks;have E:=h.k8;have hle:=h.le;have r:=λ{i x}=>h.at_ (i:=i) (x:=x);have hn:=aBd (pcs 64 l) 0;obtain⟨a,S,T,hr⟩:=h.run;have hlen:(pcs 64 l).length=(l.length+64 - 1) / 64:=aCd;unfold lG;simp only;have hk:=jJ (b:=λs:List S61×Int×Int=>dN f (aAe l k) s.1 s.2.1 s.2.2) (λi=>(((l.take (i * 64)).map dE).filter (kH f),((((fT (pcs 64 l) 0).take i).countP (xC f):Nat):Int),(i:Int)))
  (t:=.inl ((l.map dE).filter (kH f),(((fT (pcs 64 l) 0).countP (xC f):Nat):Int))) (pcs 64 l).length (λi hi=>by
   have hx:=List.getElem?_eq_getElem (l:=fT (pcs 64 l) 0) (i:=i) (by omega);obtain⟨a',U,F,j,G,u,v,H,w⟩:=r hx;have I:a=a':=by have W:=hr.of 0 _ (List.getElem?_eq_getElem (by omega));have X:=F.of 0 _ (List.getElem?_eq_getElem (by omega));omega
   subst I;have g:=aIb (q:=64) (by decide) G;have J:=h.cut _ (List.mem_of_getElem? g);have o:=(hr.drop (i * 64)).take 64;have K:l.take ((i+1) * 64)=l.take (i * 64)++(l.drop (i * 64)).take 64:=by rw [Nat.add_mul,Nat.one_mul,List.take_add]
   have L:((l.drop (i * 64)).take 64).length=min 64 (l.length - i * 64):=by simp
   have M:((fT (pcs 64 l) 0).take i).countP (xC f)<=16:=by have:=List.countP_le_length (p:=xC f) (l:=(fT (pcs 64 l) 0).take i);simp at this;omega
   have N:(((l.take (i * 64)).map dE).filter (kH f)).length<=1024:=by have:=List.length_filter_le (kH f) ((l.take (i * 64)).map dE);simp at this ⊢;omega
   have O:((fT (pcs 64 l) 0).take (i+1))=(fT (pcs 64 l) 0).take i++[(fT (pcs 64 l) 0)[i]'(by omega)]:=by rw [List.take_add_one,hx];rfl
   show dN f (aAe l k) (((l.take (i * 64)).map dE).filter (kH f)) ((((fT (pcs 64 l) 0).take i).countP (xC f):Nat):Int) (i:Int)=_;rw [K,O,List.map_append,List.filter_append,List.countP_append];generalize ((l.take (i * 64)).map dE).filter (kH f)=out at N ⊢;generalize Y:((fT (pcs 64 l) 0).take i).countP (xC f)=d at M ⊢;generalize Z:(fT (pcs 64 l) 0)[i]'(by omega)=c at j u v H w hx ⊢;unfold dN;rw [show (aAe l k).f2=fT (pcs 64 l) 0 from rfl,if_pos (by simp only [decide_eq_true_eq];omega),bA rfl hx];simp only [bHp];rw [aT3];simp only [bHp];cases hmay:xC f c with
   | false =>
    rw [if_pos (show (!false)=true from rfl)];have P:((l.drop (i * 64)).take 64).filter (kH f)=[]:=aPk (p:=(((bV ((pcs 64 l).take i)).length:Nat):Int)) (by rw [← j];exact hmay);rw [aHm,P];unfold fY;rw [lt_,w64 (by omega) (by omega)];simp [hmay]
   | true =>
    rw [if_neg (by simp)];simp only [lt_];rw [w64 (n:=((d:Nat):Int)+1) (by omega) (by omega),w64 (n:=(i:Int)+1) (by omega) (by omega)];have y:bV (pcs 64 l)=bV ((pcs 64 l).take i)++pgL ((l.drop (i * 64)).take 64)++bV ((pcs 64 l).drop (i+1)):=by
     have:=List.take_append_drop i (pcs 64 l);rw [List.drop_eq_getElem_cons (by omega)] at this;rw [List.getElem?_eq_getElem (by omega)] at g;rw [Option.some.inj g] at this
     conv=>lhs;rw [← this,aFd]
     rw [List.append_assoc];rfl
    have z:∀ e:Int,e=(((bV ((pcs 64 l).take i)).length+(pgL ((l.drop (i * 64)).take 64)).length:Nat):Int) ->
      gE f (aAe l k) out (i:Int) c (((d:Nat):Int)+1) e=some (.inl (out++(((l.drop (i * 64)).take 64).map dE).filter (kH f),((d:Nat):Int)+1,((i+1:Nat):Int))):=by
     intro e he;unfold gE;rw [show (aAe l k).f0=bV (pcs 64 l) from rfl,show (aAe l k).f1=k from rfl,aKi D (by omega),u];have A:=aU1 (l:=(l.drop (i * 64)).take 64) (by omega) (o.laid E) k (bV ((pcs 64 l).take i)) (bV ((pcs 64 l).drop (i+1)));rw [show kC 101 (zS ((l.drop (i * 64)).take 64))=pgL ((l.drop (i * 64)).take 64) from rfl, ← y,if_pos (List.all_eq_true.2 o.fm)] at A;rw [A];simp only [bHp];rw [if_pos (by rfl),if_neg (by simp only [bne_iff_ne,ne_eq,Decidable.not_not];exact he.symm),if_neg (by simp only [bne_iff_ne,ne_eq,Decidable.not_not,List.length_map];rw [L,w]),aN2 (by rw [List.length_map];exact J.ps) (by rw [List.length_map];omega),aIt, ← j];simp only [bHp,aUx];unfold eW;rw [if_neg (by simp)];unfold iL;rw [if_neg (by simp),aWb h f (m:=(l.drop (i * 64)).take 64) rfl o (by omega) (by omega) v out (by omega)];simp only [bHp];unfold jV lN fY;rw [lt_,w64 (by omega) (by omega)];rfl
    have B:((d+[c].countP (xC f):Nat):Int)=((d:Nat):Int)+1:=by rw [List.countP_cons_of_pos hmay];simp
    by_cases a0:i+1<(pcs 64 l).length
    ·have C:=List.getElem?_eq_getElem (l:=fT (pcs 64 l) 0) (i:=i+1) (by omega);obtain⟨_,_,_,_,_,Q,_⟩:=r C;rw [if_pos (by simp only [decide_eq_true_eq];omega),bA (n:=i+1) (by omega) C];simp only [bHp];rw [z _ (by rw [Q,List.take_add_one,g,Option.toList_some,aFd,List.length_append];simp [bV]),B]
    ·rw [if_neg (by simp only [decide_eq_true_eq];omega),z _ (by
      rw [show (aAe l k).f0=bV (pcs 64 l) from rfl,y,List.drop_of_length_le (l:=pcs 64 l) (i:=i+1) (by omega)];simp [bV]),B]) (by
   show dN f (aAe l k) _ _ (((pcs 64 l).length:Nat):Int)=_;unfold dN;rw [show (aAe l k).f2=fT (pcs 64 l) 0 from rfl,if_neg (by simp only [decide_eq_true_eq];omega),List.take_of_length_le (l:=l) (by omega),List.take_of_length_le (l:=fT (pcs 64 l) 0) (by omega)])
 rw [show (([]:List S61),(0:Int),(0:Int))=(((l.take (0 * 64)).map dE).filter (kH f),((((fT (pcs 64 l) 0).take 0).countP (xC f):Nat):Int),((0:Nat):Int)) by simp,hk];simp only [bHp];rw [aHm];rfl
end
section
variable (f:S26)
end
theorem aNr {k f:Int} {m:List S61} (h:Seg k m) (hr:Run k f m) (hf:0<=f/\f<=4294967296):iA (some (aAe m k))=some (f,f+m.length):=by
 obtain⟨n1,n2⟩:=h.num;have hle:=h.le;have d:=h.ps;have hn:=aBd (pcs 64 m) 0;have hlen:(pcs 64 m).length=(m.length+64 - 1) / 64:=aCd;have hx:=List.getElem?_eq_getElem (l:=fT (pcs 64 m) 0) (i:=0) (by omega);have c:=List.getElem?_eq_getElem (l:=fT (pcs 64 m) 0) (i:=(fT (pcs 64 m) 0).length - 1) (by omega);obtain⟨a,o,e,p,q,r,g,s,t⟩:=h.at_ hx;obtain⟨b,u,p1,p2,p3,v,x,j,y⟩:=h.at_ c;have w:=List.getElem?_eq_getElem (l:=m) (i:=0) d;have z:=e.of 0 _ w;have A:=p1.of 0 _ w;have B:=hr.of 0 _ w;unfold iA;simp only;rw [show (aAe m k).f2=fT (pcs 64 m) 0 from rfl,show at_ (fT (pcs 64 m) 0) 0=_ from bA (n:=0) rfl hx];simp only [bHp,lt_];rw [w64 (by omega) (by omega),bA (n:=(fT (pcs 64 m) 0).length - 1) (by omega) c];simp only [bHp];rw [nD (by omega) (by omega),g,j];have:f+(m.length:Int)=b+((min m.length (((fT (pcs 64 m) 0).length - 1) * 64+64):Nat):Int) - 1+1:=by omega
 rw [this,show a+((0 * 64:Nat):Int)=f by omega]
theorem aT8 {k f:Int} {m:List S61} (h:Run k f m) (hf:0<=f):m.filter (kH ⟨0,1099511627776,-1099511627776,1099511627776⟩)=m:=by rw [List.filter_eq_self];intro e he;have:=xJ (h.fm e he);have:=(h.gd e he).1;unfold kH;simp only [Bool.and_eq_true,decide_eq_true_eq];omega
theorem aK5 {l:List S61} {f:S26} (h:∀ e∈l,kH f e=false):l.filter (kH f)=[]:=by rw [List.filter_eq_nil_iff];intro e he;rw [h e he];simp
def sI:Nat->Nat->Nat
 | 0,c=>c
 | m+1,c=>sI m (s1 c)
theorem aQw:∀ (m b z:Nat),sI m (2 ^ m * b ^^^ z)=b ^^^ sI m z
 | 0,b,z=>by simp [sI]
 | m+1,b,z=>by show sI m (s1 (2 ^ (m+1) * b ^^^ z))=_;rw [show 2 ^ (m+1) * b=2 * (2 ^ m * b) by rw [Nat.pow_succ,Nat.mul_comm (2 ^ m) 2,Nat.mul_assoc],aV9,aQw m];rfl
theorem aWa:∀ (m n c:Nat),sI (m+n) c=sI n (sI m c)
 | 0,n,c=>by rw [Nat.zero_add];rfl
 | m+1,n,c=>by rw [Nat.add_right_comm];exact aWa m n (s1 c)
theorem aNb:∀ m,sI m 0=0
 | 0=>rfl
 | m+1=>aNb m
theorem bEr {c:Nat} (h:c<4294967296) (h0:c≠0):s1 c≠0:=by
 unfold s1;split
 ·intro e;have b:c / 2=3988292384:=by
   have a:=congrArg (· ^^^ 3988292384) e
   simp only [Nat.xor_assoc,Nat.xor_self,Nat.xor_zero,Nat.zero_xor] at a;exact a
  omega
 ·omega
theorem aZ1:∀ (m:Nat) {c:Nat},c<4294967296->c≠0->sI m c≠0
 | 0,_,_,h=>h
 | m+1,c,h,h0=>aZ1 m (aZ0 h) (bEr h h0)
def aBc:List Int->Nat
 | []=>0
 | x::r=>x.toNat+256 * aBc r
theorem aRd:∀ {xs:List Int},Bs xs->aBc xs<2 ^ (8 * xs.length)
 | [],_=>by simp [aBc]
 | x::r,h=>by obtain⟨b,a⟩:=h.cons;have ih:=aRd a;rw [List.length_cons,show 8 * (r.length+1)=8+8 * r.length by omega,Nat.pow_add,show (2:Nat) ^ 8=256 from rfl];show x.toNat+256 * aBc r<_;omega
theorem aNz:∀ (a b:List Int),aBc (a++b)=aBc a+2 ^ (8 * a.length) * aBc b
 | [],b=>by simp [aBc]
 | x::a,b=>by show x.toNat+256 * aBc (a++b)=x.toNat+256 * aBc a+_;rw [aNz a b,List.length_cons,show 8 * (a.length+1)=8+8 * a.length by omega,Nat.pow_add,show (2:Nat) ^ 8=256 from rfl,Nat.mul_add,Nat.mul_assoc,Nat.add_assoc]
theorem aB3 {xs:List Int} (h:Bs xs) {o:Nat} (b:o<=xs.length):aBc (xs.drop o)=aBc xs / 2 ^ (8 * o)/\aBc (xs.take o)=aBc xs % 2 ^ (8 * o):=by
 have e:=aNz (xs.take o) (xs.drop o);have hl:(xs.take o).length=o:=by simp;omega
 have a:=aRd (h.take o);rw [List.take_append_drop,hl] at e;rw [hl] at a;rw [e];exact⟨by rw [Nat.add_mul_div_left _ _ (Nat.two_pow_pos _),Nat.div_eq_of_lt a,Nat.zero_add],by rw [Nat.add_mul_mod_self_left,Nat.mod_eq_of_lt a]⟩
def Burst (D:Nat):Prop:=∃ k w:Nat,D=2 ^ k * w/\w<4294967296
theorem Burst.div {D:Nat} (h:Burst D) (j:Nat):Burst (D / 2 ^ j):=by
 obtain⟨k,w,rfl,hw⟩:=h;rcases Nat.le_total j k with a | a
 ·refine⟨k - j,w,?_,hw⟩;rw [show k=j+(k - j) by omega,Nat.pow_add,Nat.mul_assoc,Nat.mul_div_cancel_left _ (Nat.two_pow_pos j),Nat.add_sub_cancel_left]
 ·refine⟨0,w / 2 ^ (j - k),?_,Nat.lt_of_le_of_lt (Nat.div_le_self _ _) hw⟩;rw [show j=k+(j - k) by omega,Nat.pow_add,Nat.mul_div_mul_left _ _ (Nat.two_pow_pos k),Nat.add_sub_cancel_left,Nat.pow_zero,Nat.one_mul]
theorem Burst.mod {D:Nat} (h:Burst D) (j:Nat):Burst (D % 2 ^ j):=by
 obtain⟨k,w,rfl,hw⟩:=h;rcases Nat.le_total k j with a | a
 ·refine⟨k,w % 2 ^ (j - k),?_,Nat.lt_of_le_of_lt (Nat.mod_le _ _) hw⟩;rw [show j=k+(j - k) by omega,Nat.pow_add,Nat.mul_mod_mul_left,Nat.add_sub_cancel_left]
 ·refine⟨0,0,?_,by decide⟩;rw [show k=j+(k - j) by omega,Nat.pow_add,Nat.mul_assoc,Nat.mul_mod_right]
theorem Burst.ne {D:Nat} (h:Burst D) (h0:D≠0) (m:Nat):sI m D≠0:=by
 obtain⟨k,w,rfl,hw⟩:=h;have a:w≠0:=λe=>h0 (by rw [e,Nat.mul_zero]);rcases Nat.le_total k m with hk | hk
 ·have:=aQw k w 0;rw [Nat.xor_zero,aNb,Nat.xor_zero] at this;rw [show m=k+(m - k) by omega,aWa,this];exact aZ1 _ hw a
 ·have:=aQw m (2 ^ (k - m) * w) 0;rw [Nat.xor_zero,aNb,Nat.xor_zero, ← Nat.mul_assoc, ← Nat.pow_add,show m+(k - m)=k by omega] at this;rw [this];have:=Nat.two_pow_pos (k - m);exact Nat.mul_ne_zero (by omega) a
theorem Burst.part {A B:List Int} (hA:Bs A) (hB:Bs B) (hl:A.length=B.length) (h:Burst (aBc A ^^^ aBc B)) (o n:Nat) (b:o+n<=A.length):Burst (aBc ((A.drop o).take n) ^^^ aBc ((B.drop o).take n)):=by have a:=(aB3 hA (o:=o) (by omega)).1;have b1:=(aB3 hB (o:=o) (by omega)).1;have a2:=(aB3 (hA.drop o) (o:=n) (by simp;omega)).2;have b2:=(aB3 (hB.drop o) (o:=n) (by simp;omega)).2;rw [a2,b2,a,b1, ← Nat.xor_mod_two_pow, ← Nat.xor_div_two_pow];exact (h.div _).mod _
section
variable {p:List Int} {k a2:Nat}
end
section
variable {k:Int} {l:List S61} (h:Seg k l)
include h
end
section
variable {k:Int} {l:List S61} (h:Seg k l)
include h
end
theorem bAj {kind:Int} {b:List Int} (hk:0<=kind/\kind<256) (hB:Bs b) (hb:b.length<=1048576):aDb (kC kind b) kind=some (b,0):=by
  have d:tE (kC kind b) 0=some (kind,b,((kC kind b).length:Int),0):=by have e:=zF (b:=kC kind b) (a:=0) (aDa hk hB) (by rw [tD];omega);have c:=aCc (p:=[]) (q:=[]) (kind:=kind) hb;rw [List.nil_append,List.append_nil] at c;rw [e];congr 1;refine c.trans ?_;simp
  unfold aDb;rw [d];simp only [bHp];rw [if_pos (by simp),if_neg (by simp)];unfold uZ;rw [if_neg (by simp)];unfold xX;rw [if_neg (by simp)]
theorem IsR.of {ρ:Type} {o:Option ((ρ×S140)⊕S140)} {a:ρ} {r:List Int} (h:IsR o (some (a,r))):o=some (.inl (a,⟨r⟩)):=by
  rcases h.cases with ⟨a',r',e,b⟩ | ⟨e,_⟩
  · cases e;exact b
  · cases e
section
end
theorem aRt {f:List UInt8} (h:tY f=true):f.length<=32:=by unfold tY at h;simp only [Bool.and_eq_true,decide_eq_true_eq] at h;exact h.2
def Kp (s s':S77):Prop:=s'.f1=s.f1/\(s.f2=0->s.f3=false->s'.f2=0/\s'.f3=false)
theorem Kp.refl (s:S77):Kp s s:=⟨rfl,λa b=>⟨a,b⟩⟩
theorem Kp.trans {a b c:S77} (h:Kp a b) (d:Kp b c):Kp a c:=⟨d.1.trans h.1,λx y=>d.2 (h.2 x y).1 (h.2 x y).2⟩
theorem Kp.off {s s':S77} (h:Kp s s') (a:s.f2=0) (b:s.f3=false) (c:s'.f3=true):False:=by have:=(h.2 a b).2;rw [c] at this;cases this
theorem aNd (s:S77) (l:List S98):Kp s { step s with f0:=l }:=by refine⟨rfl,λa b=>?_⟩;unfold step;rw [a,b];exact⟨rfl,rfl⟩
theorem aD9 {s:S77} {n:List UInt8} (hn:tY n=true) (h:s.f3=false):uX s n=0:=by unfold uX;rw [if_pos hn,h];rfl
theorem aU5 {kk:Nat} {s:S77} (h:SI kk s) {n:List UInt8} {x:S98} (hx:get s.f0 n=some x):tY n=true:=by obtain⟨a,rfl⟩:=zD hx;exact h.form x a
theorem aIs {kk:Nat} {s:S77} (h:SI kk s) (a:s.f3=false) {n:List UInt8} {x:S98} (hx:get s.f0 n=some x) (f:S98->List S98) :
    Kp s (aC4 s n f).2/\(((aC4 s n f).1=0/\(aC4 s n f).2.f3=false/\(aC4 s n f).2.f0=f x)\/((aC4 s n f).1=9/\(aC4 s n f).2.f3=true/\(aC4 s n f).2.f0=s.f0)):=by
  unfold aC4;rw [if_pos (aD9 (aU5 h hx) a),hx];dsimp only;split
  · rename_i c
    exact⟨aNd s s.f0,.inr ⟨rfl,c,rfl⟩⟩
  · rename_i c
    exact⟨aNd s (f x),.inl ⟨rfl,by simpa using c,rfl⟩⟩
theorem aUc {kk:Nat} {s:S77} (h:SI kk s) (a:s.f3=false) {n:List UInt8} (hn:tY n=true) (p:List Int) :
    Kp s (rU s n p).2/\(((rU s n p).1=10/\(rU s n p).2=s/\(s.f1 - used s.f0<p.length\/500<=s.f0.length)) \/
      (((rU s n p).1=0/\(rU s n p).2.f3=false\/(rU s n p).1=9/\(rU s n p).2.f3=true)/\(rU s n p).2.f0=put s.f0 ⟨n,((get s.f0 n).getD ⟨n,[],0⟩).f1++p,((get s.f0 n).getD ⟨n,[],0⟩).f2⟩)):=by
  unfold rU;rw [if_pos (aD9 hn a)];split
  · rename_i c
    exact⟨Kp.refl s,.inl ⟨rfl,rfl,c.elim .inl λc=>.inr c.2⟩⟩
  · refine⟨aNd s _,.inr ⟨?_,rfl⟩⟩
    dsimp only;split
    · rename_i c
      exact .inr ⟨rfl,c⟩
    · rename_i c
      exact .inl ⟨rfl,by simpa using c⟩
theorem aC8:∀ {l:List S98},lA l->(l.map S98.f0).Nodup
  | [],_=>List.nodup_nil
  | x::l,h=>by obtain⟨a,b⟩:=List.pairwise_cons.1 h;refine List.nodup_cons.2 ⟨λhm=>?_,aC8 b⟩;obtain⟨y,c,e⟩:=List.mem_map.1 hm;have:=a y c;rw [e,zR] at this;cases this
theorem aMv:∀ {l:List S98},lA l->∀ {x:S98},x∈l->get l x.f0=some x
  | [],_,x,hx=>by cases hx
  | y::l,h,x,hx=>by
    obtain⟨a,b⟩:=List.pairwise_cons.1 h;rcases List.mem_cons.1 hx with rfl | hx
    · simp [get]
    · have c:(y.f0==x.f0)=false:=by rw [beq_eq_false_iff_ne];intro e;have:=a x hx;rw [e,zR] at this;cases this
      have:=aMv b hx;unfold get at this ⊢;rw [List.find?_cons_of_neg (by simp [c])];exact this
def aI7 (f:List UInt8) (p:List Int):S98:=⟨f,p,p.length⟩
theorem aMo (f:List UInt8):∀ (l:List S98) (g:Nat->S98->S98),(∀ i x,(g i x).f0=x.f0)->(get l f=none->get (l.mapIdx g) f=none)/\∀ x,get l f=some x->∃ i,get (l.mapIdx g) f=some (g i x)
  | [],g,hg=>⟨λ_=>rfl,λx hx=>by cases hx⟩
  | y::l,g,hg=>by
    obtain⟨a,b⟩:=aMo f l (λi=>g (i+1)) λi x=>hg (i+1) x;have e:(y::l).mapIdx g=g 0 y::l.mapIdx (λi=>g (i+1)):=List.mapIdx_cons;rw [e];unfold get at a b ⊢;by_cases c:(y.f0==f)=true
    · rw [List.find?_cons_of_pos (p:=λx:S98=>x.f0==f) c,List.find?_cons_of_pos (p:=λx:S98=>x.f0==f) (by rw [hg];exact c)]
      exact⟨λh=>(by cases h),λx hx=>⟨0,by cases hx;rfl⟩⟩
    · rw [List.find?_cons_of_neg (p:=λx:S98=>x.f0==f) c,List.find?_cons_of_neg (p:=λx:S98=>x.f0==f) (by rw [hg];exact c)]
      exact⟨a,λx hx=>by
        obtain⟨i,hi⟩:=b x hx;exact⟨i+1,hi⟩⟩
theorem aKz {l:List S98} {f:List UInt8} (keep:List Int) (h:get l f=none):get (rR keep l) f=none:=(aMo f l _ λi x=>aDy x _).1 h
theorem aKy {l:List S98} {f:List UInt8} {p:List Int} (keep:List Int) (h:get l f=some (aI7 f p)):get (rR keep l) f=some (aI7 f p):=by obtain⟨i,hi⟩:=(aMo f l (λi x=>aE6 x (keep.getD i 0)) λi x=>aDy x _).2 _ h;refine hi.trans ?_;congr 1;unfold aE6 aI7;rw [if_neg (by dsimp only;omega)]
section
def aPz:Nat->Nat
  | 0=>600
  | r+1=>aPz r+600
end
def aE7 (n:Nat):List UInt8:=if n<10 then [UInt8.ofNat (48+n)] else if n<100 then [UInt8.ofNat (48+n / 10),UInt8.ofNat (48+n % 10)] else [UInt8.ofNat (48+n / 10 / 10),UInt8.ofNat (48+n / 10 % 10),UInt8.ofNat (48+n % 10)]
theorem aIx {u:Nat} (h:u<10):Lib.decDigits u=[UInt8.ofNat (48+u)]:=by rw [Lib.decDigits,dif_pos h]
theorem aUo {u:Nat} (h:¬ u<10):Lib.decDigits u=Lib.decDigits (u / 10)++[UInt8.ofNat (48+u % 10)]:=by rw [Lib.decDigits,dif_neg h]
theorem aVc {n:Nat} (h:n<1000):Lib.itoa (n:Int)=aE7 n:=by
  unfold Lib.itoa aE7;rw [if_neg (by omega),show ((n:Int)).toNat=n from rfl];by_cases a:n<10
  · rw [if_pos a,aIx a]
  · rw [if_neg a,aUo a]
    by_cases b:n<100
    · rw [if_pos b,aIx (by omega)];rfl
    · rw [if_neg b,aUo (by omega),aIx (by omega)];rfl
theorem aF1 (n:Nat):(aE7 n).length<=3:=by unfold aE7;split <;> (try split) <;> simp
def bHg (l:List UInt8):Nat:=l.foldl (λa c=>10 * a+(c.toNat - 48)) 0
def preS:List UInt8:=[115,101,103,46]
def wL:List UInt8:=[99,97,116]
def rS:List UInt8:=[99,97,116,46,116,109,112]
def qU (a b:Nat):List UInt8:=((preS++aE7 a)++[46])++aE7 b
def yI (f:List UInt8):Bool:=decide (4<=f.length)&&(f.take 4==preS)
theorem aC1 {n:Nat} (h:n<1000):kR (n:Int) 10=some (aE7 n):=by unfold kR tN;rw [bH ⟨by omega,by omega,rfl⟩,aVc h];rfl
theorem aR0 {a b:Nat} (c:a<1000) (hb:b<1000):sQ (a:Int) (b:Int)=some (qU a b):=by have d:=aF1 a;have e:=aF1 b;unfold sQ;rw [aC1 c];simp only [bHp];rw [bH (by simp only [List.length_cons,List.length_nil,maxLen];omega),bH (by simp only [List.length_append,List.length_cons,List.length_nil,maxLen];omega),aC1 hb];simp only [bHp];rw [bH (by simp only [List.length_append,List.length_cons,List.length_nil,maxLen];omega)];rfl
theorem aPc (a b:Nat):(qU a b).length<=11:=by have c:=aF1 a;have d:=aF1 b;simp only [qU,preS,List.length_append,List.length_cons,List.length_nil];omega
theorem aRh:∀ n<1000,(aE7 n).all (λc=>decide (48<=c.toNat)&&decide (c.toNat<=57))=true:=by decide +kernel
theorem aF2:∀ n<1000,bHg (aE7 n)=n:=by decide +kernel
theorem aN9 {n:Nat} (h:n<1000):∀ c∈aE7 n,c≠46:=by intro c hc e;have:=List.all_eq_true.1 (aRh n h) c hc;subst e;revert this;decide
theorem aLr:∀ {x y p q:List UInt8},(∀ c∈x,c≠46)->(∀ c∈y,c≠46)->x++46::p=y++46::q->x=y/\p=q
  | [],[],p,q,_,_,h=>by injection h with _ h;exact⟨rfl,h⟩
  | [],c::y,p,q,_,hy,h=>by injection h with h _;exact absurd h.symm (hy c (List.mem_cons_self ..))
  | c::x,[],p,q,hx,_,h=>by injection h with h _;exact absurd h (hx c (List.mem_cons_self ..))
  | c::x,d::y,p,q,hx,hy,h=>by injection h with h1 h2;obtain⟨a,b⟩:=aLr (λc hc=>hx c (List.mem_cons_of_mem _ hc)) (λc hc=>hy c (List.mem_cons_of_mem _ hc)) h2;exact⟨by rw [h1,a],b⟩
theorem aPb {a b c d:Nat} (e:a<1000) (hb:b<1000) (hc:c<1000) (hd:d<1000) (h:qU a b=qU c d):a=c/\b=d:=by
  have f:aE7 a++46::aE7 b=aE7 c++46::aE7 d:=by have:=congrArg (List.drop 4) h;simpa [qU,preS] using this
  obtain⟨g,i⟩:=aLr (aN9 e) (aN9 hc) f;have:=aF2 a e;have:=aF2 b hb;rw [g,aF2 c hc] at *;rw [i,aF2 d hd] at *;omega
theorem aG9 {a b:Nat} (e:a<1000) (hb:b<1000):tY (qU a b)=true:=by
  have hl:=aPc a b;have d:∀ n<1000,(aE7 n).all okc=true:=λn hn=>by refine List.all_eq_true.2 λc hc=>?_;have:=List.all_eq_true.1 (aRh n hn) c hc;unfold okc;rw [this];simp
  unfold tY;rw [decide_eq_true (show (qU a b).length<=32 by omega),decide_eq_true (show 1<=(qU a b).length by simp [qU,preS])];simp only [qU,List.all_append,d a e,d b hb,Bool.and_true];decide
theorem aIq:tY wL=true:=by decide
theorem aKt:tY rS=true:=by decide
theorem aD5 (a b:Nat):yI (qU a b)=true:=by simp [yI,qU,preS]
theorem aTb:yI wL=false:=by decide
theorem aTo (f:List UInt8) (hf:f.length<4611686018427387904):oL f preS=some (yI f):=by
  unfold oL mZ yI;rw [show ((preS.length:Nat):Int)=4 from rfl];by_cases h:4<=f.length
  · rw [if_pos (by simp only [decide_eq_true_eq];omega),show (4:Int)=((4:Nat):Int) from rfl,show (0:Int)=((0:Nat):Int) from rfl,nY (by omega) h]
    simp [h]
  · rw [if_neg (by simp only [decide_eq_true_eq];omega)]
    simp [h]
def aCl (l:List S46):Int:=match l.getLast? with | none=>0 | some x=>x.f2
theorem aY4 (c:S79) (h:c.f2.length<4611686018427387904):dL c=some (aCl c.f2,c):=by
  unfold dL aCl;rcases hc:c.f2 with _ | ⟨x,l⟩
  · rfl
  · have a:0<c.f2.length:=by rw [hc];simp
    rw [← hc,if_neg (by simp only [beq_iff_eq];omega),lt_,w64 (by omega) (by omega)];have hi:c.f2.length - 1<c.f2.length:=by omega
    have hx:c.f2[c.f2.length - 1]?=some c.f2[c.f2.length - 1]:=List.getElem?_eq_getElem hi;rw [show (c.f2.length:Int) - 1=((c.f2.length - 1:Nat):Int) by omega,bA rfl hx,List.getLast?_eq_getElem?,hx];rfl
theorem aPo (c:S79) (h:c.f2.length<=1000000):cP c=some (c.f2,c):=by
  unfold cP bJ;rw [bH (by simp only [List.length_nil];omega)];unfold uC;cases hc:c.f2 with
  | nil=>simp
  | cons x l=>rfl
theorem aOo (l:List S46) (n:List UInt8) (hl:l.length<4611686018427387904):∀ (m i:Nat),i+m=l.length ->
    ∃ j:Int,((loop (λs:List UInt8×Int=>aN l s.1 s.2) (n,(i:Int))).bind λt=>match t with | (.inl t)=>cD t | (.inr t)=>some t)=some (j,n)/\decide (0<=j)=(l.drop i).any (λe=>e.f0==n)
  | 0,i,hi=>by
    rw [bE (b:=λs:List UInt8×Int=>aN l s.1 s.2) (t:=.inl n) (by
      show aN l n (i:Int)=_;unfold aN;rw [if_neg (by simp only [decide_eq_true_eq];omega)]),List.drop_of_length_le (by omega)]
    exact⟨-1,rfl,rfl⟩
  | m+1,i,hi=>by
    have hx:=List.getElem?_eq_getElem (l:=l) (i:=i) (by omega);have hr:aN l n (i:Int)=if (l[i].f0==n)=true then some (.inr (.inr ((i:Int),n))) else some (.inl (n,((i+1:Nat):Int))):=by
      unfold aN lI;rw [if_pos (by simp only [decide_eq_true_eq];omega),bA rfl hx];simp only [bHp];split
      · rfl
      · rw [lt_,w64 (by omega) (by omega)];rfl
    rw [List.drop_eq_getElem_cons (by omega),List.any_cons];by_cases c:(l[i].f0==n)=true
    · rw [if_pos c] at hr
      rw [bE (b:=λs:List UInt8×Int=>aN l s.1 s.2) hr,c];exact⟨(i:Int),rfl,by simp⟩
    · rw [if_neg c] at hr
      rw [bZ (b:=λs:List UInt8×Int=>aN l s.1 s.2) hr,show (l[i].f0==n)=false by simpa using c,Bool.false_or];exact aOo l n hl m (i+1) (by omega)
theorem aNm (l:List S46) (n:List UInt8) (hl:l.length<4611686018427387904):bT l n=some (l.any (λe=>e.f0==n),n):=by obtain⟨j,a,b⟩:=aOo l n hl l.length 0 (by omega);have c:cZ l n=some (j,n):=a;unfold bT;rw [c];simp only [bHp];rw [b,List.drop_zero]
def tZ (l:List S46) (f:List UInt8):Bool:=(f==rS)||(yI f && !(l.any λe=>e.f0==f))
def swg (go:List UInt8->Bool):List (List UInt8)->S77->Int×S77
  | [],s=>(0,s)
  | f::r,s=>if go f=true then (if (vF s f).1=0 then swg go r (vF s f).2 else vF s f) else swg go r s
def wc (c:S79) (p:Int×S77):Int×S79×S77:=(p.1,c,p.2)
theorem aTp {kk:Nat} {s:S77} (h:SI kk s) (hk:kk<4611686018427387904) (c:S79) (hc:c.f2.length<=1000000) {L:List (List UInt8)} {i:Nat} {f:List UInt8} (hf:L[i]?=some f) (hl:f.length<=32) (hL:L.length<=500) :
    bO c L s.f0 s.f1 s.f2 s.f3 s.f4 (i:Int)=if tZ c.f2 f=true then (if (vF s f).1=0 then some (.inl ((vF s f).2.f0,(vF s f).2.f1,(vF s f).2.f2,(vF s f).2.f3,(vF s f).2.f4,((i+1:Nat):Int))) else some (.inr (.inr (wc c (vF s f))))) else some (.inl (s.f0,s.f1,s.f2,s.f3,s.f4,((i+1:Nat):Int))):=by
  have hi:=(List.getElem?_eq_some_iff.1 hf).1;have j:∀ (l:List S98) (a b:Int) (c:Bool) (d:Int),fN (i:Int) l a b c d=some (.inl (l,a,b,c,d,((i+1:Nat):Int))):=by intro l a b c d;unfold fN;rw [lt_,w64 (by omega) (by omega)];rfl
  have k:∀ (b g:Bool),eB c s.f0 s.f1 s.f2 s.f3 s.f4 (i:Int) (b,f) g=if g=true then (if (vF s f).1=0 then some (.inl ((vF s f).2.f0,(vF s f).2.f1,(vF s f).2.f2,(vF s f).2.f3,(vF s f).2.f4,((i+1:Nat):Int))) else some (.inr (.inr (wc c (vF s f))))) else some (.inl (s.f0,s.f1,s.f2,s.f3,s.f4,((i+1:Nat):Int))):=by
    intro b g;unfold eB;cases g with
    | false=>rw [if_neg (by simp),if_neg (by simp),j]
    | true =>
      rw [if_pos rfl,if_pos rfl,show (⟨s.f0,s.f1,s.f2,s.f3,s.f4⟩:S77)=s from rfl,show ((b,f):Bool×List UInt8).2=f from rfl,h.Delete hk (by omega)];simp only [bHp];by_cases c1:(vF s f).1=0
      · rw [if_neg (by simp [c1]),if_pos c1,j]
      · rw [if_pos (by simpa using c1),if_neg c1]
        rfl
  unfold bO;rw [if_pos (by simp only [decide_eq_true_eq];omega),bA rfl hf];simp only [bHp];rw [aNm _ _ (by omega)];simp only [bHp];rw [show ([99,97,116,46,116,109,112]:List UInt8)=rS from rfl,show ([115,101,103,46]:List UInt8)=preS from rfl,aTo f (by omega)];simp only [bHp,k];unfold tZ;cases (f==rS) <;> cases yI f <;> cases (c.f2.any λe=>e.f0==f) <;> rfl
theorem aJ2 (c:S79) (hc:c.f2.length<=1000000) {L:List (List UInt8)} (hL:L.length<=500) (h32:∀ f∈L,f.length<=32):∀ (m i kk:Nat) (s:S77),i+m=L.length->SI kk s->kk+m<4611686018427387904 ->
    ((loop (λq:List S98×Int×Int×Bool×Int×Int=>bO c L q.1 q.2.1 q.2.2.1 q.2.2.2.1 q.2.2.2.2.1 q.2.2.2.2.2) (s.f0,s.f1,s.f2,s.f3,s.f4,(i:Int))).bind λt=>match t with | (.inl t)=>jA c t.1 t.2.1 t.2.2.1 t.2.2.2.1 t.2.2.2.2 | (.inr t)=>some t)=some (wc c (swg (tZ c.f2) (L.drop i) s))
  | 0,i,kk,s,hi,h,hk=>by
    rw [bE (b:=λq:List S98×Int×Int×Bool×Int×Int=>bO c L q.1 q.2.1 q.2.2.1 q.2.2.2.1 q.2.2.2.2.1 q.2.2.2.2.2) (t:=.inl (s.f0,s.f1,s.f2,s.f3,s.f4)) (by
      show bO c L s.f0 s.f1 s.f2 s.f3 s.f4 (i:Int)=_;unfold bO;rw [if_neg (by simp only [decide_eq_true_eq];omega)]),List.drop_of_length_le (by omega)]
    rfl
  | m+1,i,kk,s,hi,h,hk=>by
    have hx:=List.getElem?_eq_getElem (l:=L) (i:=i) (by omega);have hr:=aTp h (by omega) c hc hx (h32 _ (List.getElem_mem (by omega))) hL;rw [List.drop_eq_getElem_cons (by omega)];unfold swg;by_cases c1:tZ c.f2 L[i]=true
    · rw [if_pos c1] at hr ⊢
      by_cases c2:(vF s L[i]).1=0
      · rw [if_pos c2] at hr ⊢
        rw [bZ (b:=λq:List S98×Int×Int×Bool×Int×Int=>bO c L q.1 q.2.1 q.2.2.1 q.2.2.2.1 q.2.2.2.2.1 q.2.2.2.2.2) hr];exact aJ2 c hc hL h32 m (i+1) (kk+1) _ (by omega) (h.del (n:=L[i])) (by omega)
      · rw [if_neg c2] at hr ⊢
        rw [bE (b:=λq:List S98×Int×Int×Bool×Int×Int=>bO c L q.1 q.2.1 q.2.2.1 q.2.2.2.1 q.2.2.2.2.1 q.2.2.2.2.2) hr];rfl
    · rw [if_neg c1] at hr ⊢
      rw [bZ (b:=λq:List S98×Int×Int×Bool×Int×Int=>bO c L q.1 q.2.1 q.2.2.1 q.2.2.2.1 q.2.2.2.2.1 q.2.2.2.2.2) hr];exact aJ2 c hc hL h32 m (i+1) kk _ (by omega) h (by omega)
theorem aJ4 (go:List UInt8->Bool):∀ (L:List (List UInt8)) (s:S77) (kk:Nat),SI kk s->s.f3=false->L.Nodup->(∀ f∈L,∃ x,get s.f0 f=some x) ->
    SI (kk+L.length) (swg go L s).2/\Kp s (swg go L s).2/\(∀ f,go f=false->get (swg go L s).2.f0 f=get s.f0 f)/\(∀ f x,get (swg go L s).2.f0 f=some x->get s.f0 f=some x) /\
      (used (swg go L s).2.f0<=used s.f0/\(swg go L s).2.f0.length<=s.f0.length) /\
      (((swg go L s).1=0/\(swg go L s).2.f3=false/\∀ f∈L,go f=true->get (swg go L s).2.f0 f=none)\/((swg go L s).1=9/\(swg go L s).2.f3=true))
  | [],s,kk,h,hon,hnd,hL=>⟨h,Kp.refl s,λ_ _=>rfl,λ_ _ q=>q,⟨Nat.le_refl _,Nat.le_refl _⟩,.inl ⟨rfl,hon,λf hf=>by cases hf⟩⟩
  | f::L,s,kk,h,hon,hnd,hL=>by
    obtain⟨hf,p⟩:=List.nodup_cons.1 hnd;unfold swg;by_cases c:go f=true
    · rw [if_pos c]
      obtain⟨x,hx⟩:=hL f List.mem_cons_self;have r:=h.del (n:=f);obtain⟨kp,hd⟩:=aIs h hon hx λx=>del s.f0 f;have C:=aJ7 h.rise f;have D:=aMu h.rise f;rcases hd with ⟨e0,u,k⟩ | ⟨v,w,k⟩
      · have z:(vF s f).1=0:=e0
        have i:(vF s f).2.f0=del s.f0 f:=k;rw [if_pos z];have A:∀ g∈L,∃ x,get (vF s f).2.f0 g=some x:=λg hg=>by obtain⟨y,j⟩:=hL g (List.mem_cons_of_mem _ hg);refine⟨y,?_⟩;rw [i,aD2 h.rise,if_neg (λe=>hf (by rw [e];exact hg))];exact j
        obtain⟨l,m,i3,i4,⟨i5,B⟩,o⟩:=aJ4 go L (vF s f).2 (kk+1) r u p A;refine⟨by rw [List.length_cons,show kk+(L.length+1)=kk+1+L.length by omega];exact l,Kp.trans kp m,λg hg=>?_,λg y j=>?_,⟨?_,?_⟩,?_⟩
        · rw [i3 g hg,i,aD2 h.rise,if_neg (λe=>by subst e;rw [c] at hg;cases hg)]
        · have:=i4 g y j
          rw [i,aD2 h.rise] at this;split at this
          · cases this
          · exact this
        · rw [i] at i5;omega
        · rw [i] at B;omega
        · rcases o with ⟨a,b,d⟩ | q
          · refine .inl ⟨a,b,λg hg cg=>?_⟩
            rcases List.mem_cons.1 hg with rfl | hg
            · cases hq:get (swg go L (vF s g).2).2.f0 g with
              | none=>rfl
              | some y =>
                have:=i4 g y hq;rw [i,aD2 h.rise,if_pos rfl] at this;cases this
            · exact d g hg cg
          · exact .inr q
      · have t:(vF s f).1=9:=v
        have i:(vF s f).2.f0=s.f0:=k;rw [if_neg (by rw [t];decide)];exact⟨r.mono (by rw [List.length_cons];omega),kp,λg _=>by rw [i],λg y j=>by rw [i] at j;exact j,⟨by rw [i];exact Nat.le_refl _,by rw [i];exact Nat.le_refl _⟩,.inr ⟨t,w⟩⟩
    · rw [if_neg c]
      obtain⟨l,m,i3,i4,i5,o⟩:=aJ4 go L s kk h hon p λg hg=>hL g (List.mem_cons_of_mem _ hg);refine⟨l.mono (by rw [List.length_cons];omega),m,i3,i4,i5,?_⟩;rcases o with ⟨a,b,d⟩ | q
      · refine .inl ⟨a,b,λg hg cg=>?_⟩
        rcases List.mem_cons.1 hg with rfl | hg
        · exact absurd cg c
        · exact d g hg cg
      · exact .inr q
theorem aTq {kk:Nat} {s:S77} (h:SI kk s) (hk:kk+500<4611686018427387904) (c:S79) (hc:c.f2.length<=1000000):dA c s=some (wc c (swg (tZ c.f2) (s.f0.map S98.f0) s)):=by
  have hl:=h.len;unfold dA;rw [h.Names];simp only [bHp];have:=aJ2 c hc (L:=s.f0.map S98.f0) (by simpa using hl) (λf hf=>by
    obtain⟨x,hx,rfl⟩:=List.mem_map.1 hf;exact aRt (h.form x hx)) s.f0.length 0 kk s (by simp) h (by omega)
  rw [List.drop_zero] at this;exact this
def aH0 (e:S46):List Int:=uv e.f1.toNat++(uv e.f2.toNat++(uv (zz e.f3)++uv (zz e.f4)))
def aAs:List S46->List Int
  | []=>[]
  | e::l=>aH0 e++aAs l
def aFy (pt:Int) (l:List S46):List Int:=uv pt.toNat++(uv l.length++aAs l)
structure EOk (a:Nat) (e:S46):Prop where
  fr:e.f1=a
  lt:e.f1<e.f2
  le:e.f2<1000
  nm:e.f0=qU e.f1.toNat e.f2.toNat
  lo : -1099511627776<=e.f3
  hi:e.f4<=1099511627776
  lh:e.f3<=e.f4
inductive Chain:Nat->List S46->Prop
  | nil (a:Nat):Chain a []
  | cons {a:Nat} {e:S46} {l:List S46} (h:EOk a e) (hl:Chain e.f2.toNat l):Chain a (e::l)
theorem aRn (e:S46):Bs (aH0 e):=(Bs.uv _).app ((Bs.uv _).app ((Bs.uv _).app (Bs.uv _)))
theorem aIz:∀ l:List S46,Bs (aAs l)
  | []=>Bs.nil
  | e::l=>(aRn e).app (aIz l)
theorem aL8 (pt:Int) (l:List S46):Bs (aFy pt l):=(Bs.uv _).app ((Bs.uv _).app (aIz l))
theorem EOk.i64 {a:Nat} {e:S46} (h:EOk a e):P.i64 e.f3/\P.i64 e.f4:=by have:=h.lo;have:=h.hi;have:=h.lh;unfold P.i64;omega
theorem EOk.len {a:Nat} {e:S46} (h:EOk a e):(aH0 e).length<=40:=by have b:=aP (n:=e.f1.toNat) (by have:=h.le;have:=h.lt;omega);have c:=aP (n:=e.f2.toNat) (by have:=h.le;omega);have d:=aP (yD h.i64.1);have f:=aP (yD h.i64.2);simp only [aH0,List.length_append];omega
theorem Chain.len:∀ {a:Nat} {l:List S46},Chain a l->(aAs l).length<=40 * l.length
  | _,_,.nil _=>Nat.le_refl _
  | _,_,.cons h hl=>by have:=h.len;have:=Chain.len hl;simp only [aAs,List.length_append,List.length_cons];omega
theorem Chain.few:∀ {a:Nat} {l:List S46},Chain a l->a<1000->a+l.length<1000
  | _,_,.nil _,h=>by simpa using h
  | _,_,.cons h hl,_=>by have:=h.fr;have:=h.lt;have:=h.le;have:=Chain.few hl (by omega);simp only [List.length_cons];omega
theorem Chain.app:∀ {a:Nat} {l:List S46} {e:S46},Chain a l->EOk (match l.getLast? with | none=>a | some x=>x.f2.toNat) e->Chain a (l++[e])
  | a,[],e,_,h=>.cons h (.nil _)
  | a,x::l,e,.cons hx hl,h=>by
    refine .cons hx (Chain.app hl ?_);cases l with
    | nil=>exact h
    | cons y l =>
      rw [List.getLast?_cons_cons] at h;cases hq:(y::l).getLast? with
      | none=>simp at hq
      | some z=>rw [hq] at h;exact h
theorem aO2 (es:List S46):∀ (m i a:Nat) (b:List Int),i+m=es.length->Chain a (es.drop i)->b.length+40 * m<=1000000->es.length<=1000 ->
    loop (λs:List Int×Int=>cB es s.1 s.2) (b,(i:Int))=some (b++aAs (es.drop i))
  | 0,i,a,b,hi,hc,hb,hl=>by refine bE ?_;show cB es b (i:Int)=_;unfold cB;rw [if_neg (by simp only [decide_eq_true_eq];omega),List.drop_of_length_le (by omega),aAs,List.append_nil]
  | m+1,i,a,b,hi,hc,hb,hl=>by
    have hx:=List.getElem?_eq_getElem (l:=es) (i:=i) (by omega);rw [List.drop_eq_getElem_cons (by omega)] at hc ⊢;obtain⟨he,e⟩:EOk a es[i]/\Chain es[i].f2.toNat (es.drop (i+1)):=by cases hc with | cons c d=>exact⟨c,d⟩
    have c:=aP (n:=es[i].f1.toNat) (by have:=he.le;have:=he.lt;omega);have d:=aP (n:=es[i].f2.toNat) (by have:=he.le;omega);have f:=aP (yD he.i64.1);have hf:=he.fr;have g:=he.lt;have hr:cB es b (i:Int)=some (.inl (b++aH0 es[i],((i+1:Nat):Int))):=by unfold cB;rw [if_pos (by simp only [decide_eq_true_eq];omega),bA rfl hx];simp only [bHp];rw [show es[i].f1=((es[i].f1.toNat:Nat):Int) by omega,tV _ _ (by have:=he.le;omega) (by omega)];simp only [bHp,Int.toNat_natCast];rw [show es[i].f2=((es[i].f2.toNat:Nat):Int) by omega,tV _ _ (by have:=he.le;omega) (by simp only [List.length_append,Int.toNat_natCast];omega)];simp only [bHp,Int.toNat_natCast];rw [aAq he.i64.1 _ (by simp only [List.length_append];omega)];simp only [bHp];rw [aAq he.i64.2 _ (by simp only [List.length_append];omega)];simp only [bHp];rw [lt_,w64 (by omega) (by omega)];simp [aH0,List.append_assoc]
    rw [bZ (b:=λs:List Int×Int=>cB es s.1 s.2) hr,aO2 es m (i+1) _ (b++aH0 es[i]) (by omega) e (by have:=he.len;simp only [List.length_append];omega) hl,aAs,List.append_assoc]
theorem aP4 (l:List S46) (e:S46):aCl (l++[e])=e.f2:=by simp [aCl]
theorem aS4 {e:S46} {n:List UInt8} (h:e.f0=n):(⟨n,e.f1,e.f2,e.f3,e.f4⟩:S46)=e:=by subst h;rfl
theorem aUe {α β γ:Type} (v:α) (f:α->Option γ) (g:β->Option γ):((some (Sum.inl v:α⊕β)).bind λy=>fV y f g)=f v:=rfl
theorem aTc {y:Int×S140} {pt:Int} {acc:List S46} {e:S46} {r:List Int} {i a:Nat} (he:EOk a e) (b:aCl acc=(a:Int)) (hB:Bs (aH0 e++r)) (hi:(i:Int)<y.1) (hi':i<=1000) (c:acc.length<=1000) :
    cF y (aH0 e++r) pt acc (i:Int)=some (.inl (r,pt,acc++[e],((i+1:Nat):Int))):=by
  have hf:=he.fr;have j:=he.lt;have hle:=he.le;have d:=he.lh;have f:((e.f1.toNat:Nat):Int)=e.f1:=by omega
  have g:((e.f2.toNat:Nat):Int)=e.f2:=by omega
  have e0:aH0 e++r=uv e.f1.toNat++(uv e.f2.toNat++(uv (zz e.f3)++(uv (zz e.f4)++r))):=by simp only [aH0,List.append_assoc]
  rw [e0] at hB ⊢;have b1:=hB.r;have b2:=b1.r;have h:=b2.r;unfold cF;rw [if_pos (by simpa using hi),rdU (by omega) (by omega) hB];rw [aUe];rw [rdU (by omega) (by omega) b1];rw [aUe];rw [rdI he.i64.1 b2];rw [aUe];rw [rdI he.i64.2 h];rw [aUe];rw [aR0 (by omega) (by omega),bHp];rw [aY4 ⟨(),pt,acc⟩ (Nat.lt_of_le_of_lt c (by decide)),bHp];rw [b,if_pos (by rw [beq_iff_eq];omega),if_pos (by rw [decide_eq_true_eq];omega),decide_eq_true d,mV];rw [aUe];unfold fD;rw [bH (by simp only [List.length_cons,List.length_nil];omega),lt_,nD (n:=(i:Int)+1) (by omega) (by omega)];simp only [f,g,aS4 he.nm];rw [show ((i+1:Nat):Int)=(i:Int)+1 by omega]
theorem aK4 {y:Int×S140} {pt:Int}:∀ (es:List S46) (i a:Nat) (acc:List S46),Chain a es->aCl acc=(a:Int)->acc.length=i->y.1=((i+es.length:Nat):Int)->i+es.length<=500 ->
    loop (λs:List Int×Int×List S46×Int=>cF y s.1 s.2.1 s.2.2.1 s.2.2.2) (aAs es,pt,acc,(i:Int))=some (.inl ([],pt,acc++es))
  | [],i,a,acc,hc,hend,hacc,hy,hl=>by refine bE ?_;show cF y [] pt acc (i:Int)=_;unfold cF;rw [if_neg (by rw [hy];simp),List.append_nil]
  | e::es,i,a,acc,.cons he hc,hend,hacc,hy,hl=>by simp only [List.length_cons] at hy hl;have hr:=aTc (y:=y) (pt:=pt) (r:=aAs es) (i:=i) he hend ((aRn e).app (aIz es)) (by rw [hy];omega) (by omega) (by omega);rw [show aAs (e::es)=aH0 e++aAs es from rfl,bZ (b:=λs:List Int×Int×List S46×Int=>cF y s.1 s.2.1 s.2.2.1 s.2.2.2) hr];have:=he.fr;have:=he.lt;rw [aK4 es (i+1) e.f2.toNat (acc++[e]) hc (by rw [aP4];omega) (by simp [hacc]) (by rw [hy];congr 1;omega) (by omega),List.append_assoc];rfl
theorem aXv {pt:Int} {es:List S46} (hp:1<=pt/\pt<=8) (hc:Chain 0 es) (hl:es.length<=500):lB ⟨(),pt,[]⟩ (kC 99 (aFy pt es))=some (0,⟨(),pt,es⟩):=by have a:=aP (n:=pt.toNat) (by omega);have b:=aP (n:=es.length) (by omega);have c:=hc.len;have hB:=aL8 pt es;unfold lB;rw [bAj (by decide) hB (by simp only [aFy,List.length_append];omega)];simp only [bHp];rw [if_neg (by decide)];unfold mM lV;simp only [lt_];rw [nD (n:=pt) (by omega) (by omega),show aFy pt es=uv pt.toNat++(uv es.length++aAs es) from rfl,rdU (by omega) (by omega) hB];simp only [bHp,iC];rw [show ((pt.toNat:Nat):Int)=pt by omega,show (pt==pt)=true by simp,mV];simp only [bHp,iC];rw [rdU (by omega) (by omega) hB.r];simp only [bHp,iC];have hL:=aK4 (y:=((es.length:Int),(⟨aAs es⟩:S140))) (pt:=pt) es 0 0 [] hc rfl rfl (by simp) (by omega);rw [show ((0:Nat):Int)=0 from rfl] at hL;rw [hL];rfl
theorem aV6 (l:List Nat):rl (l.map kU)=rl l:=by unfold rl;rw [List.map_map];exact List.map_congr_left λx _=>by show IntKind.i64.wrap ((kU (kU x):Nat):Int)=_;rw [xR]
theorem aIn (l:List S61):zS (l.map dE)=zS l:=by
  have a:oT (l.map dE)=oT l:=by unfold oT;rw [List.map_map];rfl
  have b:jS (l.map dE)=jS l:=by unfold jS;rw [List.map_map];rfl
  have c:jT (l.map dE)=jT l:=by unfold jT;rw [List.map_map];rfl
  have d:oH (l.map dE)=oH l:=by unfold oH;rw [List.map_map];rfl
  have e:nE (l.map dE)=(nE l).map kU:=by unfold nE;rw [List.map_map,List.map_map];rfl
  unfold zS;rw [a,b,c,d,e,aV6]
theorem aVu (l:List S61):pcs 64 (l.map dE)=(pcs 64 l).map (List.map dE):=by unfold pcs;rw [List.length_map,List.map_map];refine List.map_congr_left λk _=>?_;show ((l.map dE).drop (k * 64)).take 64=List.map dE ((l.drop (k * 64)).take 64);rw [List.map_take,List.map_drop]
theorem aJt:∀ cs:List (List S61),bV (cs.map (List.map dE))=bV cs
  | []=>rfl
  | c::cs=>by show pgL (c.map dE)++bV (cs.map (List.map dE))=pgL c++bV cs;rw [aJt cs];unfold pgL;rw [aIn]
theorem aN4:∀ (cs:List (List S61)) (a:Nat),fT (cs.map (List.map dE)) a=fT cs a
  | [],_=>rfl
  | c::cs,a=>by show ckL (c.map dE) (a:Int)::fT (cs.map (List.map dE)) (a+(pgL (c.map dE)).length)=ckL c (a:Int)::fT cs (a+(pgL c).length);rw [aN4 cs,aIt,show pgL (c.map dE)=pgL c by unfold pgL;rw [aIn]]
theorem aTn (l:List S61) (k:Nat):yL (l.map dE) k=yL l k:=by unfold yL;rw [aVu,aJt,aN4]
theorem Run.back {k a:Int} {l:List S61} (h:Run k a l):Run k a (l.map dE):=by
  refine⟨λe he=>?_,λe he=>?_,λi x hx=>?_⟩
  · obtain⟨x,hx,rfl⟩:=List.mem_map.1 he
    exact h.fm x hx
  · obtain⟨x,hx,rfl⟩:=List.mem_map.1 he
    exact⟨(h.gd x hx).1,aN0 (h.gd x hx).2⟩
  · rw [List.getElem?_map] at hx
    obtain⟨y,b,rfl⟩:=Option.map_eq_some_iff.1 hx;exact h.of i y b
theorem Seg.back {k:Int} {l:List S61} (h:Seg k l):Seg k (l.map dE):=by obtain⟨a,h0,b,hr⟩:=h.run;exact⟨h.k1,h.k8,by rw [List.length_map];exact h.ps,by rw [List.length_map];exact h.le,a,h0,by rw [List.length_map];exact b,hr.back⟩
def pc (m:List S61) (a b:Nat):List S61:=(m.drop a).take (b - a)
structure Lg (k:Int) (m:List S61):Prop where
  run:Run k 0 m
  le:m.length<=250
  k1:1<=k
  k8:k<=8
theorem aAf {m:List S61} {a b:Nat} (h:b<=m.length):(pc m a b).length=b - a:=by unfold pc;simp;omega
theorem aQm {m:List S61} {a b c:Nat} (d:a<=b) (e:b<=c):pc m a b++pc m b c=pc m a c:=by
  unfold pc;have:(m.drop a).take (c - a)=(m.drop a).take (b - a)++((m.drop a).drop (b - a)).take (c - b):=by rw [show c - a=(b - a)+(c - b) by omega,List.take_add]
  rw [this,List.drop_drop,show a+(b - a)=b by omega]
theorem aM1 (m:List S61) (b:Nat):pc m 0 b=m.take b:=by unfold pc;simp
theorem aDe {k:Int} {m:List S61} (h:Run k 0 m) (a b:Nat):Run k a (pc m a b):=by have:=(h.drop a).take (b - a);rw [Int.zero_add] at this;exact this
theorem Lg.seg {k:Int} {m:List S61} (h:Lg k m) {a b:Nat} (c:a<b) (hb:b<=m.length):Seg k (pc m a b):=by have:=h.le;exact⟨h.k1,h.k8,by rw [aAf hb];omega,by rw [aAf hb];omega,a,by omega,by rw [aAf hb];omega,aDe h.run a b⟩
def szB (n:Nat):Nat:=6100 * ((n+63) / 64)+2422
theorem Seg.size {k:Int} {l:List S61} (h:Seg k l):(yL l k.toNat).length<=szB l.length:=by
  obtain⟨b1,b2⟩:=h.bytes;obtain⟨f1,f2⟩:=h.foot;obtain⟨p1,p2,p3⟩:=aEe h.k8 h.cut;have hlen:(pcs 64 l).length=(l.length+64 - 1) / 64:=aCd;unfold szB;rw [b2];rw [hlen] at p1;have:l.length+64 - 1=l.length+63:=by omega
  rw [this] at p1;omega
theorem aJ5 {a b:Nat} (h:a<=b):szB a<=szB b:=by have:(a+63) / 64<=(b+63) / 64:=Nat.div_le_div_right (by omega);unfold szB;omega
def aFb (l:List S61):Int:=(ckL l 0).f4
def aAb (l:List S61):Int:=(ckL l 0).f5
def jY (m:List S61) (a b:Nat):S46:=⟨qU a b,(a:Int),(b:Int),aFb (pc m a b),aAb (pc m a b)⟩
def aZ (m:List S61):Nat->List Nat->List S46
  | _,[]=>[]
  | a,b::r=>jY m a b::aZ m b r
def fL:Nat->List Nat->Nat
  | a,[]=>a
  | _,b::r=>fL b r
def RiseN:Nat->List Nat->Nat->Prop
  | a,[],n=>a<=n
  | a,b::r,n=>a<b/\RiseN b r n
theorem RiseN.end_le:∀ {r:List Nat} {a n:Nat},RiseN a r n->a<=fL a r/\fL a r<=n
  | [],a,n,h=>⟨Nat.le_refl _,h⟩
  | b::r,a,n,h=>by have:=RiseN.end_le h.2;have:=h.1;show a<=fL b r/\fL b r<=n;omega
theorem RiseN.len:∀ {r:List Nat} {a n:Nat},RiseN a r n->a+r.length<=fL a r
  | [],a,n,h=>Nat.le_refl _
  | b::r,a,n,h=>by have:=RiseN.len h.2;have:=h.1;show a+(r.length+1)<=fL b r;omega
theorem aOg:∀ (r s:List Nat) (a:Nat),fL a (r++s)=fL (fL a r) s
  | [],_,_=>rfl
  | b::r,s,_=>aOg r s b
theorem aDz (m:List S61):∀ (r s:List Nat) (a:Nat),aZ m a (r++s)=aZ m a r++aZ m (fL a r) s
  | [],_,_=>rfl
  | b::r,s,a=>by show jY m a b::aZ m b (r++s)=jY m a b::(aZ m b r++aZ m (fL b r) s);rw [aDz m r s b]
theorem eC (m:List S61):∀ (r:List Nat) (a:Nat),(aZ m a r).length=r.length
  | [],_=>rfl
  | b::r,a=>by show (aZ m b r).length+1=r.length+1;rw [eC m r b]
theorem RiseN.app:∀ {r s:List Nat} {a n:Nat},RiseN a (r++s) n↔RiseN a r (fL a r)/\RiseN (fL a r) s n
  | [],s,a,n=>⟨λh=>⟨Nat.le_refl _,h⟩,λh=>h.2⟩
  | b::r,s,a,n=>by show a<b/\RiseN b (r++s) n↔(a<b/\RiseN b r (fL b r))/\RiseN (fL b r) s n;rw [RiseN.app (r:=r) (s:=s) (a:=b) (n:=n)];exact⟨λh=>⟨⟨h.1,h.2.1⟩,h.2.2⟩,λh=>⟨h.1.1,h.1.2,h.2⟩⟩
theorem RiseN.mono:∀ {r:List Nat} {a n b:Nat},RiseN a r n->n<=b->RiseN a r b
  | [],_,_,_,h,h'=>Nat.le_trans h h'
  | _::_,_,_,_,h,h'=>⟨h.1,RiseN.mono h.2 h'⟩
theorem aBe {m:List S61}:∀ {r:List Nat} {a n:Nat},RiseN a r n->∀ e∈aZ m a r,∃ x y:Nat,a<=x/\x<y/\y<=n/\e=jY m x y
  | [],_,_,_,e,he=>by cases he
  | b::r,a,n,h,e,he=>by
    rcases List.mem_cons.1 he with rfl | he
    · exact⟨a,b,Nat.le_refl _,h.1,Nat.le_trans (RiseN.end_le h.2).1 (RiseN.end_le h.2).2,rfl⟩
    · obtain⟨x,y,g,c,d,f⟩:=aBe h.2 e he
      have:=h.1;exact⟨x,y,by omega,c,d,f⟩
theorem aOh (m:List S61):∀ (r:List Nat) (a:Nat),r≠[]->aCl (aZ m a r)=(fL a r:Int)
  | [],a,h=>absurd rfl h
  | [b],a,_=>rfl
  | b::c::r,a,_=>by have:=aOh m (c::r) b (by simp);show aCl (jY m a b::aZ m b (c::r))=_;unfold aCl at this ⊢;rw [show aZ m b (c::r)=jY m b c::aZ m c r from rfl] at this ⊢;rw [List.getLast?_cons_cons];exact this
theorem aS5 (m:List S61) (r:List Nat):aCl (aZ m 0 r)=(fL 0 r:Int):=by
  by_cases h:r=[]
  · subst h;rfl
  · exact aOh m r 0 h
theorem aVg {l:List S61} {k a:Int} (h:Run k a l) (h0:0<l.length) : -1099511627776<=aFb l/\aAb l<=1099511627776/\aFb l<=aAb l:=by
  have hb:=aUk l 0;have hx:=List.getElem_mem h0;obtain⟨_,_,i,j⟩:=hb _ hx;have e:ckL l 0=l.foldl ckF (ck0 l 0 (l[0]'h0)):=by
    cases l with
    | nil=>simp at h0
    | cons z c=>rfl
  have b:=aIa (λ_=>True) (λv => -1099511627776<=v/\v<=1099511627776) (λ_=>True) l (ck0 l 0 (l[0]'h0))
    ⟨⟨trivial,trivial⟩,⟨by have:=xJ (h.fm _ hx);exact⟨this.2.2.1,this.2.2.2.1⟩,by have:=xJ (h.fm _ hx);exact⟨this.2.2.1,this.2.2.2.1⟩⟩,trivial,trivial⟩
    λv d=>⟨trivial,by have:=xJ (h.fm _ d);exact⟨this.2.2.1,this.2.2.2.1⟩,trivial⟩
  rw [← e] at b;obtain⟨_,⟨f,g⟩,_⟩:=b;exact⟨f.1,g.2,by unfold aFb aAb;omega⟩
theorem aB4 {k:Int} {m:List S61} (h:Lg k m):∀ {r:List Nat} {a:Nat},RiseN a r m.length->Chain a (aZ m a r)
  | [],_,_=>.nil _
  | b::r,a,hr=>by have hb:=(RiseN.end_le hr.2);have hle:=h.le;have g:=hr.1;obtain⟨c,d,f⟩:=aVg (aDe h.run a b) (by rw [aAf (by omega)];omega);exact .cons (e:=jY m a b) ⟨rfl,by show (a:Int)<b;omega,by show (b:Int)<1000;omega,rfl,c,d,f⟩ (aB4 h hr.2)
theorem aD0 {k:Int} {m:List S61} (h:Lg k m) {r:List Nat} (hr:RiseN 0 r m.length) {e:S46} (he:e∈aZ m 0 r):yI e.f0=true/\tY e.f0=true:=by obtain⟨x,y,a,b,c,rfl⟩:=aBe hr e he;have:=h.le;exact⟨aD5 x y,aG9 (by omega) (by omega)⟩
theorem aRo {m:List S61}:∀ {r:List Nat} {a n x y:Nat},RiseN a r n->n<=250->x<1000->y<1000->(aZ m a r).any (λe=>e.f0==qU x y)=true->jY m x y∈aZ m a r
  | [],_,_,_,_,_,_,_,_,h=>by cases h
  | b::r,a,n,x,y,hr,hn,hx,hy,h=>by
    have c:=hr.1;have d:=RiseN.end_le hr.2;rw [show aZ m a (b::r)=jY m a b::aZ m b r from rfl,List.any_cons,Bool.or_eq_true] at h;rcases h with h | h
    · obtain⟨rfl,rfl⟩:=aPb (by omega) (by omega) hx hy (beq_iff_eq.1 h:qU a b=qU x y)
      exact List.mem_cons_self
    · exact List.mem_cons_of_mem _ (aRo hr.2 hn hx hy h)
def aW3 (k:Int) (m:List S61) (r:List Nat):List Int:=kC 99 (aFy k (aZ m 0 r))
def aNc (k:Int) (m:List S61) (e:S46):S98:=aI7 e.f0 (yL (pc m e.f1.toNat e.f2.toNat) k.toNat)
structure Ct (k:Int) (m:List S61) (r:List Nat) (l:List S98):Prop where
  cat0:r=[]->get l wL=none
  cat:r≠[]->get l wL=some (aI7 wL (aW3 k m r))
  segs:∀ e∈aZ m 0 r,get l e.f0=some (aNc k m e)
def aT4 (m:List S61) (r:List Nat) (f:List UInt8):Prop:=f=wL\/∃ e∈aZ m 0 r,f=e.f0
theorem Ct.of {k:Int} {m:List S61} {r:List Nat} {l a:List S98} (h:Ct k m r l) (hp:∀ f,aT4 m r f->get a f=get l f):Ct k m r a :=
  ⟨λe=>(hp _ (.inl rfl)).trans (h.cat0 e),λe=>(hp _ (.inl rfl)).trans (h.cat e),λe he=>(hp _ (.inr ⟨e,he,rfl⟩)).trans (h.segs e he)⟩
theorem aKw (l:List S46):tZ l wL=false:=by unfold tZ;rw [aTb];rfl
theorem aI8 (l:List S46):tZ l rS=true:=by unfold tZ;simp
theorem aGk {f:List UInt8} (h:yI f=true):f≠rS/\f≠wL :=
  ⟨λe=>by rw [e] at h;exact absurd h (by decide),λe=>by rw [e] at h;exact absurd h (by decide)⟩
theorem aDf {k:Int} {m:List S61} (h:Lg k m) {r:List Nat} (hr:RiseN 0 r m.length) {f:List UInt8} (hf:aT4 m r f):tZ (aZ m 0 r) f=false:=by
  rcases hf with rfl | ⟨e,he,rfl⟩
  · exact aKw _
  · have a:=(aGk (aD0 h hr he).1).1
    unfold tZ;rw [show ((aZ m 0 r).any λx=>x.f0==e.f0)=true from List.any_eq_true.2 ⟨e,he,by simp⟩,show (e.f0==rS)=false by simpa using a];simp
theorem aU6 {m:List S61} {r:List Nat} {n x y:Nat} (hr:RiseN 0 r n) (hn:n<=250) (hx:x<1000) (a:y<1000) (h:jY m x y∉aZ m 0 r):tZ (aZ m 0 r) (qU x y)=true:=by
  have:(aZ m 0 r).any (λe=>e.f0==qU x y)=false:=by
    cases c:(aZ m 0 r).any (λe=>e.f0==qU x y) with
    | false=>rfl
    | true=>exact absurd (aRo hr hn hx a c) h
  unfold tZ;rw [this,aD5];simp
def CleanC (es:List S46) (l:List S98):Prop:=∀ f x,get l f=some x->tZ es f=false
theorem CleanC.none {es:List S46} {l:List S98} (h:CleanC es l) {f:List UInt8} (hf:tZ es f=true):get l f=none:=by
  cases hg:get l f with
  | none=>rfl
  | some x=>rw [h f x hg] at hf;cases hf
def bAg (l:List S98):Prop:=∀ f x,get l f=some x->f=wL\/f=rS\/yI f=true
theorem aPf {kk:Nat} {s:S77} (h:SI kk s) (hk:kk+500<4611686018427387904) (j:s.f3=false) (c:S79) (hc:c.f2.length<=1000000) :
    ∃ e s',dA c s=some (e,c,s')/\SI (kk+500) s'/\Kp s s'/\(∀ f,tZ c.f2 f=false->get s'.f0 f=get s.f0 f)/\(∀ f x,get s'.f0 f=some x->get s.f0 f=some x)/\(used s'.f0<=used s.f0/\s'.f0.length<=s.f0.length) /\
      ((e=0/\s'.f3=false/\CleanC c.f2 s'.f0)\/(e=9/\s'.f3=true)):=by
  obtain⟨k,l,i3,i4,i5,m⟩:=aJ4 (tZ c.f2) (s.f0.map S98.f0) s kk h j (aC8 h.rise) λf hf=>by obtain⟨x,hx,rfl⟩:=List.mem_map.1 hf;exact⟨x,aMv h.rise hx⟩
  refine⟨_,_,aTq h hk c hc,k.mono (by have:=h.len;rw [List.length_map];omega),l,i3,i4,i5,?_⟩;rcases m with ⟨a,b,d⟩ | q
  · refine .inl ⟨a,b,λf x hx=>?_⟩
    cases g:tZ c.f2 f with
    | false=>rfl
    | true =>
      have i:=i4 f x hx;have n:=d f (List.mem_map.2 ⟨x,(zD i).1,(zD i).2⟩) g;rw [n] at hx;cases hx
  · exact .inr q
def FitC (s:S77) (m c:Nat):Prop:=(used s.f0:Int)+m<=s.f1/\s.f0.length+c<=500
theorem FitC.mono {s:S77} {m a c b:Nat} (h:FitC s m c) (d:a<=m) (e:b<=c):FitC s a b:=⟨by have:=h.1;omega,by have:=h.2;omega⟩
theorem aLd {kk:Nat} {s:S77} (h:SI kk s) (hk:kk+500<4611686018427387904) (y:s.f3=false) (c:S79) {n:List UInt8} (hn:tY n=true) (hg:get s.f0 n=none) {p:List Int} (hp:Bs p) :
    ∃ e s',fS c n p s=some (e,c,s')/\SI (kk+2) s'/\Kp s s'/\(∀ f,f≠n->get s'.f0 f=get s.f0 f) /\
      ((e=0/\s'.f3=false/\get s'.f0 n=some (aI7 n p))\/(e=9/\s'.f3=true)\/(e=10/\s'=s)) /\
      (∀ m c,FitC s (p.length+m) (c+1)->e≠10/\(e=0->FitC s' m c)):=by
  have h32:=aRt hn;obtain⟨j,r⟩:=aUc h y hn p;have g:=h.app (n:=n) (p:=p) hp;have k:fS c n p s=(if ((rU s n p).1==0)=true then some ((aEt (rU s n p).2 n).1,c,(aEt (rU s n p).2 n).2) else some ((rU s n p).1,c,(rU s n p).2)):=by
    unfold fS;rw [h.Append (by omega) (by omega) p];simp only [bHp];split
    · rw [show pJ (some (rU s n p).2) n=_ from g.Sync (by omega) (by omega)]
      rfl
    · rfl
  rw [hg] at r;have hu:=aDp h.rise ⟨n,[]++p,0⟩;have hl:=aF6 h.rise ⟨n,[]++p,0⟩;rw [hg] at hu hl;simp only [Option.getD_none,List.nil_append,Option.isSome_none,List.length_nil,Nat.add_zero] at hu hl;rcases r with ⟨e,es,hr⟩ | ⟨⟨e,on⟩ | ⟨e,off⟩,i⟩
  · refine⟨10,s,?_,h.mono (by omega),Kp.refl s,λ_ _=>rfl,.inr (.inr ⟨rfl,rfl⟩),λm c hf=>?_⟩
    · rw [k,e,es];rfl
    · exfalso
      obtain⟨f1,f2⟩:=hf;rcases hr with hr | hr <;> omega
  · simp only [Option.getD_none,List.nil_append] at i hu hl
    have hx:get (rU s n p).2.f0 n=some ⟨n,p,0⟩:=by rw [i,zE h.rise,if_pos rfl]
    obtain⟨t,l⟩:=aIs g on hx λx=>put (rU s n p).2.f0 ⟨x.f0,x.f1,x.f1.length⟩;have z:=g.syn (n:=n);have u:=aDp g.rise ⟨n,p,p.length⟩;have o:=aF6 g.rise ⟨n,p,p.length⟩;rw [hx] at u o;simp only [Option.getD_some,Option.isSome_some,if_true] at u o;refine⟨(aEt (rU s n p).2 n).1,(aEt (rU s n p).2 n).2,?_,z,Kp.trans j t,λf hf=>?_,?_,λm c v=>?_⟩
    · rw [k,e];rfl
    · rcases l with ⟨_,_,d⟩ | ⟨_,_,d⟩
      · rw [show (aEt (rU s n p).2 n).2.f0=_ from d,zE g.rise,if_neg (λq=>hf q.symm),i,zE h.rise,if_neg (λq=>hf q.symm)]
      · rw [show (aEt (rU s n p).2 n).2.f0=_ from d,i,zE h.rise,if_neg (λq=>hf q.symm)]
    · rcases l with ⟨a,b,d⟩ | ⟨a,b,d⟩
      · exact .inl ⟨a,b,by rw [show (aEt (rU s n p).2 n).2.f0=_ from d,zE g.rise,if_pos rfl];rfl⟩
      · exact .inr (.inl ⟨a,b⟩)
    · rcases l with ⟨a,b,d⟩ | ⟨a,b,d⟩
      · refine⟨by rw [show (aEt (rU s n p).2 n).1=0 from a];decide,λ_=>?_⟩
        obtain⟨f1,f2⟩:=v;have w:(aEt (rU s n p).2 n).2.f0=put (rU s n p).2.f0 ⟨n,p,p.length⟩:=d;have A:=(Kp.trans j t).1;refine⟨?_,?_⟩
        · rw [show (aEt (rU s n p).2 n).2.f1=s.f1 from A,w]
          have B:used (put (rU s n p).2.f0 ⟨n,p,p.length⟩)=used (rU s n p).2.f0:=by omega
          rw [B,i];omega
        · rw [w,o,i,hl]
          simp only [if_neg (by simp:¬ (false=true))];omega
      · refine⟨by rw [show (aEt (rU s n p).2 n).1=9 from a];decide,λq=>?_⟩
        rw [show (aEt (rU s n p).2 n).1=9 from a] at q;cases q
  · simp only [Option.getD_none,List.nil_append] at i
    refine⟨9,(rU s n p).2,?_,g.mono (by omega),j,λf hf=>?_,.inr (.inl ⟨rfl,off⟩),λm c v=>⟨by decide,λq=>by cases q⟩⟩
    · rw [k,e];rfl
    · rw [i,zE h.rise,if_neg (λq=>hf q.symm)]
theorem aN1 {k:Int} {es:List S46} (hk:1<=k/\k<=8) (hc:Chain 0 es) (hl:es.length<=250):(kC 99 (aFy k es)).length<=40 * es.length+40:=by have a:=aP (n:=k.toNat) (by omega);have b:=aP (n:=es.length) (by omega);have c:=hc.len;rw [tD];simp only [aFy,List.length_append];omega
theorem aM3 {kk:Nat} {s:S77} (h:SI kk s) (hk:kk+500<4611686018427387904) (q:s.f3=false) {k:Int} (w:1<=k/\k<=8) {old es:List S46} (hc:Chain 0 es) (hl:es.length<=250) (hg:get s.f0 rS=none) :
    ∃ e s',cR ⟨(),k,old⟩ es s=some (e,⟨(),k,if e=0 then es else old⟩,s')/\SI (kk+3) s'/\Kp s s'/\(∀ f,f≠rS->f≠wL->get s'.f0 f=get s.f0 f) /\
      ((e=0/\s'.f3=false/\get s'.f0 wL=some (aI7 wL (kC 99 (aFy k es)))/\get s'.f0 rS=none)\/((e=9/\s'.f3=true\/e=10/\s'.f3=false)/\get s'.f0 wL=get s.f0 wL)) /\
      (FitC s (40 * es.length+40) 1->e≠10):=by
  have H:=aN1 w hc hl;have hBs:Bs (kC 99 (aFy k es)):=aDa (by decide) (aL8 k es);have I:=aP (n:=k.toNat) (by omega);have J:=aP (n:=es.length) (by omega);have K:=hc.len;have y:=tV k.toNat [] (by omega) (by simp only [List.length_nil];omega);have z:=tV es.length (uv k.toNat) (by omega) (by omega);have r:=aO2 es es.length 0 0 (uv k.toNat++uv es.length) (by omega) (by rw [List.drop_zero];exact hc) (by simp only [List.length_append];omega) (by omega);rw [List.drop_zero] at r;have A:=aAt (p:=[]) (kind:=99) (by decide) (aL8 k es) (by simp only [aFy,List.length_append];omega) (by simp);have dTC:rS≠wL:=by decide
  obtain⟨l,s1,B,g,m,i,t,C⟩:=aLd h hk q ⟨(),k,old⟩ aKt hg hBs;have D:cR ⟨(),k,old⟩ es s=gH ⟨(),k,old⟩ es s (aFy k es):=by unfold cR;rw [lt_,nD (n:=k) (by omega) (by omega),show k=((k.toNat:Nat):Int) by omega,y];simp only [bHp,List.nil_append];rw [lt_,nD (by omega) (by omega),z];simp only [bHp];rw [show (0:Int)=((0:Nat):Int) from rfl,r];simp only [bHp];unfold iG aFy;rw [List.append_assoc];simp only [Int.toNat_natCast]
  rw [D];unfold gH;rw [A];simp only [bHp,List.nil_append];rw [show ([99,97,116,46,116,109,112]:List UInt8)=rS from rfl,B];simp only [bHp];have E:FitC s (40 * es.length+40) 1->l≠10:=λhf=>(C 0 0 (hf.mono (by omega) (by omega))).1;by_cases c1:l=0
  rotate_left
  · rw [if_pos (by simpa using c1)]
    refine⟨l,s1,by rw [if_neg c1],g.mono (by omega),m,λf a b=>i f a,?_,E⟩;rcases t with ⟨a,_⟩ | ⟨a,b⟩ | ⟨a,b⟩
    · exact absurd a c1
    · exact .inr ⟨.inl ⟨a,b⟩,i _ dTC.symm⟩
    · exact .inr ⟨.inr ⟨a,by rw [b];exact q⟩,i _ dTC.symm⟩
  rw [if_neg (by simp [c1])];obtain⟨u,F⟩:s1.f3=false/\get s1.f0 rS=some (aI7 rS (kC 99 (aFy k es))):=by
    rcases t with ⟨_,a,b⟩ | ⟨a,_⟩ | ⟨a,_⟩
    · exact⟨a,b⟩
    · rw [c1] at a;cases a
    · rw [c1] at a;cases a
  rw [show ([99,97,116]:List UInt8)=wL from rfl,g.Rename (by omega) (by decide) (by decide)];simp only [bHp];have G:aQu s1 rS wL=aC4 s1 rS λx=>put (del s1.f0 rS) ⟨wL,x.f1,x.f2⟩:=by unfold aQu;rw [if_pos aKt,if_pos (aD9 aIq u)]
  obtain⟨o,v⟩:=aIs g u F λx=>put (del s1.f0 rS) ⟨wL,x.f1,x.f2⟩;have i4:=g.ren (a:=rS) (b:=wL);rw [← G] at o v;rcases v with ⟨a,b,j⟩ | ⟨a,b,j⟩
  · rw [if_neg (by rw [a];simp)]
    refine⟨0,_,rfl,i4.mono (by omega),Kp.trans m o,λf c d=>?_,.inl ⟨rfl,b,?_,?_⟩,λ_=>by decide⟩
    · rw [j,zE (zX g.rise _),if_neg (λe=>d e.symm),aD2 g.rise,if_neg (λe=>c e.symm)]
      exact i f c
    · rw [j,zE (zX g.rise _),if_pos rfl]
      rfl
    · rw [j,zE (zX g.rise _),if_neg dTC.symm,aD2 g.rise,if_pos rfl]
  · rw [if_pos (by rw [a];simp)]
    refine⟨9,_,by rw [a];rfl,i4.mono (by omega),Kp.trans m o,λf c d=>by rw [j];exact i f c,.inr ⟨.inl ⟨rfl,b⟩,by rw [j];exact i _ dTC.symm⟩,λ_=>by decide⟩
theorem aP5 {l:List S61} (hl:l.length<=100000) {x:S61} (hx:l[0]?=some x) :
    loop (λs:Int×Int×Int=>cI l s.1 s.2.1 s.2.2) (x.f2,x.f2,0)=some (aFb l,aAb l):=by
  have e0:ckL l 0=l.foldl ckF (ck0 l 0 x):=by
    cases l with
    | nil=>cases hx
    | cons y l=>cases hx;rfl
  have hk:=jJ (b:=λs:Int×Int×Int=>cI l s.1 s.2.1 s.2.2)
    (λk=>(((l.take k).foldl ckF (ck0 l 0 x)).f4,((l.take k).foldl ckF (ck0 l 0 x)).f5,(k:Int)))
    (t:=((l.foldl ckF (ck0 l 0 x)).f4,(l.foldl ckF (ck0 l 0 x)).f5)) l.length (λk hk=>by
      have a:=List.getElem?_eq_getElem (l:=l) (i:=k) hk;show cI l _ _ (k:Int)=_;unfold cI;rw [if_pos (by simp only [decide_eq_true_eq];omega),bA rfl a];simp only [bHp,lt_];rw [w64 (by omega) (by omega),aFa ckF _ a];rfl) (by
      show cI l _ _ ((l.length:Nat):Int)=_;unfold cI;rw [if_neg (by simp only [decide_eq_true_eq];omega),List.take_length])
  unfold aFb aAb;rw [e0];exact hk
theorem aUw {k:Int} {l:List S61} {a b:Nat} (hs:Seg k l) (hr:Run k a l) (hb:b=a+l.length) (f:b<1000) (old:List S46) (s:S77) :
    dM ⟨(),k,old⟩ l s=(fS ⟨(),k,old⟩ (qU a b) (yL l k.toNat) s).bind λy=>some (⟨qU a b,(a:Int),(b:Int),aFb l,aAb l⟩,y.1,y.2.1,y.2.2):=by
  have g:=hs.ps;have hx:=List.getElem?_eq_getElem (l:=l) (i:=0) g;have c:at_ l 0=some l[0]:=hx;have d:=aP5 (by omega) hx;generalize l[0]=x0 at c d;have e:=aNr hs hr (by omega);rw [show (a:Int)+(l.length:Int)=(b:Int) by omega] at e;unfold dM;rw [aNu hr.gd k (by omega),bCg hs,bHp,if_neg (by simp),aQ8 hs,bHp,e,bHp,c,bHp,aR0 (by omega) f,bHp];unfold kX;rw [d,bHp];unfold iZ kW;exact rfl
theorem yA {c:S79} {e:Int} (h:e=0\/e=9) (s:S77):dI c e s=some (e,c,s):=by unfold dI fF fE;rcases h with rfl | rfl <;> rfl
theorem aQy {c:S79} {e f:Int} {s s':S77} (h0:e≠0) (b:e≠9) (hw:dA c s=some (f,c,s')):dI c e s=some (if f=0 then e else f,c,s'):=by
  unfold dI fF fE;rw [if_pos (by simpa using h0),if_pos (by simpa using b),hw];simp only [bHp];by_cases a:f=0
  · rw [if_neg (by simp [a]),if_pos a]
  · rw [if_pos (by simpa using a),if_neg a]
def dG (k:Int) (m:List S61) (r:List Nat):S79:=⟨(),k,aZ m 0 r⟩
structure Cv (k:Int) (m:List S61) (r:List Nat) (kk:Nat) (s:S77):Prop where
  si:SI kk s
  ct:Ct k m r s.f0
  dom:bAg s.f0
  ri:RiseN 0 r m.length
theorem Cv.mono {k:Int} {m:List S61} {r:List Nat} {kk a:Nat} {s:S77} (h:Cv k m r kk s) (hk:kk<=a):Cv k m r a s:=⟨h.si.mono hk,h.ct,h.dom,h.ri⟩
section
variable {k:Int} {m:List S61} {r:List Nat} {kk:Nat} {s:S77}
theorem Cv.few (h:Cv k m r kk s) (hL:Lg k m):r.length<=250/\fL 0 r<=250/\r.length<=fL 0 r/\fL 0 r<=m.length:=by have a:=RiseN.len h.ri;have b:=RiseN.end_le h.ri;have:=hL.le;omega
theorem aJ3 (h:Cv k m r kk s) (hL:Lg k m) (hk:kk+5000<4611686018427387904) (a:s.f3=false) :
    ∃ e s',dA (dG k m r) s=some (e,dG k m r,s')/\Cv k m r (kk+500) s'/\Kp s s'/\(∀ f x,get s'.f0 f=some x->get s.f0 f=some x)/\((e=0/\s'.f3=false/\CleanC (aZ m 0 r) s'.f0)\/(e=9/\s'.f3=true)):=by
  have hf:=h.few hL;obtain⟨e,s',w,i,kp,g,d,u,o⟩:=aPf h.si (by omega) a (dG k m r) (by show (aZ m 0 r).length<=1000000;rw [eC];omega);exact⟨e,s',w,⟨i,h.ct.of λf hf=>g f (aDf hL h.ri hf),λf x hx=>h.dom f x (d f x hx),h.ri⟩,kp,d,o⟩
theorem aBv (h:Cv k m r kk s) (hL:Lg k m) (hk:kk+5000<4611686018427387904) (c:s.f3=false) {e:Int} (h0:e≠0) (g:e≠9) :
    ∃ e' s',dI (dG k m r) e s=some (e',dG k m r,s')/\Cv k m r (kk+500) s'/\Kp s s'/\((e'=e/\s'.f3=false/\CleanC (aZ m 0 r) s'.f0)\/(e'=9/\s'.f3=true)):=by
  obtain⟨f,s',w,i,kp,d,o⟩:=aJ3 h hL hk c;refine⟨_,s',aQy h0 g w,i,kp,?_⟩;rcases o with ⟨rfl,a,b⟩ | ⟨rfl,a⟩
  · exact .inl ⟨rfl,a,b⟩
  · exact .inr ⟨rfl,a⟩
theorem aRp {r':List Nat} {a b:Nat} {l:List S61} (h:Cv k m r kk s) (hL:Lg k m) (hk:kk+5000<4611686018427387904) (B:s.f3=false) (u:CleanC (aZ m 0 r) s.f0)
    (C:a<b) (hb:b<=m.length) (hl:l=pc m a b\/l=(pc m a b).map dE) (n:RiseN 0 r' m.length) (R:r'≠[]) (S:jY m a b∉aZ m 0 r) (T:∀ e∈aZ m 0 r',e=jY m a b\/e∈aZ m 0 r) :
    ∃ i s1,dM (dG k m r) l s=some (jY m a b,i,dG k m r,s1) /\
      ((i≠0/\Cv k m r (kk+10) s1/\Kp s s1/\(i=9/\s1.f3=true\/i=10/\s1.f3=false)/\(FitC s (szB (b - a)+(40 * r'.length+40)) 2->i≠10)) \/
        (i=0/\∃ j g o,cR (dG k m r) (aZ m 0 r') s1=some (j,dG k m o,g)/\Cv k m o (kk+10) g/\Kp s g /\
          ((j=0/\g.f3=false/\o=r'/\∀ f x,get g.f0 f=some x->f=wL\/f=qU a b\/tZ (aZ m 0 r) f=false)\/(j=9/\g.f3=true/\o=r)\/(j=10/\g.f3=false/\o=r))/\(FitC s (szB (b - a)+(40 * r'.length+40)) 2->j≠10))):=by
  have hf:=h.few hL;have hle:=hL.le;have v:Seg k l:=hl.elim (λe=>by rw [e];exact hL.seg C hb) (λe=>by rw [e];exact (hL.seg C hb).back);have U:Run k a l:=hl.elim (λe=>by rw [e];exact aDe hL.run a b) (λe=>by rw [e];exact (aDe hL.run a b).back);have hlen:l.length=b - a:=hl.elim (λe=>(congrArg List.length e).trans (aAf hb)) (λe=>(congrArg List.length e).trans ((List.length_map ..).trans (aAf hb)));have W:yL l k.toNat=yL (pc m a b) k.toNat:=hl.elim (λe=>by rw [e]) (λe=>by rw [e];exact aTn _ _);have X:(⟨qU a b,(a:Int),(b:Int),aFb l,aAb l⟩:S46)=jY m a b:=by
    rcases hl with rfl | rfl
    · rfl
    · unfold aFb aAb jY;rw [aIt];rfl
  have Y:=v.size;rw [hlen] at Y;have D:=aU6 h.ri hle (show a<1000 by omega) (show b<1000 by omega) S;have gN:get s.f0 (qU a b)=none:=u.none D;have gT:get s.f0 rS=none:=u.none (aI8 _);have Z:tY (qU a b)=true:=aG9 (by omega) (by omega);have E:=aGk (aD5 a b);have F:∀ e∈aZ m 0 r,e.f0≠qU a b:=λe he q=>by have:=aDf hL h.ri (.inr ⟨e,he,rfl⟩);rw [q,D] at this;cases this
  obtain⟨i,s1,w1,G,w,p,H,t1⟩:=aLd h.si (by omega) B (dG k m r) Z gN v.bytes.1;have pr:∀ f,aT4 m r f->f≠qU a b:=λf hf=>by
    rcases hf with rfl | ⟨e,he,rfl⟩
    · exact E.2.symm
    · exact F e he
  have I:bAg s1.f0:=λf x hx=>by
    by_cases c:f=qU a b
    · exact .inr (.inr (by rw [c];exact aD5 a b))
    · rw [p f c] at hx
      exact h.dom f x hx
  refine⟨i,s1,?_,?_⟩
  · have:=aUw v U (b:=b) (by omega) (by omega) (aZ m 0 r) s
    rw [show (⟨(),k,aZ m 0 r⟩:S79)=dG k m r from rfl,w1] at this;rw [this];simp only [bHp];rw [X]
  have J:Cv k m r (kk+10) s1:=⟨G.mono (by omega),h.ct.of λf hf=>p f (pr f hf),I,h.ri⟩;have K:FitC s (szB (b - a)+(40 * r'.length+40)) 2->i≠10/\(i=0->FitC s1 (40 * r'.length+40) 1):=λhf=>t1 _ 1 (hf.mono (by omega) (by omega));by_cases c1:i=0
  rotate_left
  · refine .inl ⟨c1,J,w,?_,λhf=>(K hf).1⟩
    rcases H with ⟨a,_⟩ | a | ⟨a,b⟩
    · exact absurd a c1
    · exact .inl a
    · exact .inr ⟨a,by rw [b];exact B⟩
  refine .inr ⟨c1,?_⟩;obtain⟨a2,v1⟩:s1.f3=false/\get s1.f0 (qU a b)=some (aI7 (qU a b) (yL l k.toNat)):=by
    rcases H with ⟨_,a,b⟩ | ⟨a,_⟩ | ⟨a,_⟩
    · exact⟨a,b⟩
    · rw [c1] at a;cases a
    · rw [c1] at a;cases a
  have a4:r'.length<=250:=by have h1:=RiseN.len n;have h2:=RiseN.end_le n;omega
  obtain⟨j,g,y,L,M,z,t,t2⟩:=aM3 G (by omega) a2 ⟨hL.k1,hL.k8⟩ (old:=aZ m 0 r) (aB4 hL n) (by rw [eC];exact a4) ((p _ E.1.symm).trans gT);rw [eC] at t2;have N:bAg g.f0:=λf x hx=>by
    by_cases c:f=wL
    · exact .inl c
    by_cases d:f=rS
    · exact .inr (.inl d)
    rw [z f d c] at hx;exact I f x hx
  have O:∀ f,yI f=true->get g.f0 f=get s1.f0 f:=λf hf=>z f (aGk hf).1 (aGk hf).2;have P:FitC s (szB (b - a)+(40 * r'.length+40)) 2->j≠10:=λhf=>t2 ((K hf).2 c1);rcases t with ⟨rfl,a5,A,n2⟩ | ⟨t,A⟩
  · refine⟨0,g,r',y,⟨L.mono (by omega),⟨λe=>absurd e R,λ_=>A,λe he=>?_⟩,N,n⟩,Kp.trans w M,.inl ⟨rfl,a5,rfl,λf x hx=>?_⟩,P⟩
    · rw [O _ (aD0 hL n he).1]
      rcases T e he with rfl | Q
      · rw [show (jY m a b).f0=qU a b from rfl,v1,W]
        rfl
      · rw [p _ (F e Q)]
        exact h.ct.segs e Q
    · by_cases c:f=wL
      · exact .inl c
      by_cases d:f=rS
      · rw [d,n2] at hx;cases hx
      by_cases e:f=qU a b
      · exact .inr (.inl e)
      rw [z f d c,p f e] at hx;exact .inr (.inr (u f x hx))
  · have hz:j≠0:=by rcases t with ⟨a,_⟩ | ⟨a,_⟩ <;> rw [a] <;> decide
    rw [if_neg hz] at y;refine⟨j,g,r,y,⟨L.mono (by omega),J.ct.of λf hf=>?_,N,h.ri⟩,Kp.trans w M,.inr ?_,P⟩
    · rcases hf with rfl | ⟨e,he,rfl⟩
      · exact A
      · exact O _ (aD0 hL h.ri he).1
    · rcases t with ⟨a,b⟩ | ⟨a,b⟩
      · exact .inl ⟨a,b,rfl⟩
      · exact .inr ⟨a,b,rfl⟩
theorem aIm (h:r.length<=250):dL (dG k m r)=some ((fL 0 r:Int),dG k m r):=by rw [aY4 _ (by show (aZ m 0 r).length<_;rw [eC];omega)];rw [show aCl (dG k m r).f2=aCl (aZ m 0 r) from rfl,aS5]
theorem aAo (h:r.length<=250):cP (dG k m r)=some (aZ m 0 r,dG k m r):=aPo _ (by show (aZ m 0 r).length<=_;rw [eC];omega)
theorem aP6 {x y:Nat} (hr:RiseN 0 r m.length) (he:jY m x y∈aZ m 0 r):y<=fL 0 r:=by
  have key:∀ (r:List Nat) (a:Nat),RiseN a r (fL a r)->∀ e∈aZ m a r,e.f2<=(fL a r:Int):=by intro r a h e he;obtain⟨x,y,_,_,b,rfl⟩:=aBe h e he;show (y:Int)<=_;omega
  have c:RiseN 0 r (fL 0 r):=by have:=(RiseN.app (r:=r) (s:=[]) (a:=0) (n:=m.length)).1 (by rw [List.append_nil];exact hr);exact this.1
  have:=key r 0 c _ he;have b:(jY m x y).f2=(y:Int):=rfl;omega
theorem aKo {b:Nat} (h:Cv k m r kk s) (hL:Lg k m) (hk:kk+10000<4611686018427387904) (B:s.f3=false) (C:CleanC (aZ m 0 r) s.f0) (hr:r.length<250) (u:fL 0 r<b) (hb:b<=m.length) :
    ∃ e s' r',cO (dG k m r) (pc m (fL 0 r) b) s=some (e,dG k m r',s')/\Cv k m r' (kk+1000) s'/\Kp s s' /\
      ((e=0/\s'.f3=false/\r'=r++[b]/\CleanC (aZ m 0 r') s'.f0)\/(e=9/\s'.f3=true/\r'=r)\/(e=10/\s'.f3=false/\r'=r/\CleanC (aZ m 0 r) s'.f0)) /\
      (FitC s (szB (b - fL 0 r)+(40 * (r.length+1)+40)) 2->e≠10):=by
  have hf:=h.few hL;have hle:=hL.le;have M:(pc m (fL 0 r) b).length=b - fL 0 r:=aAf hb;have hx:=List.getElem?_eq_getElem (l:=pc m (fL 0 r) b) (i:=0) (by omega);have N:=(aDe hL.run (fL 0 r) b).of 0 _ hx;have D:jY m (fL 0 r) b∉aZ m 0 r:=λhe=>by have:=aP6 h.ri he;omega
  have v:RiseN 0 (r++[b]) m.length:=RiseN.app.2 ⟨((RiseN.app (s:=[])).1 (by rw [List.append_nil];exact h.ri)).1,u,hb⟩;have j:aZ m 0 (r++[b])=aZ m 0 r++[jY m (fL 0 r) b]:=by rw [aDz];rfl
  obtain⟨O,s1,E,n⟩:=aRp (r':=r++[b]) h hL (by omega) B C u hb (.inl rfl) v (by simp) D (λe he=>by
    rw [j] at he;rcases List.mem_append.1 he with he | he
    · exact .inr he
    · exact .inl (List.mem_singleton.1 he))
  rw [List.length_append,List.length_singleton] at n;have F:cO (dG k m r) (pc m (fL 0 r) b) s=eT (pc m (fL 0 r) b) s k (aZ m 0 r) false:=by unfold cO;rw [if_pos (by simp only [decide_eq_true_eq];omega),show at_ (pc m (fL 0 r) b) 0=_ from hx];simp only [bHp];rw [aIm (by omega)];simp only [bHp];rw [show ((pc m (fL 0 r) b)[0].f0 != (fL 0 r:Int))=false by simp only [bne_eq_false_iff_eq];omega];rfl
  rw [F];unfold eT;rw [if_neg (by simp),if_neg (by rw [eC];simp only [decide_eq_true_eq];omega),show (⟨(),k,aZ m 0 r⟩:S79)=dG k m r from rfl,E];simp only [bHp];rcases n with ⟨c1,y,A,n,G⟩ | ⟨c1,P,d,g,H,p,q,I,t2⟩
  · rw [if_neg (by simpa using c1)]
    unfold eU;rw [show (⟨(),(dG k m r).f1,(dG k m r).f2⟩:S79)=dG k m r from rfl,show (⟨s1.f0,s1.f1,s1.f2,s1.f3,s1.f4⟩:S77)=s1 from rfl];rcases n with ⟨rfl,off⟩ | ⟨rfl,J⟩
    · rw [yA (.inr rfl)]
      exact⟨9,s1,r,rfl,y.mono (by omega),A,.inr (.inl ⟨rfl,off,rfl⟩),λ_=>by decide⟩
    · obtain⟨e',s',w,i,kp,o⟩:=aBv y hL (by omega) J (e:=10) (by decide) (by decide)
      rw [w];refine⟨e',s',r,rfl,i.mono (by omega),Kp.trans A kp,?_,λhf=>absurd rfl (G hf)⟩;rcases o with ⟨a,b,c⟩ | ⟨a,b⟩
      · exact .inr (.inr ⟨a,b,rfl,c⟩)
      · exact .inr (.inl ⟨a,b,rfl⟩)
  · rw [if_pos (by simpa using c1)]
    have K:bJ (dG k m r).f2=some (aZ m 0 r):=by
      have:=aAo (k:=k) (m:=m) (r:=r) (by omega);unfold cP at this;cases hq:bJ (dG k m r).f2 with
      | none=>rw [hq] at this;cases this
      | some z=>rw [hq] at this;simp only [bHp,Option.some.injEq,Prod.mk.injEq] at this;rw [this.1]
    rw [K];simp only [bHp];rw [bH (by rw [eC];simp only [List.length_singleton];omega), ← j,H];simp only [bHp];unfold eU;rw [show (⟨(),(dG k m g).f1,(dG k m g).f2⟩:S79)=dG k m g from rfl,show (⟨d.f0,d.f1,d.f2,d.f3,d.f4⟩:S77)=d from rfl];rcases I with ⟨rfl,t,rfl,L⟩ | ⟨rfl,off,rfl⟩ | ⟨rfl,t,rfl⟩
    · rw [yA (.inl rfl)]
      refine⟨0,d,r++[b],rfl,p.mono (by omega),q,.inl ⟨rfl,t,rfl,λf x hx=>?_⟩,λ_=>by decide⟩;rcases L f x hx with rfl | rfl | hg
      · exact aKw _
      · exact aDf hL v (.inr ⟨jY m (fL 0 r) b,by rw [j];simp,rfl⟩)
      · rw [j]
        unfold tZ at hg ⊢;rw [List.any_append];cases hq:(f==rS) with
        | true=>rw [hq] at hg;cases hg
        | false =>
          rw [hq] at hg;cases hs:yI f with
          | false=>rfl
          | true =>
            rw [hs] at hg;simp only [Bool.false_or,Bool.true_and,Bool.not_eq_false'] at hg ⊢;rw [hg,Bool.true_or]
    · rw [yA (.inr rfl)]
      exact⟨9,d,g,rfl,p.mono (by omega),q,.inr (.inl ⟨rfl,off,rfl⟩),λ_=>by decide⟩
    · obtain⟨e',s',w,i,kp,o⟩:=aBv p hL (by omega) t (e:=10) (by decide) (by decide)
      rw [w];refine⟨e',s',g,rfl,i.mono (by omega),Kp.trans q kp,?_,λhf=>absurd rfl (t2 hf)⟩;rcases o with ⟨a,b,c⟩ | ⟨a,b⟩
      · exact .inr (.inr ⟨a,b,rfl,c⟩)
      · exact .inr (.inl ⟨a,b,rfl⟩)
theorem aSt (h:Cv k m r kk s) (hL:Lg k m) (hk:kk+5000<4611686018427387904) (a:s.f3=false) (hr:r.length<250) :
    ∃ e s',cO (dG k m r) [] s=some (e,dG k m r,s')/\Cv k m r (kk+1000) s'/\Kp s s'/\((e=1/\s'.f3=false/\CleanC (aZ m 0 r) s'.f0)\/(e=9/\s'.f3=true)):=by
  obtain⟨e',s',w,i,kp,o⟩:=aBv h hL hk a (e:=1) (by decide) (by decide);refine⟨e',s',?_,i.mono (by omega),kp,o⟩;unfold cO;rw [if_neg (by simp)];unfold eT;rw [if_neg (by simp),if_neg (by show ¬ decide ((250:Int)<=((aZ m 0 r).length:Int))=true;rw [eC];simp only [decide_eq_true_eq];omega)];unfold dM;rw [aNu (λe he=>by cases he) _ (by simp),show WL (⟨(),(dG k m r).f1,(dG k m r).f2⟩:S79).f1 []=([],1) from rfl];simp only [bHp];rw [if_pos (by decide)];simp only [bHp];rw [if_neg (by decide)];unfold eU;rw [show (⟨(),(⟨(),(dG k m r).f1,(dG k m r).f2⟩:S79).f1,(⟨(),(dG k m r).f1,(dG k m r).f2⟩:S79).f2⟩:S79)=dG k m r from rfl,show (⟨s.f0,s.f1,s.f2,s.f3,s.f4⟩:S77)=s from rfl,w];rfl
def aSy (f:S26) (m:List S61):Nat->List Nat->Nat
  | _,[]=>0
  | a,b::r=>(if xC f (ckL (pc m a b) 0)=true then (fT (pcs 64 (pc m a b)) 0).countP (xC f) else 0)+aSy f m b r
theorem aTm {f:S26} {es:List S46} {i a b q:Nat} {acc:List S61} (hi:i<es.length) (t:es.length<=250) (hL:Lg k m) (h:s.f3=false) (hs:SI kk s) (hx:es[i]?=some (jY m a b)) (hg:get s.f0 (qU a b)=some (aNc k m (jY m a b))) (j:a<b) (hb:b<=m.length) (u:acc.length<=a) (v:q<=16 * i) :
    cQ ⟨(),k,es⟩ f s acc (q:Int) (i:Int)=some (.inl (acc++((pc m a b).filter (kH f)).map dE,((q+(if xC f (ckL (pc m a b) 0)=true then (fT (pcs 64 (pc m a b)) 0).countP (xC f) else 0):Nat):Int),((i+1:Nat):Int))):=by
  have hm:=hL.le;have d:=hL.seg j hb;have e:=aDe hL.run a b;have hlen:=aAf (m:=m) (a:=a) (b:=b) hb;obtain⟨c2,c3⟩:=aL9 e (by omega) 0;have o:xC f ⟨0,0,(a:Int),(b:Int) - 1,aFb (pc m a b),aAb (pc m a b),[],[]⟩=xC f (ckL (pc m a b) 0):=by unfold xC aFb aAb;rw [c2,c3,hlen];simp only;rw [show (a:Int)+((b - a:Nat):Int) - 1=(b:Int) - 1 by omega]
  have w:=List.length_filter_le (kH f) (pc m a b);have x:=List.countP_le_length (p:=xC f) (l:=fT (pcs 64 (pc m a b)) 0);have y:=d.cks.2.1;have g:∀ (l:List S61) (n:Int),fW (i:Int) l n=some (.inl (l,n,((i+1:Nat):Int))):=λl n=>by unfold fW;rw [lt_,w64 (by omega) (by omega)];rfl
  unfold cQ;rw [if_pos (by simp only [decide_eq_true_eq];omega),bA rfl hx];simp only [bHp];rw [show (jY m a b).f1=(a:Int) from rfl,show (jY m a b).f2=(b:Int) from rfl,show (jY m a b).f3=aFb (pc m a b) from rfl,show (jY m a b).f4=aAb (pc m a b) from rfl,show (jY m a b).f0=qU a b from rfl,lt_,nD (n:=(b:Int) - 1) (by omega) (by omega),aT3,o];simp only [bHp];by_cases c:xC f (ckL (pc m a b) 0)=true
  · have z:=aPc a b
    have r:aHt s (qU a b)=(yL (pc m a b) k.toNat,0):=by unfold aHt;rw [if_pos (aD9 (aG9 (by omega) (by omega)) h),hg];show ((yL (pc m ((a:Int)).toNat ((b:Int)).toNat) k.toNat),(0:Int))=_;rw [Int.toNat_natCast,Int.toNat_natCast]
    rw [if_pos c,if_neg (by simp [c]),hs.Read (by omega),r];simp only [bHp];rw [if_neg (by simp),aQ8 d];simp only [bHp];rw [if_neg (by simp),aNr d e (by omega)];simp only [bHp];rw [if_neg (by simp),if_neg (by simp only [bne_iff_ne,ne_eq,Decidable.not_not];omega),show mY (some (aAe (pc m a b) k))=some k from rfl];simp only [bHp];unfold fX;rw [if_neg (by simp),aWv d];simp only [bHp];rw [if_neg (by simp),bH (by rw [List.length_map];omega),lt_,w64 (by omega) (by omega),g];rfl
  · rw [if_neg c,if_pos (by simp [c]),g,aPk (by simpa using c)]
    simp
theorem aLn (f:S26) {es:List S46} (d:es.length<=250) (hL:Lg k m) (g:s.f3=false) (hs:SI kk s) (h:∀ e∈es,get s.f0 e.f0=some (aNc k m e)):∀ (y:List Nat) (i a q:Nat) (acc:List S61),es.drop i=aZ m a y->RiseN a y m.length->acc.length<=a->q<=16 * i->i+y.length=es.length ->
    loop (λt:List S61×Int×Int=>cQ ⟨(),k,es⟩ f s t.1 t.2.1 t.2.2) (acc,(q:Int),(i:Int))=some (.inl (acc++((pc m a (fL a y)).filter (kH f)).map dE,((q+aSy f m a y:Nat):Int)))
  | [],i,a,q,acc,hd,hr,ha,hq,hi=>by
    refine bE ?_;show cQ ⟨(),k,es⟩ f s acc (q:Int) (i:Int)=_;unfold cQ;rw [if_neg (by simp only [decide_eq_true_eq];simp only [List.length_nil] at hi;omega)];have:pc m a (fL a [])=[]:=by unfold pc;rw [show fL a [] - a=0 by show a - a=0;omega,List.take_zero]
    rw [this];simp [aSy]
  | b::y,i,a,q,acc,hd,hr,ha,hq,hi=>by
    rw [List.length_cons] at hi;have hm:=hL.le;have j:=hr.1;have n:=RiseN.end_le hr.2;have hx:es[i]?=some (jY m a b):=by have:=congrArg (λl=>l[0]?) hd;simpa [aZ] using this
    have hd':es.drop (i+1)=aZ m b y:=by have:=congrArg (List.drop 1) hd;rw [List.drop_drop] at this;simpa [aZ] using this
    have o:=(hL.seg j (show b<=m.length by omega)).cks.2.1;have r:=List.countP_le_length (p:=xC f) (l:=fT (pcs 64 (pc m a b)) 0);have u:=List.length_filter_le (kH f) (pc m a b);have hlen:=aAf (m:=m) (a:=a) (b:=b) (by omega);rw [bZ (b:=λt:List S61×Int×Int=>cQ ⟨(),k,es⟩ f s t.1 t.2.1 t.2.2) (aTm (by omega) d hL g hs hx (h _ (List.mem_of_getElem? hx)) j (by omega) ha hq)];rw [aLn f d hL g hs h y (i+1) b _ _ hd' hr.2 (by rw [List.length_append,List.length_map];omega) (by split <;> omega) (by omega)];rw [show fL a (b::y)=fL b y from rfl, ← aQm (m:=m) (a:=a) (b:=b) (c:=fL b y) (by omega) n.1,List.filter_append,List.map_append,List.append_assoc];rw [show aSy f m a (b::y)=(if xC f (ckL (pc m a b) 0)=true then (fT (pcs 64 (pc m a b)) 0).countP (xC f) else 0)+aSy f m b y from rfl,Nat.add_assoc]
theorem aNt (f:S26) (h:Cv k m r kk s) (hL:Lg k m) (a:s.f3=false):iJ (dG k m r) f s=some (((m.take (fL 0 r)).filter (kH f)).map dE,(aSy f m 0 r:Int),0,dG k m r,s):=by have hf:=h.few hL;have:=aLn f (es:=aZ m 0 r) (by rw [eC];omega) hL a h.si h.ct.segs r 0 0 0 [] (by rw [List.drop_zero]) h.ri (Nat.le_refl _) (Nat.le_refl _) (by rw [eC];omega);rw [List.nil_append,aM1,Nat.zero_add] at this;unfold iJ dG;rw [show (([]:List S61),(0:Int),(0:Int))=([],((0:Nat):Int),((0:Nat):Int)) from rfl,this];rfl
end
section
variable {k:Int} {m:List S61} {r:List Nat} {kk:Nat} {s:S77}
theorem aQn (hL:Lg k m) {a b:Nat}:∀ e∈pc m a b,(a:Int)<=e.f0/\e.f0<(b:Int) /\ -1099511627776<=e.f2/\e.f2<=1099511627776:=λe he=>by
  obtain⟨i,hi⟩:=List.getElem?_of_mem he;have c:=(aDe hL.run a b).of i e hi;have d:=(List.getElem?_eq_some_iff.1 hi).1;have f:=xJ ((aDe hL.run a b).fm e he);have g:(pc m a b).length<=b - a:=by unfold pc;simp;omega
  omega
theorem aXm (hL:Lg k m) {a d n:Nat} (f:a<=d) (g:d<=n):(m.take n).filter (kH ⟨(a:Int),(d:Int),-1099511627776,1099511627776⟩)=pc m a d:=by
  rw [← aM1, ← aQm (m:=m) (a:=0) (b:=a) (c:=n) (by omega) (by omega), ← aQm (m:=m) (a:=a) (b:=d) (c:=n) f g,List.filter_append,List.filter_append];rw [aK5 (l:=pc m 0 a) (λe he=>by
    have:=aQn hL e he;unfold kH;simp only [Bool.and_eq_false_iff,decide_eq_false_iff_not];omega)]
  rw [aK5 (l:=pc m d n) (λe he=>by
    have:=aQn hL e he;unfold kH;simp only [Bool.and_eq_false_iff,decide_eq_false_iff_not];omega)]
  rw [List.nil_append,List.append_nil,List.filter_eq_self];intro e he;have:=aQn hL e he;unfold kH;simp only [Bool.and_eq_true,decide_eq_true_eq];omega
theorem aNl (hr:r.length<=250) {i:Int} (hi:i<0\/(r.length:Int) - 1<=i) (s:S77):cE (dG k m r) i s=some (1,dG k m r,s):=by
  unfold cE eS;by_cases c:i<0
  · rw [if_pos (by simpa using c),if_pos rfl]
  · rw [if_neg (by simpa using c),lt_,show ((dG k m r).f2.length:Int)=(r.length:Int) by show ((aZ m 0 r).length:Int)=_;rw [eC],w64 (by omega) (by omega),if_pos (by simp only [decide_eq_true_eq];omega)]
theorem aFm {x y:List Nat} {b d:Nat} (h:Cv k m (x++b::d::y) kk s) (hL:Lg k m) (hk:kk+20000<4611686018427387904) (M:s.f3=false) (N:CleanC (aZ m 0 (x++b::d::y)) s.f0) :
    ∃ e s' r',cE (dG k m (x++b::d::y)) (x.length:Int) s=some (e,dG k m r',s')/\Cv k m r' (kk+2000) s'/\Kp s s' /\
      ((e=0/\s'.f3=false/\r'=x++d::y/\CleanC (aZ m 0 r') s'.f0)\/(e=9/\s'.f3=true/\(r'=x++b::d::y\/r'=x++d::y))\/(e=10/\s'.f3=false/\r'=x++b::d::y/\CleanC (aZ m 0 r') s'.f0)) /\
      (FitC s (szB m.length+(40 * (x++b::d::y).length+40)) 2->e≠10):=by
  obtain⟨r,hr⟩:∃ r,r=x++b::d::y:=⟨_,rfl⟩;obtain⟨r',B⟩:∃ r',r'=x++d::y:=⟨_,rfl⟩;obtain⟨a,C⟩:∃ a,a=fL 0 x:=⟨_,rfl⟩;have hlen:r.length=x.length+(y.length+2):=by rw [hr];simp
  have d0:r'.length=x.length+(y.length+1):=by rw [B];simp
  have hf:=h.few hL;have hle:=hL.le;have O:=h.ri;obtain⟨rx,rb,rd,ry⟩:=RiseN.app.1 O;rw [← C] at rx rb;have a2:RiseN 0 r' m.length:=by rw [B];exact RiseN.app.2 ⟨by rw [← C];exact rx,by rw [← C];omega,ry⟩
  have A:aZ m 0 r=aZ m 0 x++jY m a b::jY m b d::aZ m d y:=by rw [hr,aDz, ← C];rfl
  have P:aZ m 0 r'=aZ m 0 x++jY m a d::aZ m d y:=by rw [B,aDz, ← C];rfl
  have d1:fL 0 r=fL d y:=by rw [hr,aOg];rfl
  have d2:=RiseN.end_le ry;rw [← hr] at h hf N O ⊢;rw [← B];have a3:jY m a d∉aZ m 0 r:=λhe=>by
    rw [A] at he;rcases List.mem_append.1 he with he | he
    · obtain⟨u,v,h1,h2,h3,G⟩:=aBe rx _ he
      have h5:=congrArg S46.f2 G;have H:(d:Int)=(v:Int):=h5;omega
    · rcases List.mem_cons.1 he with he | he
      · have H:(d:Int)=(b:Int):=congrArg S46.f2 he
        omega
      · rcases List.mem_cons.1 he with he | he
        · have H:(a:Int)=(b:Int):=congrArg S46.f1 he
          omega
        · obtain⟨u,v,h1,h2,h3,G⟩:=aBe ry _ he
          have H:(a:Int)=(u:Int):=congrArg S46.f1 G;omega
  have a8:∀ e∈aZ m 0 r',e=jY m a d\/e∈aZ m 0 r:=λe he=>by
    rw [P] at he;rw [A];rcases List.mem_append.1 he with he | he
    · exact .inr (List.mem_append.2 (.inl he))
    · rcases List.mem_cons.1 he with he | he
      · exact .inl he
      · exact .inr (List.mem_append.2 (.inr (List.mem_cons_of_mem _ (List.mem_cons_of_mem _ he))))
  have D:(aZ m 0 x).length=x.length:=eC ..;have a9:(aZ m d y).length=y.length:=eC ..;have b1:(aZ m 0 r).length=r.length:=eC ..;have b2:(aZ m 0 r)[x.length]?=some (jY m a b):=by rw [A,List.getElem?_append_right (by omega),D,Nat.sub_self];rfl
  have b3:(aZ m 0 r)[x.length+1]?=some (jY m b d):=by rw [A,List.getElem?_append_right (by omega),D,show x.length+1 - x.length=1 by omega];rfl
  have b4:d<=m.length:=by omega
  obtain⟨e1,s1,w1,I⟩:=aRp (r':=r') (a:=a) (b:=d) (l:=(pc m a d).map dE) h hL (by omega) M N (by omega) b4 (.inr rfl) a2 (by rw [B];simp) a3 a8;have Q:FitC s (szB m.length+(40 * r.length+40)) 2->FitC s (szB (d - a)+(40 * r'.length+40)) 2:=λE=>E.mono (by have:=aJ5 (a:=d - a) (b:=m.length) (by omega);omega) (Nat.le_refl _);have b6:cE (dG k m r) (x.length:Int) s=(dM (dG k m r) ((pc m a d).map dE) s).bind λf=>(if (f.2.1==0)=true then ((kN f.2.2.1.f2 0 (x.length:Int)).bind λY=>(ltt (IntKind.i64.wrap ((x.length:Int)+2)) λZ=>((kN f.2.2.1.f2 Z (f.2.2.1.f2.length:Int)).bind λa0=>((aFz Y [f.1] a0).bind λa1=>((cR f.2.2.1 a1 f.2.2.2).bind λz=>(cM z.2.2.f0 z.2.2.f1 z.2.2.f2 z.2.2.f3 z.2.2.f4 z.2.1.f1 z.2.1.f2 z.1)))))) else (cM f.2.2.2.f0 f.2.2.2.f1 f.2.2.2.f2 f.2.2.2.f3 f.2.2.2.f4 f.2.2.1.f1 f.2.2.1.f2 f.2.1)):=by have R:=aNt (⟨(a:Int),(d:Int),-1099511627776,1099511627776⟩:S26) h hL M;rw [aXm hL (by omega) (by omega)] at R;unfold cE;rw [if_neg (by simp only [decide_eq_true_eq];omega),lt_,show ((dG k m r).f2.length:Int)=(r.length:Int) by show ((aZ m 0 r).length:Int)=_;rw [b1],w64 (by omega) (by omega),show decide ((r.length:Int) - 1<=(x.length:Int))=false by simp only [decide_eq_false_iff_not];omega];unfold eS;rw [if_neg (by simp),show at_ (dG k m r).f2 (x.length:Int)=some (jY m a b) from bA rfl b2,bHp,lt_,w64 (by omega) (by omega),show at_ (dG k m r).f2 ((x.length:Int)+1)=some (jY m b d) from bA (n:=x.length+1) (by omega) b3,bHp];unfold iY;rw [show (jY m b d).f2=(d:Int) from rfl,show (jY m a b).f1=(a:Int) from rfl,lt_,nD (by omega) (by omega),if_neg (by simp only [decide_eq_true_eq];omega),R,bHp,if_neg (by simp)]
  rw [b6,w1,bHp];rcases I with ⟨c1,S,T,I,t1⟩ | ⟨c1,e2,g,j,w2,J,F,o2,t2⟩
  · rw [if_neg (by simpa using c1)]
    unfold cM;rw [if_neg (by simpa using c1)];unfold cN;rw [show (⟨(),(dG k m r).f1,(dG k m r).f2⟩:S79)=dG k m r from rfl,show (⟨s1.f0,s1.f1,s1.f2,s1.f3,s1.f4⟩:S77)=s1 from rfl];rcases I with ⟨rfl,off⟩ | ⟨rfl,c0⟩
    · rw [yA (.inr rfl)]
      exact⟨9,s1,r,rfl,S.mono (by omega),T,.inr (.inl ⟨rfl,off,.inl rfl⟩),λ_=>by decide⟩
    · obtain⟨e',s',w,i,kp,o⟩:=aBv S hL (by omega) c0 (e:=10) (by decide) (by decide)
      rw [w];refine⟨e',s',r,rfl,i.mono (by omega),Kp.trans T kp,?_,λE=>absurd rfl (t1 (Q E))⟩;rcases o with ⟨p,q,c⟩ | ⟨p,q⟩
      · exact .inr (.inr ⟨p,q,rfl,c⟩)
      · exact .inr (.inl ⟨p,q,.inl rfl⟩)
  · have c2:kN (dG k m r).f2 0 (x.length:Int)=some (aZ m 0 x):=by have:=nY (xs:=aZ m 0 r) (l:=0) (u:=x.length) (by omega) (by omega);rw [List.drop_zero,A,List.take_left' D, ← A] at this;exact this
    have c3:kN (dG k m r).f2 ((x.length:Int)+2) ((dG k m r).f2.length:Int)=some (aZ m d y):=by have:=nY (xs:=aZ m 0 r) (l:=x.length+2) (u:=(aZ m 0 r).length) (by omega) (by omega);rw [List.take_length] at this;rw [show ((x.length:Int)+2)=((x.length+2:Nat):Int) by omega];refine this.trans ?_;rw [A, ← List.drop_drop,List.drop_left' D];rfl
    have c4:aFz (aZ m 0 x) [jY m a d] (aZ m d y)=some (aZ m 0 r'):=by unfold aFz;rw [bH ⟨by simp,by rw [D,a9];simp only [List.length_singleton];omega⟩,P,List.append_assoc];rfl
    rw [if_pos (by simpa using c1),c2,bHp,lt_,w64 (by omega) (by omega),c3,bHp,c4,bHp,w2,bHp];have K:∀ e:Int,(e=0\/e=9)->∀ (c:S79) (t:S77),cN t.f0 t.f1 t.f2 t.f3 t.f4 c.f1 c.f2 e=some (e,c,t):=λe he c t=>by unfold cN;rw [show (⟨(),c.f1,c.f2⟩:S79)=c from rfl,show (⟨t.f0,t.f1,t.f2,t.f3,t.f4⟩:S77)=t from rfl,yA he];rfl
    unfold cM;rcases o2 with ⟨rfl,L,rfl,d5⟩ | ⟨rfl,off,rfl⟩ | ⟨rfl,L,rfl⟩
    · obtain⟨e3,U,w3,W,X,_,o3⟩:=aJ3 J hL (by omega) L
      rw [if_pos (by simp),show (⟨(),(dG k m j).f1,(dG k m j).f2⟩:S79)=dG k m j from rfl,show (⟨g.f0,g.f1,g.f2,g.f3,g.f4⟩:S77)=g from rfl,w3,bHp];rcases o3 with ⟨rfl,c7,c8⟩ | ⟨rfl,c9⟩
      · rw [K 0 (.inl rfl)]
        exact⟨0,U,j,rfl,W.mono (by omega),Kp.trans F X,.inl ⟨rfl,c7,rfl,c8⟩,λ_=>by decide⟩
      · rw [K 9 (.inr rfl)]
        exact⟨9,U,j,rfl,W.mono (by omega),Kp.trans F X,.inr (.inl ⟨rfl,c9,.inr rfl⟩),λ_=>by decide⟩
    · rw [if_neg (by simp),K 9 (.inr rfl)]
      exact⟨9,g,j,rfl,J.mono (by omega),F,.inr (.inl ⟨rfl,off,.inl rfl⟩),λ_=>by decide⟩
    · rw [if_neg (by simp)]
      unfold cN;rw [show (⟨(),(dG k m j).f1,(dG k m j).f2⟩:S79)=dG k m j from rfl,show (⟨g.f0,g.f1,g.f2,g.f3,g.f4⟩:S77)=g from rfl];obtain⟨e',s',w,i,kp,o⟩:=aBv J hL (by omega) L (e:=10) (by decide) (by decide);rw [w];refine⟨e',s',j,rfl,i.mono (by omega),Kp.trans F kp,?_,λE=>absurd rfl (t2 (Q E))⟩;rcases o with ⟨p,q,c⟩ | ⟨p,q⟩
      · exact .inr (.inr ⟨p,q,rfl,c⟩)
      · exact .inr (.inl ⟨p,q,.inl rfl⟩)
theorem aFs (h:Cv k m r kk s) (hL:Lg k m) (hk:kk+5000<4611686018427387904) (a:s.f3=false) :
    ∃ e s',lY s k=some (if e=0 then some (dG k m r) else none,e,s')/\Cv k m r (kk+500) s'/\Kp s s'/\(∀ f x,get s'.f0 f=some x->get s.f0 f=some x)/\((e=0/\s'.f3=false/\CleanC (aZ m 0 r) s'.f0)\/(e=9/\s'.f3=true)):=by
  have hf:=h.few hL;obtain⟨g,j⟩:1<=k/\k<=8:=⟨hL.k1,hL.k8⟩;obtain⟨e,s',w,i,kp,dd,o⟩:=aJ3 h hL hk a;refine⟨e,s',?_,i,kp,dd,o⟩;have d:nO s k (aZ m 0 r)=some (if e=0 then some (dG k m r) else none,e,s'):=by
    unfold nO;rw [show (⟨(),k,aZ m 0 r⟩:S79)=dG k m r from rfl,w,bHp];by_cases c:e=0
    · rw [if_neg (by simp [c]),if_pos c,c]
    · rw [if_pos (by simpa using c),if_neg c]
  unfold lY;rw [if_neg (by simp only [decide_eq_true_eq];omega),show decide (8<k)=false by simp only [decide_eq_false_iff_not];omega];unfold qQ;rw [if_neg (by simp),show ([99,97,116]:List UInt8)=wL from rfl,h.si.Read (by decide),bHp];by_cases c:r=[]
  · have b:aHt s wL=([],5):=by unfold aHt;rw [if_pos (aD9 aIq a),h.ct.cat0 c]
    rw [b];subst c;rw [if_pos (by rfl)];exact d
  · have b:aHt s wL=(kC 99 (aFy k (aZ m 0 r)),0):=by unfold aHt;rw [if_pos (aD9 aIq a),h.ct.cat c];rfl
    rw [b,if_neg (by simp),if_pos (by simp),aXv ⟨g,j⟩ (aB4 hL h.ri) (by rw [eC];omega),bHp,if_neg (by simp)];exact d
end
def aA2 (k:Int) (m:List S61) (r:List Nat):List S98:=(if r=[] then [] else [aI7 wL (aW3 k m r)])++(aZ m 0 r).map (aNc k m)
theorem aI0 {m:List S61}:∀ {r:List Nat} {a n:Nat},RiseN a r n->n<=250->((aZ m a r).map λe=>e.f0).Nodup
  | [],_,_,_,_=>List.nodup_nil
  | b::r,a,n,h,hn=>by have f:=h.1;have g:=RiseN.end_le h.2;refine List.nodup_cons.2 ⟨λhm=>?_,aI0 h.2 hn⟩;obtain⟨e,he,q⟩:=List.mem_map.1 hm;obtain⟨x,y,i,j,k,rfl⟩:=aBe h.2 e he;have:=(aPb (a:=x) (b:=y) (c:=a) (d:=b) (by omega) (by omega) (by omega) (by omega) q).1;omega
theorem aA5 {α β:Type} (f:α->β):∀ {l:List α},(l.map f).Nodup->l.Nodup
  | [],_=>List.nodup_nil
  | x::l,h=>by obtain⟨a,b⟩:=List.nodup_cons.1 h;exact List.nodup_cons.2 ⟨λhm=>a (List.mem_map.2 ⟨x,hm,rfl⟩),aA5 f b⟩
section
variable {k:Int} {m:List S61} {r:List Nat} {kk:Nat} {s:S77}
theorem aMl (hL:Lg k m) (hr:RiseN 0 r m.length):(aA2 k m r).Nodup:=by
  refine aA5 S98.f0 ?_;have a:=aI0 (m:=m) hr hL.le;have b:((aZ m 0 r).map (aNc k m)).map S98.f0=(aZ m 0 r).map λe=>e.f0:=by rw [List.map_map];rfl
  unfold aA2;rw [List.map_append,b];split
  · exact a
  · refine List.nodup_cons.2 ⟨λhm=>?_,a⟩
    obtain⟨e,he,q⟩:=List.mem_map.1 hm;exact (aGk (aD0 hL hr he).1).2 q
theorem Cv.mem (h:Cv k m r kk s) (hL:Lg k m) (b:CleanC (aZ m 0 r) s.f0) (x:S98):x∈s.f0↔x∈aA2 k m r:=by
  constructor
  · intro hx
    have hg:=aMv h.si.rise hx;have a:=b _ _ hg;unfold aA2;rw [List.mem_append];rcases h.dom _ _ hg with e | e | e
    · by_cases c:r=[]
      · rw [e,h.ct.cat0 c] at hg;cases hg
      · rw [e,h.ct.cat c] at hg
        cases hg;rw [if_neg c];exact .inl List.mem_cons_self
    · rw [e,aI8] at a;cases a
    · unfold tZ at a
      rw [e] at a;simp only [Bool.or_eq_false_iff,Bool.true_and,Bool.not_eq_false'] at a;obtain⟨en,he,q⟩:=List.any_eq_true.1 a.2;have d:en.f0=x.f0:=by simpa using q
      rw [← d,h.ct.segs en he] at hg;cases hg;exact .inr (List.mem_map.2 ⟨en,he,rfl⟩)
  · intro hx
    unfold aA2 at hx;rw [List.mem_append] at hx;rcases hx with hx | hx
    · split at hx
      · cases hx
      · rename_i c
        obtain rfl:=List.mem_singleton.1 hx;exact (zD (h.ct.cat c)).1
    · obtain⟨e,he,rfl⟩:=List.mem_map.1 hx
      exact (zD (h.ct.segs e he)).1
theorem Cv.perm (h:Cv k m r kk s) (hL:Lg k m) (a:CleanC (aZ m 0 r) s.f0):s.f0.Perm (aA2 k m r) :=
  (List.perm_ext_iff_of_nodup (aA5 S98.f0 (aC8 h.si.rise)) (aMl hL h.ri)).2 λx=>h.mem hL a x
theorem Cv.count (h:Cv k m r kk s) (hL:Lg k m) (a:CleanC (aZ m 0 r) s.f0):s.f0.length=(if r=[] then 0 else 1)+r.length:=by rw [(h.perm hL a).length_eq];unfold aA2;rw [List.length_append,List.length_map,eC];split <;> rfl
theorem aLo (hL:Lg k m):∀ {r:List Nat} {a:Nat},RiseN a r m.length->used ((aZ m a r).map (aNc k m))<=r.length * szB m.length
  | [],_,_=>Nat.zero_le _
  | b::r,a,h=>by
    have c:=h.1;have d:=RiseN.end_le h.2;have ih:=aLo hL h.2;have hs:=(hL.seg c (show b<=m.length by omega)).size;have hm:=aJ5 (a:=(pc m a b).length) (b:=m.length) (by rw [aAf (by omega)];omega);show used (aNc k m (jY m a b)::(aZ m b r).map (aNc k m))<=(r.length+1) * _;rw [vE,Nat.add_mul];have e:(aNc k m (jY m a b)).f1.length=(yL (pc m a b) k.toNat).length:=by show (yL (pc m ((a:Int)).toNat ((b:Int)).toNat) k.toNat).length=_;rw [Int.toNat_natCast,Int.toNat_natCast]
    rw [e];omega
theorem Cv.used (h:Cv k m r kk s) (hL:Lg k m) (a:CleanC (aZ m 0 r) s.f0):used s.f0<=40 * r.length+40+r.length * szB m.length:=by
  have hf:=h.few hL;have hu:P.used s.f0=P.used (aA2 k m r):=by show (s.f0.map λx=>x.f1.length).sum=((aA2 k m r).map λx=>x.f1.length).sum;exact ((h.perm hL a).map _).sum_nat
  have b:=aLo hL h.ri;rw [hu];unfold aA2;rw [vD];have c:P.used (if r=[] then [] else [aI7 wL (aW3 k m r)])<=40 * r.length+40:=by
    split
    · exact Nat.zero_le _
    · have:=aN1 ⟨hL.k1,hL.k8⟩ (aB4 hL h.ri) (by rw [eC];omega)
      rw [eC] at this;show (aW3 k m r).length+0<=_;exact this
  omega
structure Sv (k:Int) (m:List S61) (r:List Nat) (R:Int) (kk:Nat) (s:S77):Prop where
  ctv:Cv k m r kk s
  cl:CleanC (aZ m 0 r) s.f0
  f1:s.f1=R
  f2:s.f2=0
  f3:s.f3=false
theorem Sv.mono {R:Int} {a:Nat} (h:Sv k m r R kk s) (hk:kk<=a):Sv k m r R a s:=⟨h.ctv.mono hk,h.cl,h.f1,h.f2,h.f3⟩
theorem aTz (k:Int) (m:List S61) {R:Int} (h:1<=R) (a:R<=16777216):Sv k m [] R 0 (onS [] R 0) :=
  ⟨⟨bAl h a,⟨λ_=>rfl,λh=>absurd rfl h,λe he=>(by cases he)⟩,λf x hx=>(by cases hx),Nat.zero_le _⟩,λf x hx=>(by cases hx),rfl,rfl,rfl⟩
theorem Sv.fit {R:Int} (h:Sv k m r R kk s) (hL:Lg k m) {c:Nat} (hc:c<=r.length+1) (a:((r.length+1) * szB m.length+80 * (r.length+2):Nat)<=R):FitC s (szB m.length+(40 * c+40)) 2:=by
  have d:=h.ctv.used hL h.cl;have b:=h.ctv.count hL h.cl;have e:=(h.ctv.few hL).1;refine⟨?_,?_⟩
  · rw [h.f1]
    rw [Nat.add_mul] at a;omega
  · rw [b];split <;> omega
theorem aRa {R:Int} {b:Nat} (h:Sv k m r R kk s) (hL:Lg k m) (hk:kk+20000<4611686018427387904) (hr:r.length<200) (d:fL 0 r<b) (hb:b<=m.length) (f:((r.length+1) * szB m.length+80 * (r.length+2):Nat)<=R) :
    ∃ s',cO (dG k m r) (pc m (fL 0 r) b) s=some (0,dG k m (r++[b]),s')/\Sv k m (r++[b]) R (kk+1000) s':=by
  obtain⟨e,s',r',w,C,kp,o,ft⟩:=aKo h.ctv hL (by omega) h.f3 h.cl (by omega) d hb;obtain⟨g,i⟩:=kp.2 h.f2 h.f3;rcases o with ⟨rfl,on,rfl,cl⟩ | ⟨rfl,off,_⟩ | ⟨rfl,_⟩
  · exact⟨s',w,C,cl,kp.1.trans h.f1,g,on⟩
  · rw [i] at off;cases off
  · refine absurd rfl (ft ((h.fit hL (c:=r.length+1) (Nat.le_refl _) f).mono ?_ (Nat.le_refl _)))
    have:=aJ5 (a:=b - fL 0 r) (b:=m.length) (by omega);omega
theorem aPn {R:Int} {x y:List Nat} {b d:Nat} (h:Sv k m (x++b::d::y) R kk s) (hL:Lg k m) (hk:kk+20000<4611686018427387904)
    (a:(((x++b::d::y).length+1) * szB m.length+80 * ((x++b::d::y).length+2):Nat)<=R) :
    ∃ s',cE (dG k m (x++b::d::y)) (x.length:Int) s=some (0,dG k m (x++d::y),s')/\Sv k m (x++d::y) R (kk+2000) s':=by
  obtain⟨e,s',r',w,C,kp,o,ft⟩:=aFm h.ctv hL hk h.f3 h.cl;obtain⟨f,g⟩:=kp.2 h.f2 h.f3;rcases o with ⟨rfl,on,rfl,cl⟩ | ⟨rfl,off,_⟩ | ⟨rfl,_⟩
  · exact⟨s',w,C,cl,kp.1.trans h.f1,f,on⟩
  · rw [g] at off;cases off
  · exact absurd rfl (ft (h.fit hL (c:=(x++b::d::y).length) (by omega) a))
theorem aQ9 {R:Int} (h:Sv k m r R kk s) (hL:Lg k m) (hk:kk+20000<4611686018427387904) :
    ∃ s',lY s k=some (some (dG k m r),0,s')/\Sv k m r R (kk+500) s':=by
  obtain⟨e,s',w,C,kp,_,o⟩:=aFs h.ctv hL (by omega) h.f3;obtain⟨a,b⟩:=kp.2 h.f2 h.f3;rcases o with ⟨rfl,on,cl⟩ | ⟨rfl,off⟩
  · exact⟨s',w,C,cl,kp.1.trans h.f1,a,on⟩
  · rw [b] at off;cases off
theorem aUd (r:List Nat) (i:Nat) (h:i+1<r.length):∃ x b d y,r=x++b::d::y/\x.length=i:=by refine⟨r.take i,r[i],r[i+1],r.drop (i+2),?_,by rw [List.length_take];omega⟩;have a:=List.take_append_drop i r;rw [List.drop_eq_getElem_cons (by omega),List.drop_eq_getElem_cons (by omega)] at a;exact a.symm
end
theorem aJi (a0:List S61) (hg:∀ e∈a0,Gd e) (k:Int):∀ (n i:Nat) (out:List S61),i+n=min a0.length 250->Run k 0 out->out.length<=i ->
    ∃ m,loop (λs:List S61×Int=>oJ a0 k s.1 s.2) (out,(i:Int))=some m/\Run k 0 m/\m.length<=250
  | 0,i,out,hi,hr,hl=>by
    refine⟨out,bE ?_,hr,by omega⟩;show oJ a0 k out (i:Int)=_;unfold oJ tB;by_cases h:i<a0.length
    · rw [if_pos (by simp only [decide_eq_true_eq];omega),show decide ((i:Int)<250)=false by simp only [decide_eq_false_iff_not];omega];rfl
    · rw [if_neg (by simp only [decide_eq_true_eq];omega)];rfl
  | n+1,i,out,hi,hr,hl=>by
    have f:i<a0.length:=by omega
    have hx:=List.getElem?_eq_getElem (l:=a0) (i:=i) f;obtain⟨o,g⟩:=hg _ (List.getElem_mem f);generalize a0[i]=e at hx o g;have a:oJ a0 k out (i:Int)=some (.inl (if qT ⟨out.length,e.f1,e.f2,e.f3,e.f4⟩ k=true then out++[⟨out.length,e.f1,e.f2,e.f3,e.f4⟩] else out,((i+1:Nat):Int))):=by
      unfold oJ tB;rw [if_pos (by simp only [decide_eq_true_eq];omega),show decide ((i:Int)<250)=true by simp only [decide_eq_true_eq];omega,if_pos rfl,bA rfl hx];simp only [bHp,lt_];rw [nD (n:=(out.length:Int)) (by omega) (by omega),aVx];simp only [bHp];split
      · rw [bH (by simp;omega)]
        unfold tA;rw [lt_,w64 (by omega) (by omega)];rfl
      · unfold tA
        rw [lt_,w64 (by omega) (by omega)];rfl
    by_cases hb:qT ⟨out.length,e.f1,e.f2,e.f3,e.f4⟩ k=true
    · rw [if_pos hb] at a
      have p:Run k 0 (out++[⟨out.length,e.f1,e.f2,e.f3,e.f4⟩]):=by
        refine⟨λx hx=>?_,λx hx=>?_,λj x hx=>?_⟩
        · rcases List.mem_append.1 hx with h | h
          · exact hr.fm x h
          · simp at h;subst h;exact hb
        · rcases List.mem_append.1 hx with h | h
          · exact hr.gd x h
          · simp at h;subst h
            exact⟨⟨by show 0<=(out.length:Int);omega,by show (out.length:Int)<_;omega⟩,g⟩
        · rw [List.getElem?_append] at hx
          split at hx
          · exact hr.of j x hx
          · rename_i r
            have q:j=out.length:=by have:=(List.getElem?_eq_some_iff.1 hx).1;simp at this;omega
            subst q;rw [Nat.sub_self] at hx;cases hx;show (out.length:Int)=0+out.length;omega
      obtain⟨m,b,c,d⟩:=aJi a0 hg k n (i+1) _ (by omega) p (by simp;omega);exact⟨m,(bZ a).trans b,c,d⟩
    · rw [if_neg hb] at a
      obtain⟨m,b,c,d⟩:=aJi a0 hg k n (i+1) out (by omega) hr (by omega);exact⟨m,(bZ a).trans b,c,d⟩
theorem bBf {a0:List S61} (hg:∀ e∈a0,Gd e) {k:Int} (hk:1<=k/\k<=8):∃ m,aBk a0 k=some m/\Lg k m:=by obtain⟨m,a,b,c⟩:=aJi a0 hg k (min a0.length 250) 0 [] (by omega) ⟨λe he=>(by cases he),λe he=>(by cases he),λi x hx=>(by simp at hx)⟩ (Nat.le_refl _);refine⟨m,?_,b,c,hk.1,hk.2⟩;unfold aBk;rw [show (([]:List S61),(0:Int))=([],((0:Nat):Int)) from rfl,a];rfl
def lR (r:List Nat):List Int:=r.map λn:Nat=>(n:Int)
section
variable {k:Int} {m:List S61} {r:List Nat} {kk:Nat} {s:S77}
theorem aKu {es:List S46} (c:S79) (d:es.length<=250) (hm:m.length<=250):∀ (y:List Nat) (i a:Nat) (acc:List Int),es.drop i=aZ m a y->RiseN a y m.length->acc.length<=i->i+y.length=es.length ->
    loop (λt:List Int×Int×Int=>kY (es,c) t.1 t.2.1 t.2.2) (acc,(a:Int),(i:Int))=some (.inl (acc++lR y))
  | [],i,a,acc,hd,hr,ha,hi=>by refine bE ?_;show kY (es,c) acc (a:Int) (i:Int)=_;unfold kY;rw [if_neg (by simp only [decide_eq_true_eq];simp only [List.length_nil] at hi;omega)];simp [lR]
  | b::y,i,a,acc,hd,hr,ha,hi=>by
    rw [List.length_cons] at hi;have f:=hr.1;have hx:es[i]?=some (jY m a b):=by have:=congrArg (λl=>l[0]?) hd;simpa [aZ] using this
    have hd':es.drop (i+1)=aZ m b y:=by have:=congrArg (List.drop 1) hd;rw [List.drop_drop] at this;simpa [aZ] using this
    have e:kY (es,c) acc (a:Int) (i:Int)=some (.inl (acc++[(b:Int)],(b:Int),((i+1:Nat):Int))):=by unfold kY;dsimp only;rw [if_pos (by simp only [decide_eq_true_eq];omega),bA rfl hx,bHp,show (jY m a b).f1=(a:Int) from rfl,show (jY m a b).f2=(b:Int) from rfl,if_neg (by simp),show decide ((b:Int)<=(a:Int))=false by simp only [decide_eq_false_iff_not];omega];unfold uB;dsimp only;rw [if_neg (by simp),bA rfl hx,bHp,show (jY m a b).f2=(b:Int) from rfl,bH (by simp only [List.length_singleton];omega),lt_,w64 (by omega) (by omega)];rfl
    rw [bZ (b:=λt:List Int×Int×Int=>kY (es,c) t.1 t.2.1 t.2.2) e,aKu c d hm y (i+1) b _ hd' hr.2 (by simp;omega) (by omega),List.append_assoc];rfl
theorem aF0 (hL:Lg k m) (hr:RiseN 0 r m.length):qO (dG k m r)=some (lR r,dG k m r):=by have hl:=RiseN.len hr;have he:=RiseN.end_le hr;have hm:=hL.le;unfold qO;rw [aAo (by omega),bHp];have:=aKu (es:=aZ m 0 r) (dG k m r) (by rw [eC];omega) hm r 0 0 [] (by rw [List.drop_zero]) hr (Nat.le_refl _) (by rw [eC];omega);rw [List.nil_append] at this;rw [show (([]:List Int),(0:Int),(0:Int))=([],((0:Nat):Int),((0:Nat):Int)) from rfl,this];rfl
theorem aLm (p q:List Int) (hp:p.length<=100000) (a:p.length=q.length):∀ (n i:Nat),i+n=p.length ->
    ((loop (λs=>iX p q s) (i:Int)).bind λt=>match t with | (.inl t)=>uJ | (.inr t)=>some t)=some (decide (p.drop i=q.drop i))
  | 0,i,hi=>by
    rw [bE (b:=λs=>iX p q s) (t:=.inl ()) (by
      unfold iX;rw [if_neg (by simp only [decide_eq_true_eq];omega)]),List.drop_of_length_le (by omega),List.drop_of_length_le (by omega)]
    rfl
  | n+1,i,hi=>by
    have hx:=List.getElem?_eq_getElem (l:=p) (i:=i) (by omega);have d:=List.getElem?_eq_getElem (l:=q) (i:=i) (by omega);have hs:iX p q (i:Int)=if p[i]=q[i] then some (.inl ((i+1:Nat):Int)) else some (.inr (.inr false)):=by
      unfold iX;rw [if_pos (by simp only [decide_eq_true_eq];omega),bA rfl hx,bHp,bA rfl d,bHp];by_cases c:p[i]=q[i]
      · rw [if_neg (by simpa using c),if_pos c,lt_,w64 (by omega) (by omega)]
        rfl
      · rw [if_pos (by simpa using c),if_neg c]
    rw [List.drop_eq_getElem_cons (by omega),List.drop_eq_getElem_cons (by omega:i<q.length)];by_cases c:p[i]=q[i]
    · rw [if_pos c] at hs
      rw [bZ (b:=λs=>iX p q s) hs,aLm p q hp a n (i+1) (by omega),c];congr 1;rw [decide_eq_decide];exact⟨λe=>by rw [e],λe=>(List.cons.inj e).2⟩
    · rw [if_neg c] at hs
      rw [bE (b:=λs=>iX p q s) hs];show some false=_;congr 1;symm;rw [decide_eq_false_iff_not];exact λe=>c (List.cons.inj e).1
theorem aId {p q:List Int} (hp:p.length<=100000):sF p q=some (decide (p=q)):=by
  unfold sF;by_cases c:p.length=q.length
  · have h:=aLm p q hp c p.length 0 (by omega)
    rw [List.drop_zero,List.drop_zero] at h;rw [if_neg (by simp;omega)];exact h
  · rw [if_pos (by simp only [bne_iff_ne,ne_eq];omega)]
    congr 1;symm;rw [decide_eq_false_iff_not];exact λe=>c (by rw [e])
theorem aU7 {es:List S46} {i a b:Nat} (c:S79) (hx:es[i]?=some (jY m a b)) (h:a<b) (hb:b<=m.length) (hm:m.length<=250) {x:S61} (f:m[a]?=some x) :
    loop (λt:Int×Int×Int=>jI m (es,c) (i:Int) t.1 t.2.1 t.2.2) (x.f2,x.f2,(a:Int))=some (aFb (pc m a b),aAb (pc m a b)):=by
  have hlen:=aAf (m:=m) (a:=a) (b:=b) hb;have d:(pc m a b)[0]?=some x:=by unfold pc;rw [List.getElem?_take,if_pos (by omega),List.getElem?_drop,Nat.add_zero,f]
  have e0:ckL (pc m a b) 0=(pc m a b).foldl ckF (ck0 (pc m a b) 0 x):=by
    generalize pc m a b=l at d;cases l with
    | nil=>cases d
    | cons y l=>cases d;rfl
  have hk:=jJ (b:=λt:Int×Int×Int=>jI m (es,c) (i:Int) t.1 t.2.1 t.2.2)
    (λj=>((((pc m a b).take j).foldl ckF (ck0 (pc m a b) 0 x)).f4,(((pc m a b).take j).foldl ckF (ck0 (pc m a b) 0 x)).f5,((a+j:Nat):Int)))
    (t:=(((pc m a b).foldl ckF (ck0 (pc m a b) 0 x)).f4,((pc m a b).foldl ckF (ck0 (pc m a b) 0 x)).f5)) (b - a) (λj k=>by
      have e:=List.getElem?_eq_getElem (l:=pc m a b) (i:=j) (by omega);have hz:m[a+j]?=some (pc m a b)[j]:=by rw [← e];unfold pc;rw [List.getElem?_take,if_pos (by omega),List.getElem?_drop]
      generalize (pc m a b)[j]=v at e hz;show jI m (es,c) (i:Int) _ _ ((a+j:Nat):Int)=_;rw [aFa ckF _ e];generalize ((pc m a b).take j).foldl ckF (ck0 (pc m a b) 0 x)=cc;have g:∀ (p q:Int),pO ((a+j:Nat):Int) p q=some (.inl (p,q,((a+(j+1):Nat):Int))):=λp q=>by unfold pO;rw [lt_,nD (by omega) (by omega)];rfl
      unfold jI;dsimp only;rw [bA rfl hx,bHp,show (jY m a b).f2=(b:Int) from rfl,if_pos (by simp only [decide_eq_true_eq];omega),bA rfl hz,bHp];unfold sE;rw [bA rfl hz];simp only [bHp,g];unfold ckF;dsimp only;by_cases c1:v.f2<cc.f4
      · rw [if_pos (by simpa using c1),if_pos c1]
        by_cases c2:cc.f5<v.f2
        · rw [if_pos (by simpa using c2),if_pos c2]
        · rw [if_neg (by simpa using c2),if_neg c2]
      · rw [if_neg (by simpa using c1),if_neg c1]
        by_cases c2:cc.f5<v.f2
        · rw [if_pos (by simpa using c2),if_pos c2]
        · rw [if_neg (by simpa using c2),if_neg c2]) (by
      show jI m (es,c) (i:Int) _ _ ((a+(b - a):Nat):Int)=_;unfold jI;dsimp only;rw [bA rfl hx,bHp,show (jY m a b).f2=(b:Int) from rfl,if_neg (by simp only [decide_eq_true_eq];omega),List.take_of_length_le (by omega)])
  unfold aFb aAb;rw [e0];exact hk
theorem aJa {es:List S46} (c:S79) (Y:List S61×Int×Int×S79×S77) (f:es.length<=250) (hm:m.length<=250):∀ (y:List Nat) (i a:Nat),es.drop i=aZ m a y->RiseN a y m.length->i+y.length=es.length ->
    loop (λt:Int=>lE m (es,c) Y t) (i:Int)=some (.inl ())
  | [],i,a,hd,hr,hi=>by refine bE ?_;unfold lE;rw [if_neg (by simp only [decide_eq_true_eq];simp only [List.length_nil] at hi;omega)]
  | b::y,i,a,hd,hr,hi=>by
    rw [List.length_cons] at hi;have g:=hr.1;have j:=RiseN.end_le hr.2;have hx:es[i]?=some (jY m a b):=by have:=congrArg (λl=>l[0]?) hd;simpa [aZ] using this
    have hd':es.drop (i+1)=aZ m b y:=by have:=congrArg (List.drop 1) hd;rw [List.drop_drop] at this;simpa [aZ] using this
    have d:=List.getElem?_eq_getElem (l:=m) (i:=a) (by omega);have e:=aU7 c hx g (by omega) hm d;have h:lE m (es,c) Y (i:Int)=some (.inl ((i+1:Nat):Int)):=by unfold lE;dsimp only at e ⊢;rw [if_pos (by simp only [decide_eq_true_eq];omega),bA rfl hx,bHp,show (jY m a b).f1=(a:Int) from rfl,bA rfl d,bHp,e,bHp];unfold sZ wH;dsimp only;rw [bA rfl hx,bHp,show (jY m a b).f3=aFb (pc m a b) from rfl,show (jY m a b).f4=aAb (pc m a b) from rfl,if_neg (by simp),bne_self_eq_false];unfold sD;rw [if_neg (by simp),lt_,w64 (by omega) (by omega)];rfl
    rw [bZ (b:=λt:Int=>lE m (es,c) Y t) h];exact aJa c Y f hm y (i+1) b hd' hr.2 (by omega)
theorem aI9 (h:Cv k m r kk s) (hL:Lg k m) (b:s.f3=false) (c:CleanC (aZ m 0 r) s.f0):law08_holds s (dG k m r) m=some (true,s,dG k m r):=by
  have hf:=h.few hL;have hm:=hL.le;have hc:=h.count hL c;have d:r.length<=s.f0.length/\s.f0.length<=r.length+1:=by rw [hc];split <;> omega
  unfold law08_holds;rw [aAo (by omega),bHp,h.si.Names,bHp];dsimp only;rw [eC,List.length_map,lt_,w64 (by omega) (by omega),if_neg (by simp only [decide_eq_true_eq];omega),if_neg (by simp only [decide_eq_true_eq];omega),aIm (by omega),bHp,lt_,nD (by omega) (by omega),show decide ((m.length:Int)<(fL 0 r:Int))=false by simp only [decide_eq_false_iff_not];omega];unfold pQ;rw [if_neg (by simp)];unfold aD7;rw [bHp,show (⟨(),(dG k m r).f1,(dG k m r).f2⟩:S79)=dG k m r from rfl,aNt _ h hL b,bHp,show (0:Int)=((0:Nat):Int) from rfl,aJa (dG k m r) _ (by rw [eC];omega) hm r 0 0 (by rw [List.drop_zero]) h.ri (by rw [eC];omega),bHp];unfold sY wG;have a:=nY (xs:=m) (l:=0) (u:=fL 0 r) (by omega) (by omega);rw [List.drop_zero] at a;have hw:=aT8 (hL.run.take (fL 0 r)) (by omega);rw [show ((0:Nat):Int)=0 from rfl] at a ⊢;rw [hw,if_pos (by simp),aIm (by omega),bHp,a,bHp,aL3 _ (by simp;omega),bHp]
end
def awakeL:List S61:=aDs 20
theorem aSw:Lg 1 awakeL:=by
  have hl:awakeL.length=20:=by simp [awakeL,aDs]
  refine⟨⟨λe he=>?_,λe he=>?_,λi x hx=>?_⟩,by omega,by omega,by omega⟩
  · obtain⟨i,hi⟩:=List.getElem?_of_mem he
    obtain⟨rfl,h⟩:=aJ8 hi;unfold qT;simp only [Bool.and_eq_true,decide_eq_true_eq,List.length_nil];omega
  · obtain⟨i,hi⟩:=List.getElem?_of_mem he
    obtain⟨rfl,h⟩:=aJ8 hi;exact⟨⟨by show (0:Int)<=i;omega,by show (i:Int)<_;omega⟩,by show 0<18446744073709551616;omega⟩
  · obtain⟨rfl,h⟩:=aJ8 hx
    show (i:Int)=0+i;omega
theorem aNx:loop (λs:List S61×Int=>jH s.1 s.2) ([],0)=some awakeL:=by
  have h:=jJ (b:=λs:List S61×Int=>jH s.1 s.2) (λk=>(aDs k,(k:Int))) (t:=awakeL) 20 (λk hk=>by
    show jH (aDs k) (k:Int)=_;have hl:(aDs k).length=k:=by simp [aDs]
    unfold jH;rw [if_pos (by simp only [decide_eq_true_eq];omega),lt_,nD (by omega) (by omega),bH (by rw [hl];simp only [List.length_singleton];omega),lt_,w64 (by omega) (by omega)];unfold aDs;rw [List.range_succ,List.map_append];rfl) (by
    show jH (aDs 20) _=_;unfold jH;rw [if_neg (by simp)];rfl)
  exact h
theorem aSv:xU=some true:=by
  have hl:awakeL.length=20:=by simp [awakeL,aDs]
  have hL:=aSw;have hz:szB awakeL.length=8522:=by rw [hl];rfl
  have c1:kN awakeL 0 10=some (pc awakeL 0 10):=by have:=nY (xs:=awakeL) (l:=0) (u:=10) (by omega) (by omega);rw [List.drop_zero, ← aM1] at this;exact this
  have c2:kN awakeL 10 (awakeL.length:Int)=some (pc awakeL 10 20):=by have:=nY (xs:=awakeL) (l:=10) (u:=awakeL.length) (by omega) (by omega);refine this.trans ?_;unfold pc;rw [List.take_length,List.take_of_length_le (by simp;omega)]
  obtain⟨s0,e,v0⟩:=aQ9 (aTz 1 awakeL (R:=65536) (by decide) (by decide)) hL (by omega);obtain⟨s1,a,f⟩:=aRa (b:=10) v0 hL (by omega) (by simp) (by show 0<10;omega) (by omega) (by rw [hz];decide);obtain⟨i,c,g⟩:=aRa (b:=20) f hL (by omega) (by simp) (by show 10<20;omega) (by omega) (by rw [hz];decide);obtain⟨j,h,v3⟩:=aPn (x:=[]) (b:=10) (d:=20) (y:=[]) g hL (by omega) (by rw [hz];decide);rw [show fL 0 []=0 from rfl] at a;rw [show fL 0 ([]++[10])=10 from rfl] at c;unfold xU;rw [aQ6 (by decide) (by decide),bHp,bHp,e,bHp,bHp,if_neg (by simp),aNx,bHp];unfold sX wF;rw [c1,bHp,a,bHp,if_neg (by simp),c2,bHp,c,bHp,if_neg (by simp)];rw [show ([]++[10]++[20]:List Nat)=[]++10::20::[] from rfl,show (0:Int)=((([]:List Nat).length:Nat):Int) from rfl,h,bHp];unfold pN;rw [if_neg (by simp),show (⟨(),(dG 1 awakeL ([]++20::[])).f1,(dG 1 awakeL ([]++20::[])).f2⟩:S79)=dG 1 awakeL [20] from rfl,aAo (by simp),bHp];rw [if_pos (by rfl),show at_ (aZ awakeL 0 [20]) 0=some (jY awakeL 0 20) from rfl,bHp,if_pos (by rw [show (jY awakeL 0 20).f0=qU 0 20 from rfl];decide +kernel),aIm (by simp),bHp];rfl
theorem bBk {m:List S61} {a b:Nat} (h:a<=b) (hb:b<=m.length):kN m (a:Int) (b:Int)=some (pc m a b):=by rw [nY h hb];unfold pc;rw [List.drop_take]
section
variable {k:Int} {m:List S61} {r:List Nat} {R:Int}
end
section
variable {m:List S61} {r:List Nat}
theorem aSd {x:Int} (h:gI .u8 x) (n:Nat) (hn:0<n):∃ a:Nat,x.tmod (n:Int)=(a:Int)/\a<n/\a<256:=by obtain⟨c,d⟩:=aZ4 h;obtain⟨b,rfl⟩:=Int.eq_ofNat_of_zero_le c;refine⟨b % n,rfl,Nat.mod_lt _ hn,Nat.lt_of_le_of_lt (Nat.mod_le _ _) (by omega)⟩
end
theorem aBh (a b:List Nat):lR (a++b)=lR a++lR b:=List.map_append ..
theorem uA (a:List Nat):(lR a).length=a.length:=List.length_map ..
section
variable {k:Int} {m:List S61} {r:List Nat}
end
section
variable {m:List S61} {r:List Nat} {f:S26}
end
structure Trn (B p:List Int):Prop where
  bs:Bs B
  len:B.length=p.length
  bu:Burst (aBc B ^^^ aBc p)
  ne:B≠p
section
variable {k:Int} {m:List S61} {r:List Nat} {kk:Nat} {s:S77}
end
section
variable {m:List S61} {r:List Nat} {K:Nat} {s:S77}
theorem Cv.rst {k:Int} (h:Cv k m r K s) (keep:List Int):Cv k m r K (aAj s keep):=by
  refine⟨h.si.rst keep,⟨λe=>aKz keep (h.ct.cat0 e),λe=>aKy keep (h.ct.cat e),λe he=>aKy keep (h.ct.segs e he)⟩,λf x hx=>?_,h.ri⟩;cases hg:get s.f0 f with
  | some y=>exact h.dom f y hg
  | none =>
    have:get (rR keep s.f0) f=some x:=hx;rw [aKz keep hg] at this;cases this
theorem Cv.arm {k:Int} (h:Cv k m r K s) {n:Int} (h0:0<=n/\n<=1000):aNw s n=(0,{ s with f2:=n })/\Cv k m r (K+1) { s with f2:=n }:=by
  have hA:aNw s n=(0,{ s with f2:=n }):=by unfold aNw;rw [if_neg (by omega)]
  have a:=h.si.arm (m:=n) (by omega);rw [hA] at a;exact⟨hA,a,h.ct,h.dom,h.ri⟩
abbrev FlS:=List S98×Int×Int×Bool×Int×Option S79×List Int×Int
def flT (s:S77) (c:S79) (e:List Int) (i:Nat):FlS:=(s.f0,s.f1,s.f2,s.f3,s.f4,some c,e,(i:Int))
theorem aMm {i:Nat} (hi:i<30) (s:S77) (c:S79) (e:List Int):eI (i:Int) s.f0 s.f1 s.f2 s.f3 s.f4 c.f1 c.f2 e=some (.inl (flT s c e (i+1))):=by unfold eI;rw [lt_,w64 (by omega) (by omega)];rfl
noncomputable abbrev flI (a:S52) (s:S77) (o:Option S79) (e j:Int) :=
  loop (λs=>eP a s.1 s.2.1 s.2.2.1 s.2.2.2.1 s.2.2.2.2.1 s.2.2.2.2.2.1 s.2.2.2.2.2.2.1 s.2.2.2.2.2.2.2) (s.f0,s.f1,s.f2,s.f3,s.f4,o,e,j)
theorem bA9 {a:S52} (h:0<=a.f1/\a.f1<256) (hL:Lg 4 m):∀ (n j K:Nat) (s:S77) (o:Option S79) (e:Int),j+n=3->Cv 4 m r K s->K+aPz n<=1000000000 ->
    ∃ c,flI a s o e (j:Int)=some (.inl (c.f0,c.f1,c.f2,c.f3,c.f4,some (dG 4 m r),0))/\Cv 4 m r (K+aPz n) c/\c.f3=false/\CleanC (aZ m 0 r) c.f0:=by
  intro n
  induction n with
  | zero =>
    intro j K s o e i hC hK;have k:aPz 0=600:=rfl;obtain⟨l,c,w,C,kp,_,oc⟩:=aFs (hC.rst a.f2) hL (by omega) rfl;rcases oc with ⟨rfl,on,cl⟩ | ⟨_,off⟩
    · refine⟨c,bE ?_,C.mono (by omega),on,cl⟩
      show eP a s.f0 s.f1 s.f2 s.f3 s.f4 o e (j:Int)=_;unfold eP;rw [if_pos (by simp only [decide_eq_true_eq];omega),show (⟨s.f0,s.f1,s.f2,s.f3,s.f4⟩:S77)=s from rfl,hC.si.Restart,bHp,bHp,if_neg (by simp only [decide_eq_true_eq];omega)];unfold eN;rw [show (⟨(aAj s a.f2).f0,(aAj s a.f2).f1,(aAj s a.f2).f2,(aAj s a.f2).f3,(aAj s a.f2).f4⟩:S77)=aAj s a.f2 from rfl,w,bHp,if_pos (by rfl)];rfl
    · rw [(kp.2 rfl rfl).2] at off;cases off
  | succ n ih =>
    intro j K s o e i hC hK;have k:aPz (n+1)=aPz n+600:=rfl;obtain⟨M,f⟩:∃ M,M=(IntKind.i64.wrap (oG .u8 a.f1 (j:Int))).tmod 6:=⟨_,rfl⟩;have p:0<=M/\M<=1000:=by obtain⟨b,hb⟩:=Int.eq_ofNat_of_zero_le h.1;have h0:(0:Int)<=((b / 2 ^ j:Nat):Int):=Int.natCast_nonneg _;have q:b / 2 ^ j<=b:=Nat.div_le_self _ _;rw [f,hb,lD b j (by show j<=8;omega)];generalize b / 2 ^ j=d at h0 q;rw [w64 (by omega) (by omega)];have:=Int.tmod_lt_of_pos (d:Int) (show (0:Int)<6 by decide);exact⟨Int.tmod_nonneg _ h0,by omega⟩
    obtain⟨hA,t⟩:=(hC.rst a.f2).arm p;obtain⟨l,c,w,C,kp,_,oc⟩:=aFs t hL (by omega) rfl;have g:∀ y,eN (j:Int) (aAj s a.f2).f0 (aAj s a.f2).f1 M (aAj s a.f2).f3 (aAj s a.f2).f4=y->eP a s.f0 s.f1 s.f2 s.f3 s.f4 o e (j:Int)=y:=by intro y u;unfold eP;rw [if_pos (by simp only [decide_eq_true_eq];omega),show (⟨s.f0,s.f1,s.f2,s.f3,s.f4⟩:S77)=s from rfl,hC.si.Restart,bHp,bHp,if_pos (by simp only [decide_eq_true_eq];omega),bH (by omega),lt_,lt_,lt_, ← f,aPm,hA,bHp,bHp];exact u
    rcases oc with ⟨rfl,on,cl⟩ | ⟨rfl,off⟩
    · refine⟨c,bE (g _ ?_),C.mono (by omega),on,cl⟩
      unfold eN;rw [show (⟨(aAj s a.f2).f0,(aAj s a.f2).f1,M,(aAj s a.f2).f3,(aAj s a.f2).f4⟩:S77)={ aAj s a.f2 with f2:=M } from rfl,w,bHp,if_pos (by rfl)];rfl
    · obtain⟨v,x,z,A,B⟩:=ih (j+1) (K+600) c none 9 (by omega) (C.mono (by omega)) (by omega)
      refine⟨v,(bZ (g _ ?_)).trans x,z.mono (by omega),A,B⟩;unfold eN;rw [show (⟨(aAj s a.f2).f0,(aAj s a.f2).f1,M,(aAj s a.f2).f3,(aAj s a.f2).f4⟩:S77)={ aAj s a.f2 with f2:=M } from rfl,w,bHp,if_neg (by simp),if_neg (by simp),lt_,w64 (by omega) (by omega)];rfl
theorem aS6 {i:Nat} (hi:i<30) {a:S52} (q:0<=a.f1/\a.f1<256) (hL:Lg 4 m) (hC:Cv 4 m r K s) (hK:K<=900000000) (o:Option S79) (e:Int) {ends want:List Int} (h:lR r=ends\/lR r=want) :
    ∃ b,eL m ends (i:Int) a s.f0 s.f1 s.f2 s.f3 s.f4 o e want false=some (.inl (flT b (dG 4 m r) (lR r) (i+1)))/\Cv 4 m r (K+3000) b/\b.f3=false/\CleanC (aZ m 0 r) b.f0:=by
  have hf:=hC.few hL;have x:aPz 3=2400:=rfl;obtain⟨b,w,t,u,v⟩:=bA9 q hL 3 0 K s o e rfl hC (by omega);obtain⟨hA,d⟩:=t.arm (n:=0) (by decide);have f:=d.ri;generalize k:({ b with f2:=0 }:S77)=s4 at hA d;have g:s4.f3=false:=by rw [← k];exact u
  have j:CleanC (aZ m 0 r) s4.f0:=by rw [← k];exact v
  refine⟨s4,?_,d.mono (by omega),g,j⟩;have l:(lR r).length<=100000:=by rw [uA];omega
  have p:eM (i:Int) s4.f0 s4.f1 s4.f2 s4.f3 s4.f4 (some (dG 4 m r)) false=some (.inl (flT s4 (dG 4 m r) (lR r) (i+1))):=by unfold eM;rw [if_neg (by simp),bHp,aF0 hL f,bHp];exact aMm hi s4 (dG 4 m r) (lR r)
  unfold flI at w;rw [show ((0:Nat):Int)=0 from rfl] at w;unfold eL;rw [if_neg (by simp),w,bHp];show jZ m ends (i:Int) want b.f0 b.f1 b.f2 b.f3 b.f4 (some (dG 4 m r)) 0=_;unfold jZ;rw [show (⟨b.f0,b.f1,b.f2,b.f3,b.f4⟩:S77)=b from rfl,aPm,hA,bHp,bHp,if_neg (by simp),bHp,aF0 hL f,bHp,aId l,bHp];by_cases c:lR r=ends
  · rw [if_neg (by simp [c]),aI9 d hL g j,bHp]
    exact p
  · rw [if_pos (by simp [c]),aF0 hL f,bHp,aId l,bHp,if_neg (by simp [h.resolve_left c]),aI9 d hL g j,bHp]
    exact p
theorem bA8 {i:Nat} (hi:i<30) {a:S52} (g:0<=a.f1/\a.f1<256) (hL:Lg 4 m) (hC:Cv 4 m r K s) (hK:K<=900000000) {o:Option S79} {e:Int} {ends want:List Int} {down:Bool}
    (h:(((e=0/\lR r=want)\/((e=1\/e=10)/\lR r=ends))/\down=false/\o=some (dG 4 m r)/\s.f3=false/\CleanC (aZ m 0 r) s.f0)\/((e=9\/(e=0/\down=true))/\(lR r=ends\/lR r=want))) :
    ∃ b,dC m ends (i:Int) a s.f0 s.f1 s.f2 s.f3 s.f4 o e want down=some (.inl (flT b (dG 4 m r) (lR r) (i+1)))/\Cv 4 m r (K+3000) b/\b.f3=false/\CleanC (aZ m 0 r) b.f0:=by
  have hf:=hC.few hL;have c:=hC.ri;have d:(lR r).length<=100000:=by rw [uA];omega
  have j:dC m ends (i:Int) a s.f0 s.f1 s.f2 s.f3 s.f4 o e want down=eJ m ends (i:Int) a s.f0 s.f1 s.f2 s.f3 s.f4 o e want down false:=by
    have he:e=0\/e=1\/e=9\/e=10:=by omega
    unfold dC;rcases he with rfl | rfl | rfl | rfl <;> rfl
  rw [j];unfold eJ;rw [if_neg (by simp)];rcases h with ⟨he,rfl,rfl,on,cl⟩ | ⟨he,hr⟩
  · rcases he with ⟨rfl,rfl⟩ | ⟨he,rfl⟩
    · refine⟨s,?_,hC.mono (by omega),on,cl⟩
      rw [if_pos (by rfl)];unfold eK;rw [if_pos (by rfl),bHp,aF0 hL c,bHp,aId d,bHp,if_neg (by simp)];exact aMm hi s (dG 4 m r) (lR r)
    · refine⟨s,?_,hC.mono (by omega),on,cl⟩
      rw [if_neg (by rcases he with rfl | rfl <;> decide)];unfold eK;rw [if_neg (by simp),if_pos (by rcases he with rfl | rfl <;> decide)];unfold eL;rw [if_pos (by rfl),bHp,aF0 hL c,bHp,aId d,bHp,if_neg (by simp),show (⟨s.f0,s.f1,s.f2,s.f3,s.f4⟩:S77)=s from rfl,aI9 hC hL on cl,bHp];unfold kA;rw [if_neg (by simp)];exact aMm hi s (dG 4 m r) (lR r)
  · have f:eK m ends (i:Int) a s.f0 s.f1 s.f2 s.f3 s.f4 o e want down false=eL m ends (i:Int) a s.f0 s.f1 s.f2 s.f3 s.f4 o e want false:=by unfold eK;rcases he with rfl | ⟨rfl,rfl⟩ <;> rfl
    obtain⟨b,w,rest⟩:=aS6 hi g hL hC hK o e hr;refine⟨b,?_,rest⟩;rcases he with rfl | ⟨rfl,rfl⟩
    · rw [if_neg (by simp),f]
      exact w
    · rw [if_pos (by rfl)]
      exact f.trans w
structure Fl8 (m:List S61) (r:List Nat) (i:Nat) (s:S77):Prop where
  ctv:Cv 4 m r (6000 * i+1000) s
  cl:CleanC (aZ m 0 r) s.f0
  f3:s.f3=false
  le:r.length<=i
theorem aS7 {acts:List S52} (hg:∀ a∈acts,g52 a) {i:Nat} (hL:Lg 4 m) (hi:i<acts.length) (q:i<30) (h:Fl8 m r i s) :
    ∃ r' s',eO acts m s.f0 s.f1 s.f2 s.f3 s.f4 (some (dG 4 m r)) (lR r) (i:Int)=some (.inl (flT s' (dG 4 m r') (lR r') (i+1)))/\Fl8 m r' (i+1) s':=by
  obtain⟨hC,cl,on,hr⟩:=h;have hf:=hC.few hL;have hm:=hL.le;have hx:=List.getElem?_eq_getElem hi;have t:=hg _ (List.getElem_mem hi);unfold eO;rw [if_pos (by simp only [decide_eq_true_eq];omega),show decide ((i:Int)<30)=true by simp only [decide_eq_true_eq];omega];unfold hW;rw [if_pos rfl,bA rfl hx,bHp,bHp];generalize acts[i]=a at hx t;obtain⟨J,j,X⟩:=t;have K:=aZ4 j;obtain⟨n1,v,b1,_⟩:=aSd j 30 (by decide);obtain⟨n2,z,b2,_⟩:=aSd J 10 (by decide);obtain⟨n3,A,Y,_⟩:=aSd j 5 (by decide);rw [show ((30:Nat):Int)=30 from rfl] at v;rw [show ((10:Nat):Int)=10 from rfl] at z;rw [show ((5:Nat):Int)=5 from rfl] at A;have fin:∀ {r':List Nat} {s':S77} {o:Option S79} {e:Int} {want:List Int} {down:Bool},Cv 4 m r' (6000 * i+3500) s'->r'.length<=i+1 ->
      ((((e=0/\lR r'=want)\/((e=1\/e=10)/\lR r'=lR r))/\down=false/\o=some (dG 4 m r')/\s'.f3=false/\CleanC (aZ m 0 r') s'.f0)\/((e=9\/(e=0/\down=true))/\(lR r'=lR r\/lR r'=want))) ->
      ∃ k B,dC m (lR r) (i:Int) a s'.f0 s'.f1 s'.f2 s'.f3 s'.f4 o e want down=some (.inl (flT B (dG 4 m k) (lR k) (i+1)))/\Fl8 m k (i+1) B:=by
    intro r' s' o e want down L M N;obtain⟨O,w,P,Q,R⟩:=bA8 q K hL L (by omega) N;exact⟨r',O,w,P.mono (by omega),R,Q,M⟩
  rw [aIm (by omega),bHp,bH (by rw [uA];simp only [List.length_nil];omega),lt_,z];by_cases c1:n2<5
  · rw [if_pos (by simp only [decide_eq_true_eq];omega),lt_,lt_,lt_,lt_,v,nD (n:=(n1:Int)) (by omega) (by omega),nD (n:=(m.length:Int)) (by omega) (by omega),nD (n:=(m.length:Int) - (fL 0 r:Int)) (by omega) (by omega)]
    have D:∀ n:Nat,fL 0 r+n<=m.length->∃ r' s',hX m s.f0 s.f1 s.f2 s.f3 s.f4 (lR r) (i:Int) a ((fL 0 r:Int),dG 4 m r) (n:Int)=some (.inl (flT s' (dG 4 m r') (lR r') (i+1)))/\Fl8 m r' (i+1) s':=by
      intro n hn;have S:kN m ((fL 0 r:Nat):Int) ((fL 0 r:Int)+(n:Int))=some (pc m (fL 0 r) (fL 0 r+n)):=bBk (Nat.le_add_right _ _) hn;unfold hX;rw [lt_,nD (by omega) (by omega),bH (by rw [uA];simp only [List.length_singleton];omega),S,bHp,show (⟨s.f0,s.f1,s.f2,s.f3,s.f4⟩:S77)=s from rfl];rcases Nat.eq_zero_or_pos n with h0 | h0
      · subst h0
        have hz:pc m (fL 0 r) (fL 0 r+0)=[]:=by unfold pc;rw [show fL 0 r+0 - fL 0 r=0 by omega,List.take_zero]
        obtain⟨e,s',w,C,kp,oc⟩:=aSt hC hL (by omega) on (by omega);rw [hz,w,bHp];refine fin (C.mono (by omega)) (by omega) ?_;rcases oc with ⟨rfl,f,g⟩ | ⟨rfl,off⟩
        · exact .inl ⟨.inr ⟨.inl rfl,rfl⟩,rfl,rfl,f,g⟩
        · exact .inr ⟨.inl rfl,.inl rfl⟩
      · obtain⟨e,s',r',w,C,kp,oc,_⟩:=aKo (b:=fL 0 r+n) hC hL (by omega) on cl (by omega) (by omega) hn
        rw [w,bHp];have hw:lR r++[(fL 0 r:Int)+(n:Int)]=lR (r++[fL 0 r+n]):=by rw [aBh];rfl
        rw [hw];rcases oc with ⟨rfl,f,rfl,g⟩ | ⟨rfl,off,rfl⟩ | ⟨rfl,f,rfl,g⟩
        · exact fin (C.mono (by omega)) (by rw [List.length_append,List.length_singleton];omega) (.inl ⟨.inl ⟨rfl,rfl⟩,rfl,rfl,f,g⟩)
        · exact fin (C.mono (by omega)) (by omega) (.inr ⟨.inl rfl,.inl rfl⟩)
        · exact fin (C.mono (by omega)) (by omega) (.inl ⟨.inr ⟨.inr rfl,rfl⟩,rfl,rfl,f,g⟩)
    by_cases c:(m.length:Int) - (fL 0 r:Int)<(n1:Int)
    · rw [if_pos (by simpa using c)]
      have:=D (m.length - fL 0 r) (by omega);rw [show ((m.length - fL 0 r:Nat):Int)=(m.length:Int) - (fL 0 r:Int) by omega] at this;exact this
    · rw [if_neg (by simpa using c)]
      exact D n1 (by omega)
  rw [if_neg (by simp only [decide_eq_true_eq];omega)];by_cases c2:n2=5
  · rw [if_pos (by simp [c2]),lt_,lt_,lt_,A,w64 (n:=(n3:Int)) (by omega) (by omega),w64 (n:=(n3:Int)+1) (by omega) (by omega),uA]
    by_cases c:n3+1<r.length
    · obtain⟨x,b,d,y,rfl,T⟩:=aUd r n3 c
      simp only [List.length_append,List.length_cons] at hr hf c;have hlen:(lR (x++b::d::y)).length=x.length+(y.length+2):=by rw [uA];simp
      have E:=nY (xs:=lR (x++b::d::y)) (l:=0) (u:=x.length) (by omega) (by omega);rw [List.drop_zero,aBh,List.take_left' (uA x), ← aBh] at E;have F:=nY (xs:=lR (x++b::d::y)) (l:=x.length+1) (u:=(lR (x++b::d::y)).length) (by omega) (by omega);rw [List.take_length,aBh, ← List.drop_drop,List.drop_left' (uA x), ← aBh] at F;rw [if_pos (by simp only [List.length_append,List.length_cons,decide_eq_true_eq];omega), ← T,show (0:Int)=((0:Nat):Int) from rfl,E,bHp,bH (by simp only [List.length_nil,uA];omega),show (x.length:Int)+1=((x.length+1:Nat):Int) by omega,show (((x++b::d::y).length:Nat):Int)=(((lR (x++b::d::y)).length:Nat):Int) by rw [uA],F,bHp,bH (by simp only [List.length_drop,lR];simp;omega)];have hw:lR x++(lR (b::d::y)).drop 1=lR (x++d::y):=by rw [aBh];rfl
      rw [hw];unfold hY;obtain⟨e,s',r',w,C,kp,oc,_⟩:=aFm hC hL (by omega) on cl;rw [show (⟨s.f0,s.f1,s.f2,s.f3,s.f4⟩:S77)=s from rfl,w,bHp];have G:(x++d::y).length<=i+1:=by simp only [List.length_append,List.length_cons];omega
      have H:(x++b::d::y).length<=i+1:=by simp only [List.length_append,List.length_cons];omega
      rcases oc with ⟨rfl,f,rfl,g⟩ | ⟨rfl,off,rfl | rfl⟩ | ⟨rfl,f,rfl,g⟩
      · exact fin (C.mono (by omega)) G (.inl ⟨.inl ⟨rfl,rfl⟩,rfl,rfl,f,g⟩)
      · exact fin (C.mono (by omega)) H (.inr ⟨.inl rfl,.inl rfl⟩)
      · exact fin (C.mono (by omega)) G (.inr ⟨.inl rfl,.inr rfl⟩)
      · exact fin (C.mono (by omega)) H (.inl ⟨.inr ⟨.inr rfl,rfl⟩,rfl,rfl,f,g⟩)
    · rw [if_neg (by simp only [decide_eq_true_eq];omega)]
      unfold hY;rw [show (⟨s.f0,s.f1,s.f2,s.f3,s.f4⟩:S77)=s from rfl,aNl (by omega) (by omega) s,bHp];exact fin (hC.mono (by omega)) (by omega) (.inl ⟨.inr ⟨.inl rfl,rfl⟩,rfl,rfl,on,cl⟩)
  rw [if_neg (by simp;omega)];by_cases c3:n2=8
  · obtain⟨p,I,Z,_⟩:=aSd j 12 (by decide)
    rw [show ((12:Nat):Int)=12 from rfl] at I;obtain⟨hA,U⟩:=hC.arm (n:=(p:Int)) (by omega);refine⟨r,{ s with f2:=(p:Int) },?_,U.mono (by omega),cl,on,by omega⟩;rw [if_pos (by simp [c3]),lt_,lt_,w64 (n:=a.f1) (by omega) (by omega),I,show (⟨s.f0,s.f1,s.f2,s.f3,s.f4⟩:S77)=s from rfl,aPm,hA,bHp,bHp];exact aMm q { s with f2:=(p:Int) } (dG 4 m r) (lR r)
  rw [if_neg (by simp;omega)];by_cases W:n2=7
  · rw [if_pos (by simp [W])]
    exact fin (hC.mono (by omega)) (by omega) (.inr ⟨.inr ⟨rfl,rfl⟩,.inl rfl⟩)
  rw [if_neg (by simp;omega)];obtain⟨e,s',w,C,kp,_,oc⟩:=aFs hC hL (by omega) on;rw [show (⟨s.f0,s.f1,s.f2,s.f3,s.f4⟩:S77)=s from rfl,w,bHp];unfold jG;rcases oc with ⟨rfl,f,g⟩ | ⟨rfl,off⟩
  · rw [if_neg (by simp)]
    exact fin (C.mono (by omega)) (by omega) (.inl ⟨.inl ⟨rfl,rfl⟩,rfl,rfl,f,g⟩)
  · rw [if_pos (by simp)]
    exact fin (C.mono (by omega)) (by omega) (.inr ⟨.inl rfl,.inl rfl⟩)
noncomputable abbrev flL (acts:List S52) (m:List S61) (q:FlS) :=
  loop (λs=>eO acts m s.1 s.2.1 s.2.2.1 s.2.2.2.1 s.2.2.2.2.1 s.2.2.2.2.2.1 s.2.2.2.2.2.2.1 s.2.2.2.2.2.2.2) q
theorem aOj {acts:List S52} (hg:∀ a∈acts,g52 a) (hL:Lg 4 m):∀ (n i:Nat) (r:List Nat) (s:S77),i+n=min acts.length 30->Fl8 m r i s ->
    flL acts m (flT s (dG 4 m r) (lR r) i)=some (.inl ())
  | 0,i,r,s,hi,h=>by
    refine bE ?_;show eO acts m s.f0 s.f1 s.f2 s.f3 s.f4 (some (dG 4 m r)) (lR r) (i:Int)=_;unfold eO hW;by_cases c:i<acts.length
    · rw [if_pos (by simp only [decide_eq_true_eq];omega),if_neg (by simp only [decide_eq_true_eq];omega)]
    · rw [if_neg (by simp only [decide_eq_true_eq];omega),if_neg (by simp)]
  | n+1,i,r,s,hi,h=>by obtain⟨r',s',w,b⟩:=aS7 hg hL (i:=i) (by omega) (by omega) h;exact (bZ w).trans (aOj hg hL n (i+1) r' s' (by omega) b)
end
theorem CatalogFalls (a0:List S61) (b:List S52) (a2:Int) (h0:gL 48 g61 a0) (d:gL 32 g52 b) (a:gI .u16 a2):mQ a0 b a2=some true:=by
  have hr:0<=a2/\a2<65536:=by unfold gI Lit.wf at a;simp only [Bool.and_eq_true,decide_eq_true_eq] at a;exact⟨a.1,Int.lt_of_le_of_lt a.2 (by decide)⟩
  obtain⟨m,hm,hL⟩:=bBf (bD4 h0) (k:=4) (by decide);obtain⟨s0,e,v0⟩:=aQ9 (aTz 4 m (R:=3000+a2) (by omega) (by omega)) hL (by omega);have c:=aOj d.2 hL (min b.length 30) 0 [] s0 (by omega) ⟨v0.ctv.mono (by omega),v0.cl,v0.f3,Nat.le_refl _⟩;unfold mQ;rw [aSv,bHp,if_neg (by simp),hm,bHp,lt_,w64 (n:=a2) (by omega) (by omega),lt_,w64 (n:=3000+a2) (by omega) (by omega),aQ6 (by omega) (by omega),bHp,bHp,e,bHp,if_neg (by simp)];unfold flL flT at c;rw [show ((0:Nat):Int)=0 from rfl,show lR []=[] from rfl] at c;rw [c];rfl
end Go.Proofs.YtdkpjpoajlmmfaaGreatDoor.P
