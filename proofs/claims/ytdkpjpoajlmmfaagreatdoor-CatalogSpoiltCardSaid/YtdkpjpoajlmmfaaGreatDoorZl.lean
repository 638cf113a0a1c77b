/- Texts of the claim, joined: what it uses of Qk, Qm, Qn, Qo, Qp, Qq, Pa, Pb, Pc, Pd, Pf, Pg, Ph, Pi, Pj, Pk, Pl, Pm, Po, Rb, Rc, Rd, Re, Rf, Rj, Rh, Rk, Rp, Rm, Rn, Ro, Rq, Sa, Sb, Sc, Sd, Se, Sf, Sg, Sh. -/
import Derived.Test.YtdkpjpoajlmmfaaGreatDoorZk
import Derived.Sort.Walk0
import Derived.IntWalk
import Derived.Lib.SlicesCompact
namespace Go.Proofs.YtdkpjpoajlmmfaaGreatDoor.P
open Go Go.RowKit Go.Proofs.YtdkpjpoajlmmfaaGreatDoor.E Go.Proofs.YtdkpjpoajlmmfaaGreatDoor.M
set_option linter.unusedVariables false
set_option linter.unusedSectionVars false
def aS9 (a:Nat):Bool:=a / 4503599627370496 % 2048==2047&&a % 4503599627370496 != 0
theorem aOr (d:Ieee.Datum):(d.order d==some .eq) = !d.isNaN:=by
 cases d with
 | number s m p=>simp [Ieee.Datum.order,Ieee.Datum.isNaN]
 | infinity s=>simp [Ieee.Datum.order,Ieee.Datum.isNaN]
 | nan s f=>simp [Ieee.Datum.order,Ieee.Datum.isNaN]
theorem aUf (a:Nat):feq a a = !aS9 a:=by
 unfold feq Ieee.Format.order;rw [aOr];congr 1;unfold Ieee.Format.read aS9;have b:FloatKind.f64.format.signWeight=9223372036854775808:=by decide
 have c:FloatKind.f64.format.binade=4503599627370496:=by decide
 have d:FloatKind.f64.format.infRung=9218868437227405312:=by decide
 simp only [b,c,d];rw [Bool.eq_iff_iff];simp only [Bool.and_eq_true,beq_iff_eq,bne_iff_ne,ne_eq];split
 ·simp [Ieee.Datum.isNaN]; omega
 ·split
  ·simp [Ieee.Datum.isNaN]; omega
  ·split
   ·simp [Ieee.Datum.isNaN]; omega
   ·simp [Ieee.Datum.isNaN]; omega
def lT (a:Nat):Nat:=if aS9 a then 9221120237041090560 else a
theorem zG (a:Nat):lT (lT a)=lT a:=by
 unfold lT;cases h:aS9 a with
 | true=>rw [if_pos rfl,if_pos (by decide)]
 | false=>simp [h]
theorem aMz {a:Nat} (h:a<18446744073709551616):lT a<18446744073709551616:=by unfold lT; split <;> omega
theorem aJj (a:Nat):vT a=some (lT a):=by unfold vT aA8 lT;simp only [Option.bind_some,aUf];cases aS9 a <;> rfl
theorem aHt (a:Nat):xS a=some (lT a:Int):=by unfold xS;rw [aJj]; rfl
theorem aR6 (a:Int):aEg a=some (lT a.toNat):=by unfold aEg;rw [aJj]; rfl
def rl (l:List Nat):List Int:=l.map λx=>IntKind.i64.wrap (lT x:Int)
theorem aLa (l:List Nat):I64 (rl l):=λx hx=>by obtain⟨y,_,rfl⟩:=List.mem_map.1 hx;exact aBw _
theorem aCi (l:List Nat):(rl l).length=l.length:=by simp [rl]
theorem aVt {l:List Nat} {k x:Nat} (h:l[k]?=some x):rl (l.take (k+1))=rl (l.take k)++[IntKind.i64.wrap (lT x:Int)]:=by unfold rl;rw [List.take_add_one,h,List.map_append]; rfl
theorem aRa {l:List Nat} (h:l.length<=4096):uQ l=some (fX (rl l)):=by
 unfold uQ;have:=kC (b:=λs:List Int×Int=>jI l s.1 s.2) (λk=>(rl (l.take k),(k:Int))) (t:=rl l) l.length (λk hk=>by
  have hx:=List.getElem?_eq_getElem hk;have hlen:(rl (l.take k)).length=k:=by rw [aCi,List.length_take]; omega
  show jI l (rl (l.take k)) (k:Int)=_;unfold jI;rw [if_pos (by simp only [decide_eq_true_eq]; omega),bE rfl hx];simp only [Option.bind_some];rw [aHt];simp only [Option.bind_some,lt_];rw [bL (by rw [hlen]; simp only [List.length_singleton]; omega),w64 (n:=(k:Int)+1) (by omega) (by omega), ← aVt hx];rfl) (by
  show jI l (rl (l.take l.length)) (l.length:Int)=_;unfold jI;rw [if_neg (by simp),List.take_length])
 rw [show (([],0):List Int×Int)=(λk=>(rl (l.take k),(k:Int))) 0 by simp [rl],this];simp only [Option.bind_some];unfold qP sW;rw [aBu (by rw [aCi]; exact h) (aLa l)];rfl
def ub (b:Int):Nat:=(IntKind.u64.wrap b).toNat
theorem aX1 (b:Int):IntKind.u64.wrap b=(ub b:Int):=by unfold ub;rw [IntKind.wrap_u64]; omega
def aFr (l:List Int):Option (List Nat):=if l.all (λb=>lT (ub b)==ub b)=true then some (l.map ub) else none
theorem aHv (l:List Int) (f:Int) (h:l.length<=4096):∀ (m k:Nat),k+m=l.length->(∀ b∈l.take k,lT (ub b)=ub b) ->
  loop (λs:List Nat×Int=>dO (l,f) s.1 s.2) ((l.take k).map ub,(k:Int))=some (if (l.drop k).all (λb=>lT (ub b)==ub b)=true then .inl (l.map ub) else .inr ([],3))
 | 0,k,hk,ha=>by
  rw [bK (t:=Sum.inl (l.map ub)) (by
   show dO (l,f) ((l.take k).map ub) (k:Int)=_;unfold dO;rw [if_neg (by simp only [decide_eq_true_eq]; omega),show k=l.length by omega,List.take_length]),show k=l.length by omega,List.drop_length]
  rfl
 | m+1,k,hk,ha=>by
  have a:k<l.length:=by omega
  have hx:=List.getElem?_eq_getElem a;have hd:l.drop k=l[k]::l.drop (k+1):=List.drop_eq_getElem_cons a;rw [hd,List.all_cons];have hlen:((l.take k).map ub).length=k:=by simp; omega
  by_cases hc:lT (ub l[k])=ub l[k]
  ·rw [show (lT (ub l[k])==ub l[k])=true by simpa using hc,Bool.true_and,cL (s':=((l.take (k+1)).map ub,((k+1:Nat):Int))) (by
    show dO (l,f) ((l.take k).map ub) (k:Int)=_;unfold dO;rw [if_pos (by simp only [decide_eq_true_eq]; omega),bE rfl hx];simp only [Option.bind_some,lt_];rw [aX1,aR6];simp only [Option.bind_some];rw [aHt];simp only [Option.bind_some,Int.toNat_natCast];rw [zG,hc,if_neg (by simp),bL (by rw [hlen]; simp only [List.length_singleton]; omega),w64 (by omega) (by omega),tP hx,List.map_append];rfl)]
   exact aHv l f h m (k+1) (by omega) (λb hb=>by
    rw [tP hx] at hb;rcases List.mem_append.1 hb with q | q
    ·exact ha b q
    ·rw [List.mem_singleton.1 q]; exact hc)
  ·rw [show (lT (ub l[k])==ub l[k])=false by simpa using hc,Bool.false_and,if_neg (by simp)];refine bK ?_;show dO (l,f) ((l.take k).map ub) (k:Int)=_;unfold dO;rw [if_pos (by simp only [decide_eq_true_eq]; omega),bE rfl hx];simp only [Option.bind_some,lt_];rw [aX1,aR6];simp only [Option.bind_some];rw [aHt];simp only [Option.bind_some,Int.toNat_natCast];rw [zG,if_pos (by simp only [bne_iff_ne,ne_eq,Int.natCast_inj]; exact hc)]
theorem aJw:∀ (n:Nat) (xs:List Int) {l r:List Int},aBf n xs=some (l,r)->l.length=n
 | 0,xs,l,r,h=>by cases h; rfl
 | n+1,xs,l,r,h=>by
  unfold aBf at h;split at h
  ·split at h
   ·rename_i he;cases h;simp [aJw n _ he]
   ·cases h
  ·cases h
theorem aT6:∀ (n:Nat) (a:Int) (xs:List Int) {l r:List Int},pD a n xs=some (l,r)->l.length=n
 | 0,a,xs,l,r,h=>by cases h; rfl
 | n+1,a,xs,l,r,h=>by
  unfold pD at h;split at h
  ·split at h
   ·rename_i he;cases h;simp [aT6 n _ _ he]
   ·cases h
  ·cases h
theorem aT7:∀ (f n:Nat) (xs:List Int) {l r:List Int},pR f n xs=some (l,r)->l.length<=n
 | 0,n,xs,l,r,h=>by cases h; simp
 | f+1,n,xs,l,r,h=>by
  unfold pR at h;split at h
  ·cases h; simp
  ·split at h
   ·split at h
    ·rename_i hk;split at h
     ·rename_i he;cases h;have:=aT7 f _ _ he;have:=(tA hk).1;simp only [List.length_append,List.length_replicate];omega
     ·cases h
    ·cases h
   ·cases h
theorem aY7 (n:Nat) (xs:List Int) {l r:List Int} (h:pP n xs=some (l,r)):l.length=n:=by
 unfold pP at h;split at h
 ·split at h
  ·split at h
   ·cases h;rw [List.length_map,rE]
   ·cases h
  ·cases h
 ·cases h
theorem aQw (w:Int) (n:Nat) (xs:List Int) {l r:List Int} (h:aJ4 w n xs=some (l,r)):l.length<=n:=by
 unfold aJ4 at h;split at h
 ·exact Nat.le_of_eq (aJw _ _ h)
 ·split at h
  ·exact Nat.le_of_eq (aT6 _ _ _ h)
  ·split at h
   ·exact aT7 _ _ _ h
   ·split at h
    ·exact Nat.le_of_eq (aY7 _ _ h)
    ·cases h; simp
theorem aJ9 {xs l r:List Int} (h:aF1 xs=some (l,r)):l.length<=4096:=by
 unfold aF1 at h;split at h
 ·split at h
  ·split at h
   ·rename_i hu;have:=aQw _ _ _ h;have:=(tA hu).1;omega
   ·cases h
  ·cases h
 ·cases h
theorem aJy {xs l:List Int} (h:vB xs=some l):l.length<=4096:=by
 unfold vB at h;split at h
 ·cases h; exact aJ9 (by assumption)
 ·cases h
theorem aI7 {xs:List Int} (hB:Bs xs) (hl:xs.length<1099511627776):oH xs=some (match (vB xs).bind aFr with | some l=>(l,0) | none=>([],3)):=by
 unfold oH;rw [xD hB hl];simp only [Option.bind_some];cases h:vB xs with
 | none=>rfl
 | some l =>
  simp only [Option.bind_some];rw [if_neg (by simp)];have:=aHv l 0 (aJy h) l.length 0 (by omega) (λb hb=>by simp at hb);simp only [List.take_zero,List.map_nil,List.drop_zero] at this;rw [show ((0:Nat):Int)=0 from rfl] at this;rw [this];unfold aFr;simp only [Option.bind_some];cases (l.all λb=>lT (ub b)==ub b)
  ·rfl
  ·rfl
theorem aOc {l:List Nat} (h:∀ x∈l,x<18446744073709551616):aFr (rl l)=some (l.map lT):=by
 have hu:∀ x∈l,ub (IntKind.i64.wrap (lT x:Int))=lT x:=by intro x hx;have:=aMz (h x hx);unfold ub;rw [IntKind.wrap_u64,IntWalk.i64_left];unfold wrap64;omega
 unfold aFr rl;rw [if_pos]
 ·rw [List.map_map];congr 1;exact List.map_congr_left λx hx=>hu x hx
 ·rw [List.all_eq_true];intro b hb;obtain⟨x,hx,rfl⟩:=List.mem_map.1 hb;rw [hu x hx,zG];simp
def IsT (B acc:List Int) (t:List Int×Int×List Int) (p:Option (List Int×List Int)):Prop :=
 match p with
 | some (l,r)=>∃ q:Nat,t=(B,(q:Int),acc++l)/\q<=B.length/\B.drop q=r
 | none=>∃ a,t=(B,-1,a)
theorem IsT.cons {B acc:List Int} {t:List Int×Int×List Int} {p:Option (List Int×List Int)} (x:List Int) (h:IsT B (acc++x) t p) :
  IsT B acc t (match (generalizing:=false) p with | some (l,r)=>some (x++l,r) | none=>none):=by
 cases p with
 | none=>exact h
 | some y =>
  obtain⟨q,a,b,c⟩:=h;exact⟨q,by rw [a,List.append_assoc],b,c⟩
section
variable {B:List Int} (hBs:Bs B) (hB:B.length<1099511627776)
include hBs hB
end
section
variable {B:List Int} (hBs:Bs B) (hB:B.length<1099511627776)
include hBs hB
end
section
variable {B xs:List Int} {p:Nat} (hp:p<=B.length) (hx:B.drop p=xs) (hBs:Bs xs) (hB:B.length<1099511627776) (hs:xs.length<=32768)
include hp hx hBs hB hs
end
def aH4 (acc:List (List UInt8)) (t:List UInt8):Bool:=match acc[acc.length - 1]? with
 | some y=>Op.bytesLess y t
 | none=>true
def aDm (acc:List (List UInt8)):Nat->List Int->Option (List (List UInt8)×List Int)
 | 0,xs=>some (acc,xs)
 | n+1,xs=>match pT 32 xs with
  | some (t,r)=>if aH4 acc t=true then aDm (acc++[t]) n r else none
  | none=>none
def okI (n:Nat) (ix:List Int):Bool:=ix.all λi=>decide (0<=i/\i<(n:Int))
def usd (n:Nat) (ix:List Int):List Bool:=(List.range n).map λ(j:Nat)=>decide ((j:Int)∈ix)
def tx (ds:List (List UInt8)) (ix:List Int):List (List UInt8):=ix.map λi=>ds.getD i.toNat []
def aIf (xs:List Int):Option (List (List UInt8)×List Int):=match pU 4096 xs with
 | some (n,r)=>match aDm [] n.toNat r with
  | some (ds,r')=>match aF1 r' with
   | some (ix,r'')=>if okI ds.length ix=true/\false∉usd ds.length ix then some (tx ds ix,r'') else none
   | none=>none
  | none=>none
 | none=>none
theorem aPw {most:Int} {xs r:List Int} {t:List UInt8} (hB:Bs xs) (h:pT most xs=some (t,r)):Bs r/\r.length<=xs.length:=by
 unfold pT at h;split at h
 ·rename_i n r' he;obtain⟨_,p,hp,_⟩:=tA he;have hb:=aMj hB he;split at h
  ·cases h;refine⟨hb.drop _,?_⟩;rw [hp]; simp; omega
  ·cases h
 ·cases h
theorem aNc:∀ (n:Nat) (acc:List (List UInt8)) (xs:List Int) {ds:List (List UInt8)} {r:List Int},Bs xs->aDm acc n xs=some (ds,r)->Bs r/\r.length<=xs.length/\ds.length=acc.length+n
 | 0,acc,xs,ds,r,hB,h=>by cases h; exact⟨hB,Nat.le_refl _,rfl⟩
 | n+1,acc,xs,ds,r,hB,h=>by
  unfold aDm at h;split at h
  ·rename_i t r' he;obtain⟨a,d⟩:=aPw hB he;split at h
   ·obtain⟨b,e,c⟩:=aNc n _ _ a h;refine⟨b,by omega,?_⟩;rw [c,List.length_append,List.length_singleton]; omega
   ·cases h
  ·cases h
theorem aLz (l:List Bool) (b:Bool) (h:l.length<1099511627776):gV l b=some (decide (b∈l)):=by
 unfold gV lP;have key:∀ (m k:Nat),k+m=l.length->∃ y,loop (λs:Int=>dT l b s) (k:Int)=some y/\if b∈l.drop k then ∃ j:Nat,y=.inr (j:Int) else y=.inl ():=by
  intro m
  induction m with
  | zero =>
   intro k hk;refine⟨.inl (),bK ?_,?_⟩
   ·unfold dT;rw [if_neg (by simp only [decide_eq_true_eq]; omega)]
   ·rw [List.drop_of_length_le (by omega),if_neg (by simp)]
  | succ m ih =>
   intro k hk;have c:k<l.length:=by omega
   have hx:=List.getElem?_eq_getElem c;have hd:l.drop k=l[k]::l.drop (k+1):=List.drop_eq_getElem_cons c;rw [hd];by_cases hb:b=l[k]
   ·refine⟨.inr (k:Int),bK ?_,?_⟩
    ·unfold dT;rw [if_pos (by simp only [decide_eq_true_eq]; omega),bE rfl hx];simp only [Option.bind_some];rw [if_pos (by simpa using hb)]
    ·rw [if_pos (by rw [hb]; exact List.mem_cons_self)];exact⟨k,rfl⟩
   ·obtain⟨y,a,hm⟩:=ih (k+1) (by omega);refine⟨y,(cL (s':=((k+1:Nat):Int)) ?_).trans a,?_⟩
    ·unfold dT;rw [if_pos (by simp only [decide_eq_true_eq]; omega),bE rfl hx];simp only [Option.bind_some];rw [if_neg (by simpa using hb),lt_,w64 (by omega) (by omega)];rfl
    ·have he:(b∈l[k]::l.drop (k+1))=(b∈l.drop (k+1)):=propext ⟨λh=>(List.mem_cons.1 h).resolve_left hb,λh=>List.mem_cons_of_mem _ h⟩;simpa only [he] using hm
 obtain⟨y,a,hm⟩:=key l.length 0 (by omega);rw [show ((0:Nat):Int)=0 from rfl] at a;rw [a,List.drop_zero] at *;by_cases hb:b∈l
 ·rw [if_pos hb] at hm;obtain⟨j,rfl⟩:=hm;simp only [Option.bind_some];rw [show decide (0<=(j:Int))=true by simp,show decide (b∈l)=true by simpa using hb]
 ·rw [if_neg hb] at hm;subst hm;rw [show decide (b∈l)=false by simpa using hb];rfl
theorem aS3 (n:Nat) (ix:List Int) (k:Nat) {x:Int} (h:ix[k]?=some x):okI n (ix.take (k+1))=(okI n (ix.take k)&&decide (0<=x/\x<(n:Int))):=by unfold okI;rw [tP h,List.all_append];simp
theorem aTl {n:Nat} {ix:List Int} (h:okI n ix=true) (k:Nat):okI n (ix.take k)=true:=by unfold okI at *;rw [List.all_eq_true] at *;exact λx hx=>h x (List.mem_of_mem_take hx)
theorem aSl (n:Nat) (ix:List Int) {x:Int} (hx:0<=x/\x<(n:Int)):usd n (ix++[x])=(usd n ix).set x.toNat true:=by
 apply List.ext_getElem? λj=>?_;unfold usd;rw [List.getElem?_set];simp only [List.getElem?_map,List.length_map,List.length_range];rcases Nat.lt_or_ge j n with a | a
 ·rw [List.getElem?_range a];by_cases e:x.toNat=j
  ·rw [if_pos e,if_pos (by omega)];simp;right; omega
  ·rw [if_neg e];have:¬ (j:Int)=x:=by omega
   simp [this]
 ·rw [List.getElem?_eq_none (by simpa using a)];rw [if_neg (by omega)];rfl
theorem aUp (n:Nat):usd n []=List.replicate n false:=by unfold usd;rw [List.eq_replicate_iff];refine⟨by simp,λb hb=>?_⟩;obtain⟨q,_,rfl⟩:=List.mem_map.1 hb;simp
theorem aHe (n:Nat) (ix:List Int):(usd n ix).length=n:=by simp [usd]
theorem aZn (n:Nat) (ix:List Int) {x:Int} (hx:0<=x/\x<(n:Int)):∃ b,at_ (usd n ix) x=some b:=by
 have:x.toNat<(usd n ix).length:=by rw [aHe]; omega
 exact⟨_,bE (n:=x.toNat) (by omega) (List.getElem?_eq_getElem this)⟩
theorem bDa (ds:List (List UInt8)) {x:Int} (hx:0<=x/\x<(ds.length:Int)):at_ ds x=some (ds.getD x.toNat []):=by
 have:x.toNat<ds.length:=by omega
 refine bE (n:=x.toNat) (by omega) ?_;rw [List.getD_eq_getElem?_getD,List.getElem?_eq_getElem this];rfl
theorem aV3 (ds:List (List UInt8)) (ix:List Int) (x:Int):tx ds (ix++[x])=tx ds ix++[ds.getD x.toNat []]:=by unfold tx; rw [List.map_append]; rfl
theorem aQy (ds:List (List UInt8)) (ix:List Int):(tx ds ix).length=ix.length:=by simp [tx]
theorem aJb (ds:List (List UInt8)) (ix:List Int) (Y:S140) (xs:List Int) (hl:ix.length<=4096):∀ (m k:Nat),k+m=ix.length->okI ds.length (ix.take k)=true ->
  ∃ y,loop (λs:List Int×List (List UInt8)×List Bool×Int=>cE ds (ix,Y) s.1 s.2.1 s.2.2.1 s.2.2.2) (xs,tx ds (ix.take k),usd ds.length (ix.take k),(k:Int))=some y /\
   if okI ds.length ix=true then y=.inl (xs,tx ds ix,usd ds.length ix) else ∃ s,y=.inr (.inr s)
 | 0,k,hk,ha=>by
  have g:k=ix.length:=by omega
  subst g;rw [List.take_length] at ha ⊢;refine⟨.inl (xs,tx ds ix,usd ds.length ix),bK ?_,by rw [if_pos ha]⟩;show cE ds (ix,Y) xs (tx ds ix) (usd ds.length ix) (ix.length:Int)=_;unfold cE;rw [if_neg (by simp)]
 | m+1,k,hk,ha=>by
  have i:k<ix.length:=by omega
  have hx:=List.getElem?_eq_getElem i;have d:=aS3 ds.length ix k hx;have e:∀ s,cE ds (ix,Y) xs (tx ds (ix.take k)) (usd ds.length (ix.take k)) (k:Int)=some (.inr (.inr (.inr s)))->¬ (0<=ix[k]/\ix[k]<(ds.length:Int)) ->
    ∃ y,loop (λs:List Int×List (List UInt8)×List Bool×Int=>cE ds (ix,Y) s.1 s.2.1 s.2.2.1 s.2.2.2) (xs,tx ds (ix.take k),usd ds.length (ix.take k),(k:Int))=some y /\
   if okI ds.length ix=true then y=.inl (xs,tx ds ix,usd ds.length ix) else ∃ s,y=.inr (.inr s):=by
   intro s hs hn;refine⟨_,bK hs,?_⟩;rw [if_neg]
   ·exact⟨_,rfl⟩
   ·intro h;have:=aTl h (k+1);rw [d] at this;simp only [Bool.and_eq_true,decide_eq_true_eq] at this;exact hn this.2
  by_cases h0:0<=ix[k]
  ·by_cases a:ix[k]<(ds.length:Int)
   ·obtain⟨b,hb⟩:=aZn ds.length (ix.take k) ⟨h0,a⟩;obtain⟨y,f,hm⟩:=aJb ds ix Y xs hl m (k+1) (by omega) (by rw [d,ha]; simp [h0,a]);rw [tP hx,aV3,aSl _ _ ⟨h0,a⟩] at f;refine⟨y,(cL (s':=(xs,tx ds (ix.take k)++[ds.getD ix[k].toNat []],(usd ds.length (ix.take k)).set ix[k].toNat true,((k+1:Nat):Int))) ?_).trans f,hm⟩;show cE ds (ix,Y) xs (tx ds (ix.take k)) (usd ds.length (ix.take k)) (k:Int)=_;unfold cE;rw [if_pos (by simp only [decide_eq_true_eq]; omega),bE rfl hx];simp only [Option.bind_some];rw [if_pos (by simpa using h0),show decide (ix[k]<(ds.length:Int))=true by simpa using a,mL];simp only [Option.bind_some,hJ];unfold jQ;rw [hb,bDa _ ⟨h0,a⟩];simp only [Option.bind_some];rw [bL (by rw [aQy]; simp; omega),lt_,w64 (by omega) (by omega)];rfl
   ·refine e (⟨xs⟩,tx ds (ix.take k)) ?_ (λc=>a c.2);unfold cE;rw [if_pos (by simp only [decide_eq_true_eq]; omega),bE rfl hx];simp only [Option.bind_some];rw [if_pos (by simpa using h0),show decide (ix[k]<(ds.length:Int))=false by simpa using a,rZ];rfl
  ·refine e (⟨xs⟩,tx ds (ix.take k)) ?_ (λc=>h0 c.1);unfold cE;rw [if_pos (by simp only [decide_eq_true_eq]; omega),bE rfl hx];simp only [Option.bind_some];rw [if_neg (by simpa using h0),rZ];rfl
theorem aHz (Y:Int×S140) (n:Nat) (a:Y.1=(n:Int)) (hn:n<=4096):∀ (m k:Nat) (acc:List (List UInt8)) (xs:List Int),Bs xs->xs.length<1099511627776->k+m=n->acc.length=k ->
  ∃ y,loop (λs:List Int×List (List UInt8)×Int=>dC [] Y s.1 s.2.1 s.2.2) (xs,acc,(k:Int))=some y/\match aDm acc m xs with
   | some (l,r)=>y=.inl (r,l)
   | none=>∃ s,y=.inr (.inr s)
 | 0,k,acc,xs,hB,hl,hk,ha=>by refine⟨.inl (xs,acc),bK ?_,rfl⟩;show dC [] Y xs acc (k:Int)=_;unfold dC;rw [a,if_neg (by simp only [decide_eq_true_eq]; omega)]
 | m+1,k,acc,xs,hB,hl,hk,ha=>by
  unfold aDm;rcases (aLl 32 hB (by omega)).cases with ⟨t,r,b,c⟩ | ⟨b,s,c⟩
  ·rw [b];obtain⟨e,g⟩:=aPw hB b;have d:∀ (z:S140⊕S140),aI (⟨r⟩:S140) (aH4 acc t)=some z->dC [] Y xs acc (k:Int)=(fJ z (λy=>hD acc (k:Int) (t,⟨r⟩) y.f0) (λy=>some (.inr (.inr (.inr (y,[])))))):=by
    intro z hz;unfold dC;rw [a,if_pos (by simp only [decide_eq_true_eq]; omega),c];simp only [Option.bind_some,hJ,lt_];unfold aH4 at hz;by_cases h0:acc.length=0
    ·rw [List.getElem?_eq_none (by omega)] at hz;rw [if_pos (by simpa using h0),hz];rfl
    ·have hx:=List.getElem?_eq_getElem (l:=acc) (i:=acc.length - 1) (by omega);rw [hx] at hz;rw [if_neg (by simpa using h0),w64 (by omega) (by omega),bE (n:=acc.length - 1) (by omega) hx];simp only [Option.bind_some];rw [hz];rfl
   by_cases hr:aH4 acc t=true
   ·obtain⟨y,f,hm⟩:=aHz Y n a hn m (k+1) (acc++[t]) r e (by omega) (by omega) (by simp [ha]);simp only [hr,if_true];refine⟨y,(cL (s':=(r,acc++[t],((k+1:Nat):Int))) ?_).trans f,hm⟩;refine (d _ (by rw [hr,mL])).trans ?_;rw [hJ];unfold hD;rw [bL (by simp; omega),lt_,oM (by omega) (by omega)];rfl
   ·rw [Bool.not_eq_true] at hr;simp only [hr,Bool.false_eq_true,if_false];exact⟨_,bK ((d _ (by rw [hr,rZ])).trans rfl),_,rfl⟩
  ·rw [b];refine⟨_,bK (t:=Sum.inr (.inr (s,[]))) ?_,_,rfl⟩;show dC [] Y xs acc (k:Int)=_;unfold dC;rw [a,if_pos (by simp only [decide_eq_true_eq]; omega),c];rfl
theorem aT2 {xs:List Int} (hB:Bs xs) (hl:xs.length<1099511627776):match aIf xs with
  | some (T,r)=>jU ⟨xs⟩ []=some (.inl (⟨r⟩,T))
  | none=>∃ s,jU ⟨xs⟩ []=some (.inr s):=by
 unfold jU aIf;rcases (aCn 4096 hB).cases with ⟨n,r,b,f⟩ | ⟨b,s,f⟩
 ·rw [b,f];obtain⟨⟨o,q,t⟩,p,hp,_⟩:=tA b;have h:=aMj hB b;have u:r.length<=xs.length:=by rw [hp]; simp
  obtain⟨n,rfl⟩:∃ m:Nat,n=(m:Int):=⟨n.toNat,by omega⟩;simp only [Option.bind_some,hJ,Int.toNat_natCast];obtain⟨y,a,hm⟩:=aHz ((n:Int),⟨r⟩) n rfl (by omega) n 0 [] r h (by omega) (by omega) rfl;rw [show ((0:Nat):Int)=0 from rfl] at a;rw [a];simp only [Option.bind_some];cases hd:aDm [] n r with
  | none =>
   rw [hd] at hm;obtain⟨s,rfl⟩:=hm;exact⟨s,rfl⟩
  | some z =>
   obtain⟨ds,r'⟩:=z;rw [hd] at hm;simp only at hm;subst hm;obtain⟨j,v,k⟩:=aNc n _ _ h hd;have w:ds.length=n:=by simpa using k
   simp only;unfold kU mK;rw [bL (by omega)];rcases (aPn j (by omega)).cases with ⟨ix,i,d,g⟩ | ⟨d,s,g⟩
   ·rw [d,g];have l:=aJ9 d;simp only [Option.bind_some,hJ];obtain⟨y,a,hm⟩:=aJb ds ix ⟨i⟩ i l ix.length 0 (by omega) rfl;rw [List.take_zero,aUp,show ((0:Nat):Int)=0 from rfl] at a;rw [Int.toNat_natCast];have e0:tx ds []=[]:=rfl;rw [e0] at a;rw [a];simp only [Option.bind_some];by_cases e:okI ds.length ix=true
    ·rw [if_pos e] at hm;subst hm;simp only;unfold kZ mJ;rw [aLz _ _ (by rw [aHe]; omega)];simp only [Option.bind_some];by_cases hu:false∈usd ds.length ix
     ·rw [show decide (false∈usd ds.length ix)=true by simpa using hu,Bool.not_true,rZ,if_neg (λc=>c.2 hu)];exact⟨_,rfl⟩
     ·rw [show decide (false∈usd ds.length ix)=false by simpa using hu,Bool.not_false,mL,if_pos ⟨e,hu⟩];rfl
    ·rw [if_neg e] at hm;obtain⟨s,rfl⟩:=hm;rw [if_neg (λc=>e c.1)];exact⟨s,rfl⟩
   ·rw [d,g];exact⟨_,rfl⟩
 ·rw [b,f];exact⟨_,rfl⟩
def aJd (xs:List Int):Option (List (List UInt8)):=match aIf xs with
 | some (T,[])=>some T
 | _=>none
theorem aI2 {xs:List Int} (hB:Bs xs) (hl:xs.length<1099511627776):oK xs=some (match aJd xs with | some T=>(T,0) | none=>([],3)):=by
 unfold oK pF aJd;have h:=aT2 hB hl;cases hp:aIf xs with
 | none =>
  rw [hp] at h;obtain⟨s,hs⟩:=h;rw [hs];rfl
 | some z =>
  obtain⟨T,r⟩:=z;rw [hp] at h;simp only at h;rw [h];cases r with
  | nil=>rfl
  | cons b r =>
   simp only [Option.bind_some,hJ];rw [show (((b::r).length:Int)==0)=false by simp; omega];rfl
def aMm (xs:List Int):Option (List Nat):=(vB xs).bind aFr
structure SWO {α:Type} (lt:α->α->Bool):Prop where
 irr:∀ a,lt a a=false
 trans:∀ a b c,lt a b=true->lt b c=true->lt a c=true
 neg:∀ a b c,lt a c=true->lt a b=true\/lt b c=true
section
variable {α:Type} {lt:α->α->Bool}
def ins (lt:α->α->Bool) (x:α):List α->List α
 | []=>[x]
 | y::l=>if lt x y then x::y::l else y::ins lt x l
def sortL (lt:α->α->Bool) (l:List α):List α:=l.foldl (λacc x=>ins lt x acc) []
def Srt (lt:α->α->Bool) (l:List α):Prop:=l.Pairwise λa b=>lt b a=false
theorem aHr (x:α):∀ l:List α,(ins lt x l).length=l.length+1
 | []=>rfl
 | y::l=>by unfold ins; split <;> simp [aHr x l]
theorem aE7:∀ (l acc:List α),(l.foldl (λacc x=>ins lt x acc) acc).length=acc.length+l.length
 | [],acc=>by simp
 | x::l,acc=>by rw [List.foldl_cons,aE7 l,aHr]; simp; omega
theorem aE3 (l:List α):(sortL lt l).length=l.length:=by unfold sortL; rw [aE7]; simp
theorem aQk {l:List α} (h:Srt lt l) {i j:Nat} {x y:α} (a:i<j) (hx:l[i]?=some x) (b:l[j]?=some y):lt y x=false:=by obtain⟨c,rfl⟩:=List.getElem?_eq_some_iff.1 hx;obtain⟨d,rfl⟩:=List.getElem?_eq_some_iff.1 b;exact List.pairwise_iff_getElem.1 h i j c d a
end
def bef (x y:S61):Bool:=if x.f3==y.f3 then (if x.f2==y.f2 then decide (x.f0<y.f0) else decide (x.f2<y.f2)) else Op.bytesLess x.f3 y.f3
def Anc (i j:Nat):Prop:=∃ m,j / 2 ^ m=i
theorem Anc.refl (i:Nat):Anc i i:=⟨0,by simp⟩
theorem Anc.up {i j:Nat} (h:Anc i j):Anc (i / 2) j:=by obtain⟨m,rfl⟩:=h;exact⟨m+1,by rw [Nat.pow_succ,Nat.div_div_eq_div_mul]⟩
theorem Anc.trans {i j k:Nat} (h:Anc i j) (a:Anc j k):Anc i k:=by obtain⟨m,rfl⟩:=h;obtain⟨b,rfl⟩:=a;exact⟨b+m,by rw [Nat.pow_add,Nat.div_div_eq_div_mul]⟩
theorem Anc.le {i j:Nat} (h:Anc i j):i<=j:=by obtain⟨m,rfl⟩:=h; exact Nat.div_le_self _ _
theorem Anc.half {i j:Nat} (h:Anc i j) (hn:i≠j):Anc i (j / 2):=by
 obtain⟨m,rfl⟩:=h;cases m with
 | zero=>simp at hn
 | succ m=>exact⟨m,by rw [Nat.pow_succ,Nat.mul_comm,Nat.div_div_eq_div_mul]⟩
theorem Anc.one:∀ (j:Nat),1<=j->Anc 1 j:=by
 intro j
 induction j using Nat.strongRecOn with
 | _ j ih =>
  intro a;rcases Nat.lt_or_ge j 2 with h | h
  ·rw [show j=1 by omega]; exact Anc.refl 1
  ·exact (ih (j / 2) (by omega) (by omega)).trans ⟨1,rfl⟩
theorem Anc.apart {i j:Nat} (hi:1<=i) (h:Anc (2 * i) j) (c:Anc (2 * i+1) j):False:=by
 obtain⟨m,hm⟩:=h;obtain⟨a,b⟩:=c;rcases Nat.lt_trichotomy m a with e | rfl | e
 ·obtain⟨d,rfl⟩:∃ d,a=m+(d+1):=⟨a - m - 1,by omega⟩;rw [Nat.pow_add, ← Nat.div_div_eq_div_mul,hm,Nat.pow_succ,Nat.mul_comm (2 ^ d), ← Nat.div_div_eq_div_mul] at b;have:=Nat.div_le_self (2 * i / 2) (2 ^ d);omega
 ·omega
 ·obtain⟨d,rfl⟩:∃ d,m=a+(d+1):=⟨m - a - 1,by omega⟩;rw [Nat.pow_add, ← Nat.div_div_eq_div_mul,b,Nat.pow_succ,Nat.mul_comm (2 ^ d), ← Nat.div_div_eq_div_mul] at hm;have:=Nat.div_le_self ((2 * i+1) / 2) (2 ^ d);omega
structure STO (k:Nat) (lt:Nat->Nat->Bool):Prop where
 irr:∀ a,lt a a=false
 trans:∀ a b c,lt a b=true->lt b c=true->lt a c=true
 tot:∀ a b,a<k->b<k->a≠b->lt a b=true\/lt b a=true
def Inn (lt:Nat->Nat->Bool) (W node:Nat->Nat) (i:Nat):Prop :=
 lt (W i) (node i)=true/\((W i=W (2 * i)/\node i=W (2 * i+1))\/(W i=W (2 * i+1)/\node i=W (2 * i)))
structure Tour (k:Nat) (lt:Nat->Nat->Bool) (W node:Nat->Nat):Prop where
 leaf:∀ i,i<k->W (k+i)=i
 inner:∀ i,1<=i->i<k->Inn lt W node i
section
variable {k:Nat} {lt:Nat->Nat->Bool} {W node:Nat->Nat}
theorem below (leaf:∀ i,i<k->W (k+i)=i) (i0:Nat) (h0:1<=i0) (inner:∀ i,i0<=i->i<k->(W i=W (2 * i)\/W i=W (2 * i+1))) :
  ∀ (n i:Nat),i0<=i->i<2 * k->2 * k - i=n->W i<k/\Anc i (W i+k):=by
 intro n
 induction n using Nat.strongRecOn with
 | _ n ih =>
  intro i hi hk hn;rcases Nat.lt_or_ge i k with h | h
  ·rcases inner i hi h with a | a
   ·obtain⟨b,c⟩:=ih (2 * k - 2 * i) (by omega) (2 * i) (by omega) (by omega) rfl;rw [a];exact⟨b,by have:=c.up; rwa [show 2 * i / 2=i by omega] at this⟩
   ·obtain⟨b,c⟩:=ih (2 * k - (2 * i+1)) (by omega) (2 * i+1) (by omega) (by omega) rfl;rw [a];exact⟨b,by have:=c.up; rwa [show (2 * i+1) / 2=i by omega] at this⟩
  ·have:=leaf (i - k) (by omega);rw [show k+(i - k)=i by omega] at this;rw [this];exact⟨by omega,by rw [show i - k+k=i by omega]; exact Anc.refl i⟩
theorem Inn.or {i:Nat} (h:Inn lt W node i):W i=W (2 * i)\/W i=W (2 * i+1):=h.2.elim (λh=>.inl h.1) λh=>.inr h.1
theorem Tour.below (h:Tour k lt W node) {i:Nat} (hi:1<=i) (hk:i<2 * k):W i<k/\Anc i (W i+k) :=
 P.below h.leaf 1 (Nat.le_refl _) (λi a b=>(h.inner i a b).or) _ i hi hk rfl
theorem Tour.min (h:Tour k lt W node) (o:STO k lt):∀ (n i:Nat),1<=i->i<2 * k->2 * k - i=n->∀ j,j<k->Anc i (j+k)->j=W i\/lt (W i) j=true:=by
 intro n
 induction n using Nat.strongRecOn with
 | _ n ih =>
  intro i hi hk hn j p e;rcases Nat.lt_or_ge i k with f | f
  ·have q:=e.half (by omega);obtain⟨m,hm⟩:=q;have key:∀ c,(c=2 * i\/c=2 * i+1)->Anc c (j+k)->j=W i\/lt (W i) j=true:=by
    intro c hc r;obtain⟨g,l⟩:=h.inner i hi f;have:=ih (2 * k - c) (by omega) c (by omega) (by omega) rfl j p r;have a:W i=W c\/lt (W i) (W c)=true:=by
     rcases hc with rfl | rfl
     ·rcases l with ⟨b,d⟩ | ⟨b,d⟩
      ·exact .inl b
      ·exact .inr (d▸g)
     ·rcases l with ⟨b,d⟩ | ⟨b,d⟩
      ·exact .inr (d▸g)
      ·exact .inl b
    rcases a with a | a
    ·rw [a]; exact this
    ·rcases this with rfl | this
     ·exact .inr a
     ·exact .inr (o.trans _ _ _ a this)
   obtain⟨m,hm⟩:=e;cases m with
   | zero=>simp at hm; omega
   | succ m =>
    rw [Nat.pow_succ, ← Nat.div_div_eq_div_mul] at hm;exact key _ (by omega) ⟨m,rfl⟩
  ·have:=h.leaf (i - k) (by omega);rw [show k+(i - k)=i by omega] at this;obtain⟨m,hm⟩:=e;cases m with
   | zero=>simp at hm; exact .inl (by omega)
   | succ m =>
    rw [Nat.pow_succ,Nat.mul_comm, ← Nat.div_div_eq_div_mul] at hm;have:=Nat.div_le_self ((j+k) / 2) (2 ^ m);omega
theorem Tour.first (h:Tour k lt W node) (a:STO k lt) (hk:1<=k) {j:Nat} (b:j<k) (hn:j≠W 1):lt (W 1) j=true :=
 (h.min a _ 1 (Nat.le_refl _) (by omega) rfl j b (Anc.one _ (by omega))).resolve_left hn
theorem Tour.path (h:Tour k lt W node) (hk:1<=k):∀ (i:Nat),1<=i->Anc i (W 1+k)->W i=W 1:=by
 intro i
 induction i using Nat.strongRecOn with
 | _ i ih =>
  intro hi b;have hw:=(h.below (i:=1) (by omega) (by omega)).1;have e:i<2 * k:=by have:=b.le; omega
  rcases Nat.lt_or_ge i 2 with d | d
  ·rw [show i=1 by omega]
  ·have hp:=ih (i / 2) (by omega) (by omega) b.up;rcases (h.inner (i / 2) (by omega) (by omega)).or with a | a
   ·have hb:=h.below (i:=2 * (i / 2)) (by omega) (by omega);rw [← a,hp] at hb;rcases Nat.mod_two_eq_zero_or_one i with c | c
    ·rw [show i=2 * (i / 2) by omega, ← a,hp]
    ·exact (Anc.apart (i:=i / 2) (by omega) hb.2 (by rw [show 2 * (i / 2)+1=i by omega]; exact b)).elim
   ·have hb:=h.below (i:=2 * (i / 2)+1) (by omega) (by omega);rw [← a,hp] at hb;rcases Nat.mod_two_eq_zero_or_one i with c | c
    ·exact (Anc.apart (i:=i / 2) (by omega) (by rw [show 2 * (i / 2)=i by omega]; exact b) hb.2).elim
    ·rw [show i=2 * (i / 2)+1 by omega, ← a,hp]
structure Way (k:Nat) (lt lt':Nat->Nat->Bool) (W node:Nat->Nat) (c:Nat) (W' node':Nat->Nat):Prop where
 c1:1<=c
 anc:Anc c (W 1+k)
 leaf:∀ i,i<k->W' (k+i)=i
 inner:∀ i,1<=i->i<k->¬ (Anc i c/\i≠c)->Inn lt' W' node' i
 todo:∀ i,Anc i c->i≠c->node' i=node i
 rest:∀ j,1<=j->¬ Anc j (W 1+k)->W' j=W j
 rng:W' c<k/\Anc c (W' c+k)
theorem Way.start {c:Nat->Nat->Bool} (h:Tour k lt W node) (hk:1<=k) (hl:∀ a b,a≠W 1->b≠W 1->c a b=lt a b):Way k lt c W node (W 1+k) W node:=by
 have hw:=(h.below (i:=1) (by omega) (by omega)).1;refine⟨by omega,Anc.refl _,h.leaf,λi d g hn=>?_,λ_ _ _=>rfl,λ_ _ _=>rfl,?_⟩
 ·have l:¬ Anc i (W 1+k):=λm=>hn ⟨m,by omega⟩;obtain⟨n,f⟩:=h.inner i d g;have hd:∀ j,1<=j->j<2 * k->Anc i j->W j≠W 1:=by intro j o p q he;have:=(h.below (i:=j) o p).2;rw [he] at this;exact l (q.trans this)
  have r:=hd i d (by omega) (Anc.refl i);have s:=hd (2 * i) (by omega) (by omega) ⟨1,by omega⟩;have t:=hd (2 * i+1) (by omega) (by omega) ⟨1,by omega⟩;refine⟨?_,f⟩;rw [hl _ _ r (by rcases f with ⟨_,e⟩ | ⟨_,e⟩ <;> rw [e] <;> assumption)];exact n
 ·have:=h.leaf (W 1) hw;rw [Nat.add_comm] at this;rw [this];exact⟨hw,Anc.refl _⟩
def upd (f:Nat->Nat) (i v:Nat):Nat->Nat:=λj=>if j=i then v else f j
theorem Way.step {d:Nat->Nat->Bool} {c:Nat} {a node':Nat->Nat} (h:Tour k lt W node) (hk:1<=k) (H:STO k d) (hw:Way k lt d W node c a node') (hc:2<=c) :
  node (c / 2)<k/\(d (node (c / 2)) (a c)=true->Way k lt d W node (c / 2) (upd a (c / 2) (node (c / 2))) (upd node' (c / 2) (a c))) /\
   (d (node (c / 2)) (a c)=false->Way k lt d W node (c / 2) (upd a (c / 2) (a c)) node'):=by
 have N:=(h.below (i:=1) (by omega) (by omega)).1;have O:c<2 * k:=by have:=hw.anc.le; omega
 obtain⟨i,hi⟩:∃ i,i=c / 2:=⟨_,rfl⟩;rw [← hi];have n:1<=i:=by omega
 have I:i<k:=by omega
 have w:=h.path hk i n (by rw [hi]; exact hw.anc.up);have P:=h.path hk c hw.c1 hw.anc;obtain⟨s,u⟩:∃ s,(s=2 * i/\c=2 * i+1)\/(s=2 * i+1/\c=2 * i):=by
  rcases Nat.mod_two_eq_zero_or_one c with J | J
  ·exact⟨2 * i+1,.inr ⟨rfl,by omega⟩⟩
  ·exact⟨2 * i,.inl ⟨rfl,by omega⟩⟩
 have z:∀ j,Anc c j->Anc s j->False:=by
  intro j b f;rcases u with ⟨rfl,e⟩ | ⟨rfl,e⟩ <;> rw [e] at b
  ·exact Anc.apart n f b
  ·exact Anc.apart n b f
 have r:1<=s/\s<2 * k/\s / 2=i:=by omega
 have A:¬ Anc s (W 1+k):=λg=>z _ hw.anc g;have B:=hw.rest s r.1 A;have l:=h.below (i:=s) r.1 r.2.1;have C:W s≠W 1:=λe=>A (e▸l.2);have D:node i=W s:=by
  obtain⟨_,o⟩:=h.inner i n I;rcases u with ⟨rfl,e⟩ | ⟨rfl,e⟩ <;> rcases o with ⟨b,f⟩ | ⟨b,f⟩
  ·exact absurd (b.symm.trans w) C
  ·exact f
  ·exact f
  ·exact absurd (b.symm.trans w) C
 have K:a c≠W s:=λe=>z _ hw.rng.2 (e▸l.2);have mk:∀ (x y:Nat) (node'':Nat->Nat),d x y=true->((x=a c/\y=W s)\/(x=W s/\y=a c))->node'' i=y->(∀ j,j≠i->node'' j=node' j)->Way k lt d W node i (upd a i x) node'':=by
  intro x y node'' L o E F;have G:Anc i (W 1+k):=by have:=hw.anc.up; rwa [← hi] at this
  refine⟨n,G,λj m=>?_,λj b f hn=>?_,λj g m=>?_,λj b hn=>?_,?_⟩
  ·simp only [upd,if_neg (show k+j≠i by omega)]; exact hw.leaf j m
  ·by_cases t:j=i
   ·subst t;refine⟨by simp only [upd,if_true]; rw [E]; exact L,?_⟩;simp only [upd,if_true,if_neg (show 2 * j≠j by omega),if_neg (show 2 * j+1≠j by omega)];rw [E];rcases u with ⟨p,q⟩ | ⟨p,q⟩
    ·rw [show a (2 * j)=W s by rw [← p,B],show a (2 * j+1)=a c by rw [← q]];exact o.elim .inr .inl
    ·rw [show a (2 * j+1)=W s by rw [← p,B],show a (2 * j)=a c by rw [← q]];exact o
   ·have v:¬ Anc j i:=λg=>hn ⟨g,t⟩;have M:=hw.inner j b f λ⟨g,hjc⟩=>v (by have:=g.half hjc; rwa [← hi] at this);have p:2 * j≠i:=λe=>v ⟨1,by omega⟩;have q:2 * j+1≠i:=λe=>v ⟨1,by omega⟩;unfold Inn;simp only [upd,if_neg t,if_neg p,if_neg q];rw [F j t];exact M
  ·rw [F j m];exact hw.todo j (g.trans ⟨1,by omega⟩) (by have:=g.le; omega)
  ·simp only [upd,if_neg (show j≠i from λe=>hn (e▸G))];exact hw.rest j b hn
  ·simp only [upd,if_true];rcases o with ⟨rfl,_⟩ | ⟨rfl,_⟩
   ·exact⟨hw.rng.1,by have:=hw.rng.2.up; rwa [← hi] at this⟩
   ·exact⟨l.1,by have:=l.2.up; rwa [r.2.2] at this⟩
 rw [D];refine⟨l.1,λht=>?_,λhf=>?_⟩
 ·exact mk _ (a c) _ ht (.inr ⟨rfl,rfl⟩) (by simp [upd]) λj m=>by simp [upd,m]
 ·refine mk _ (W s) _ ?_ (.inl ⟨rfl,rfl⟩) ?_ λj m=>rfl
  ·rcases H.tot _ _ hw.rng.1 l.1 K with b | b
   ·exact b
   ·rw [b] at hf; cases hf
  ·rw [hw.todo i ⟨1,by omega⟩ (by omega),D]
theorem Way.done {a:Nat->Nat->Bool} {b node':Nat->Nat} (hw:Way k lt a W node 1 b node'):Tour k a b node' :=
 ⟨hw.leaf,λi c d=>hw.inner i c d λ⟨ha,hn⟩=>hn (by have:=ha.le; omega)⟩
structure Rise (k:Nat) (lt:Nat->Nat->Bool) (i:Nat) (W node:Nat->Nat):Prop where
 leaf:∀ j,j<k->W (k+j)=j
 inner:∀ j,i<j->j<k->1<=j->Inn lt W node j
theorem Rise.step (d:STO k lt) {i:Nat} (f:1<=i) (p:i<k) (h:Rise k lt i W node) :
  W (2 * i)<k/\W (2 * i+1)<k/\(lt (W (2 * i+1)) (W (2 * i))=true->Rise k lt (i - 1) (upd W i (W (2 * i+1))) (upd node i (W (2 * i)))) /\
   (lt (W (2 * i+1)) (W (2 * i))=false->Rise k lt (i - 1) (upd W i (W (2 * i))) (upd node i (W (2 * i+1)))):=by
 have hb:=P.below h.leaf (i+1) (by omega) λj a b=>(h.inner j (by omega) b (by omega)).or;have b1:=hb _ (2 * i) (by omega) (by omega) rfl;have b2:=hb _ (2 * i+1) (by omega) (by omega) rfl;have g:W (2 * i)≠W (2 * i+1):=λe=>Anc.apart f b1.2 (by rw [e]; exact b2.2);have mk:∀ x y,lt x y=true->((x=W (2 * i)/\y=W (2 * i+1))\/(x=W (2 * i+1)/\y=W (2 * i)))->Rise k lt (i - 1) (upd W i x) (upd node i y):=by
  intro x y l m;refine⟨λj n=>?_,λj a b o=>?_⟩
  ·simp only [upd,if_neg (show k+j≠i by omega)]; exact h.leaf j n
  ·unfold Inn;by_cases c:j=i
   ·subst c;simp only [upd,if_true,if_neg (show 2 * j≠j by omega),if_neg (show 2 * j+1≠j by omega)];exact⟨l,m⟩
   ·simp only [upd,if_neg c,if_neg (show 2 * j≠i by omega),if_neg (show 2 * j+1≠i by omega)];exact h.inner j (by omega) b o
 refine⟨b1.1,b2.1,λht=>mk _ _ ht (.inr ⟨rfl,rfl⟩),λhf=>mk _ _ ?_ (.inl ⟨rfl,rfl⟩)⟩;rcases d.tot _ _ b1.1 b2.1 g with a | a
 ·exact a
 ·rw [a] at hf; cases hf
theorem Rise.done (h:Rise k lt 0 W node):Tour k lt W node:=⟨h.leaf,λi a b=>h.inner i a b a⟩
end
def hd (R:List (List S61)) (i:Nat):Option S61:=R[i]?.bind List.head?
def bDj (p q:Option S61) (a b:Nat):Bool :=
 match p,q with
 | none,none=>decide (a<b)
 | none,some _=>false
 | some _,none=>true
 | some x,some y=>bef x y||(!bef y x&&decide (a<b))
def ahd (R:List (List S61)) (a b:Nat):Bool:=bDj (hd R a) (hd R b) a b
structure bE4 (R:List (List S61)) (nd:List Int) (W node:Nat->Nat):Prop where
 pos:1<=R.length
 small:R.length<2 ^ 40
 len:nd.length=R.length
 tour:Tour R.length (ahd R) W node
 top:nd[0]?=some (W 1:Int)
 inner:∀ i,1<=i->i<R.length->nd[i]?=some (node i:Int)
section
variable {α:Type} {lt:α->α->Bool}
end
section
variable {α:Type} {lt:α->α->Bool}
theorem SWO.lt_of_lt_of_le (h:SWO lt) {a b c:α} (d:lt a b=true) (e:lt c b=false):lt a c=true:=by
 rcases h.neg a c b d with q | q
 ·exact q
 ·simp_all
theorem SWO.lt_of_le_of_lt (h:SWO lt) {a b c:α} (e:lt b a=false) (d:lt b c=true):lt a c=true:=by
 rcases h.neg b a c d with q | q
 ·simp_all
 ·exact q
end
section
variable {α:Type} {lt:α->α->Bool}
inductive Blk (lt:α->α->Bool) (n:Nat):List α->List α->Prop
 | last {O:List α}:O.length<=n->Blk lt n O (sortL lt O)
 | cons {O1 O2 L2:List α}:O1.length=n->Blk lt n O2 L2->Blk lt n (O1++O2) (sortL lt O1++L2)
theorem Blk.length {n:Nat} {O L:List α} (h:Blk lt n O L):L.length=O.length:=by
 induction h with
 | last _=>exact aE3 _
 | cons _ _ ih=>simp [aE3,ih]
theorem Blk.done {n:Nat} {O L:List α} (h:Blk lt n O L) (hn:O.length<=n):L=sortL lt O:=by
 cases h with
 | last _=>rfl
 | @cons O1 O2 L2 h1 h2 =>
  have hl:=h2.length;simp only [List.length_append] at hn;have a:=List.eq_nil_of_length_eq_zero (show O2.length=0 by omega);subst a;have b:=List.eq_nil_of_length_eq_zero hl;rw [b];simp
end
section
variable {α:Type} {lt:α->α->Bool}
theorem bE2 (h:SWO lt) {l m:List α} (hl:Srt lt l) (hm:Srt lt m) (hp:l.Perm m) {i:Nat} {x y:α} (hx:l[i]?=some x) (b:m[i]?=some y):lt x y=false:=by
 cases hxy:lt x y with
 | false=>rfl
 | true =>
  exfalso;have hc:=hp.countP_eq (λz=>lt z y);obtain⟨d,f⟩:=List.getElem?_eq_some_iff.1 hx;obtain⟨g,_⟩:=List.getElem?_eq_some_iff.1 b;have k:(l.take (i+1)).countP (λz=>lt z y)=i+1:=by
   have e:(l.take (i+1)).length=i+1:=by rw [List.length_take]; omega
   refine (List.countP_eq_length.2 ?_).trans e;intro z hz;obtain⟨j,a⟩:=List.getElem?_of_mem hz;rw [List.getElem?_take] at a;split at a
   ·rcases Nat.lt_or_ge j i with c | c
    ·have hs:=aQk hl c a hx;rcases h.neg x z y hxy with q | q
     ·rw [hs] at q; cases q
     ·exact q
    ·have:j=i:=by omega
     subst this;rw [hx] at a;cases a;exact hxy
   ·cases a
  have n:(m.drop i).countP (λz=>lt z y)=0:=by
   rw [List.countP_eq_zero];intro z hz;obtain⟨j,a⟩:=List.getElem?_of_mem hz;rw [List.getElem?_drop] at a;rcases Nat.eq_zero_or_pos j with q | q
   ·subst q;rw [Nat.add_zero,b] at a;cases a;rw [h.irr]; simp
   ·rw [aQk hm (show i<i+j by omega) b a]; simp
  have o:(m.take i).countP (λz=>lt z y)<=i:=Nat.le_trans List.countP_le_length (by rw [List.length_take]; omega);have p:l.countP (λz=>lt z y)=(l.take (i+1)).countP (λz=>lt z y)+(l.drop (i+1)).countP (λz=>lt z y):=by rw [← List.countP_append,List.take_append_drop]
  have r:m.countP (λz=>lt z y)=(m.take i).countP (λz=>lt z y)+(m.drop i).countP (λz=>lt z y):=by rw [← List.countP_append,List.take_append_drop]
  omega
end
section
variable {α:Type}
end
theorem yW (a:List UInt8):Op.bytesLess a a=false:=by rw [bytesLess_eq]; simp [List.lt_irrefl]
theorem aEz {a b c:List UInt8} (d:Op.bytesLess a b=true) (e:Op.bytesLess b c=true):Op.bytesLess a c=true:=by rw [bytesLess_eq] at *;simp only [decide_eq_true_eq] at *;exact List.lt_trans d e
theorem aKf {a b:List UInt8} (h:Op.bytesLess a b=false) (c:Op.bytesLess b a=false):a=b:=by rw [bytesLess_eq] at *;simp only [decide_eq_false_iff_not] at *;exact List.le_antisymm (List.not_lt.1 c) (List.not_lt.1 h)
def mF (l:List S98):Prop:=l.Pairwise λx y=>Op.bytesLess x.f0 y.f0=true
def pos (l:List S98) (n:List UInt8):Nat:=(l.takeWhile λx=>Op.bytesLess x.f0 n).length
theorem aRt (l:List S98) (n:List UInt8):pos l n<=l.length:=(List.takeWhile_sublist _).length_le
theorem aEn:∀ {l:List S98} (hl:mF l) (n:List UInt8) {h:Nat} {x:S98},l[h]?=some x->(Op.bytesLess x.f0 n=true↔h<pos l n)
 | [],_,n,h,x,hx=>by simp at hx
 | y::l,hl,n,h,x,hx=>by
  obtain⟨a,b⟩:=List.pairwise_cons.1 hl;unfold pos;rw [List.takeWhile_cons];cases hyn:Op.bytesLess y.f0 n with
  | true =>
   rw [if_pos rfl,List.length_cons];cases h with
   | zero=>cases hx; simp [hyn]
   | succ h =>
    have:=aEn b n (h:=h) (x:=x) (by simpa using hx);unfold pos at this;rw [this]; omega
  | false =>
   rw [if_neg (by simp),List.length_nil];cases h with
   | zero=>cases hx; simp [hyn]
   | succ h =>
    have c:x∈l:=List.mem_of_getElem? (by simpa using hx);constructor
    ·intro d;have:=aEz (a x c) d;rw [hyn] at this;cases this
    ·intro h; omega
theorem aM4 (x:S98) (n:List UInt8):jX x n=some (if Op.bytesLess x.f0 n=true then -1 else if x.f0=n then 0 else 1):=by
 unfold jX;cases h:Op.bytesLess x.f0 n with
 | true=>rfl
 | false =>
  simp only [Bool.false_eq_true,if_false,Bool.false_or];by_cases e:x.f0=n
  ·simp [e]
  ·simp [e]
def has (l:List S98) (n:List UInt8):Bool:=match l[pos l n]? with
 | some x=>x.f0==n
 | none=>false
theorem aOz (l:List S98) (hl:mF l) (hlen:l.length<1099511627776) (n:List UInt8):bO l n=some ((pos l n:Int),has l n):=by
 unfold bO;have hp:=aRt l n;obtain⟨y,d,hm⟩:=aCh (b:=λs:Int×Int=>aU l n s.1 s.2) (s:=(0,(l.length:Int)))
  (λs=>∃ i j:Nat,s=((i:Int),(j:Int))/\i<=pos l n/\pos l n<=j/\j<=l.length) (λs=>(s.2 - s.1).toNat) (λt=>t=((pos l n:Nat):Int)) ⟨0,l.length,rfl,Nat.zero_le _,hp,Nat.le_refl _⟩ (by
  rintro s ⟨i,j,rfl,f,g,h⟩;show (∃ s',aU l n (i:Int) (j:Int)=some (.inl s')/\_)\/∃ t,aU l n (i:Int) (j:Int)=some (.inr t)/\_;unfold aU;by_cases p:i<j
  ·have hx:=List.getElem?_eq_getElem (l:=l) (i:=(i+j) / 2) (by omega);have c:=aEn hl n hx;have m:oT .u64 (((i+j:Nat)):Int) 1=(((i+j) / 2:Nat):Int):=mD (k:=.u64) (i+j) 1 (by decide);rw [if_pos (by simp only [decide_eq_true_eq]; omega)];simp only [lt_];rw [w64 (n:=(i:Int)+(j:Int)) (by omega) (by omega),oM (by omega) (by omega),show (i:Int)+(j:Int)=((i+j:Nat):Int) by omega,m,w64 (by omega) (by omega),bE rfl hx];simp only [Option.bind_some];rw [aM4];simp only [Option.bind_some];unfold bJ;by_cases a:Op.bytesLess (l[(i+j) / 2]).f0 n=true
   ·have:=c.1 a;rw [if_pos a,if_pos (by decide),w64 (by omega) (by omega)];exact .inl ⟨_,rfl,⟨(i+j) / 2+1,j,rfl,by omega,g,h⟩,by simp only; omega⟩
   ·have:¬ (i+j) / 2<pos l n:=λq=>a (c.2 q);rw [if_neg a,if_neg (by split <;> decide)];exact .inl ⟨_,rfl,⟨i,(i+j) / 2,rfl,f,by omega,by omega⟩,by simp only; omega⟩
  ·rw [if_neg (by simp only [decide_eq_true_eq]; omega)];exact .inr ⟨_,rfl,by rw [show i=pos l n by omega]⟩)
 rw [d,hm];simp only [Option.bind_some];unfold bQ bW has;by_cases a:pos l n<l.length
 ·have hx:=List.getElem?_eq_getElem a;have c:=aEn hl n hx;have o:¬ Op.bytesLess (l[pos l n]).f0 n=true:=λq=>by have:=c.1 q; omega
  rw [if_pos (by simp only [decide_eq_true_eq]; omega),bE rfl hx,hx];simp only [Option.bind_some];rw [aM4];simp only [Option.bind_some];rw [if_neg o];congr 2;by_cases e:(l[pos l n]).f0=n
  ·rw [if_pos e]; simp [e]
  ·rw [if_neg e]; simp [e]
 ·rw [if_neg (by simp only [decide_eq_true_eq]; omega),List.getElem?_eq_none (by omega)]
theorem aP9 (s:S77) (hl:mF s.f0) (hlen:s.f0.length<1099511627776) (n:List UInt8):dM s n=some ((pos s.f0 n:Int),has s.f0 n):=by unfold dM;rw [aOz s.f0 hl hlen n];rfl
def okc (c:UInt8):Bool:=decide (c.toNat=46)||(decide (48<=c.toNat)&&decide (c.toNat<=57))||(decide (97<=c.toNat)&&decide (c.toNat<=122))
def sL (n:List UInt8):Bool:=n.all okc&&decide (1<=n.length)&&decide (n.length<=32)
theorem aO0 (a:List UInt8) (i:Nat) {c:UInt8} (hc:a[i]?=some c):gG a (i:Int)=iL (i:Int) (!okc c):=by
 have hi:=(List.getElem?_eq_some_iff.1 hc).1;unfold gG okc;rw [if_pos (by simp only [decide_eq_true_eq]; omega),bE rfl hc];simp only [Option.bind_some,bne_iff_ne,ne_eq,decide_eq_true_eq];by_cases b:c.toNat=46
 ·rw [if_neg (by omega),decide_eq_true b]; rfl
 rw [if_pos (by omega),decide_eq_false b];by_cases e:c.toNat<48
 ·rw [if_pos (by omega),if_pos (by omega),decide_eq_false (show ¬ 48<=c.toNat by omega),decide_eq_false (show ¬ 97<=c.toNat by omega)]; rfl
 rw [if_neg (by omega),decide_eq_true (show 48<=c.toNat by omega)];by_cases f:57<c.toNat
 ·rw [if_pos (by omega),decide_eq_false (show ¬ c.toNat<=57 by omega)];by_cases g:c.toNat<97
  ·rw [if_pos (by omega),decide_eq_false (show ¬ 97<=c.toNat by omega)]; rfl
  ·rw [if_neg (by omega),decide_eq_true (show 97<=c.toNat by omega)];by_cases d:c.toNat<=122
   ·rw [decide_eq_true d,decide_eq_false (by omega)]; rfl
   ·rw [decide_eq_false d,decide_eq_true (by omega)]; rfl
 ·rw [if_neg (by omega),decide_eq_true (show c.toNat<=57 by omega)]; rfl
theorem aJk (a:List UInt8) (c:a.length<4611686018427387904):∀ (m i:Nat),i+m=a.length->loop (λs=>gG a s) (i:Int)=some (if (a.drop i).all okc=true then .inl () else .inr false)
 | 0,i,hi=>by refine bK ?_;show gG a (i:Int)=_;unfold gG;rw [if_neg (by simp only [decide_eq_true_eq]; omega),List.drop_of_length_le (by omega)];rfl
 | m+1,i,hi=>by
  have hx:=List.getElem?_eq_getElem (l:=a) (i:=i) (by omega);have hr:=aO0 a i hx;have hd:a.drop i=a[i]::a.drop (i+1):=List.drop_eq_getElem_cons (by omega);cases hc:okc a[i] with
  | true =>
   rw [hc] at hr;have:gG a (i:Int)=some (.inl ((i+1:Nat):Int)):=by rw [hr]; unfold iL; rw [if_neg (by simp),lt_,w64 (by omega) (by omega)]; rfl
   rw [cL (b:=λs=>gG a s) this,aJk a c m (i+1) (by omega),hd,List.all_cons,hc,Bool.true_and]
  | false =>
   rw [hc] at hr;have:gG a (i:Int)=some (.inr (.inr false)):=by rw [hr]; rfl
   rw [bK (b:=λs=>gG a s) this,hd,List.all_cons,hc,Bool.false_and];rfl
theorem aQl (a:List UInt8) (b:a.length<4611686018427387904):qV a=some (sL a):=by
 unfold qV;have h:=aJk a b a.length 0 (by omega);rw [show ((0:Nat):Int)=0 from rfl,List.drop_zero] at h;rw [h];unfold sL;cases a.all okc with
 | true =>
  show sS a=_;unfold sS;cases a with
  | nil=>rfl
  | cons c a =>
   rw [if_pos (show (!(c::a==[]))=true from rfl)];simp only [List.length_cons,Bool.true_and,decide_eq_true (show 1<=a.length+1 by omega)];congr 1;exact decide_eq_decide.2 (by omega)
 | false=>rfl
theorem aAa {P D:List S98} {x:S98} (h:mF (P++x::D)):(∀ y∈P,Op.bytesLess y.f0 x.f0=true)/\(∀ y∈D,Op.bytesLess x.f0 y.f0=true):=by obtain⟨d,a,b⟩:=List.pairwise_append.1 h;exact⟨λy c=>b y c x (List.mem_cons_self ..),(List.pairwise_cons.1 a).1⟩
theorem aD5 {a b:List UInt8} (h:Op.bytesLess a b=true):a≠b:=λe=>by subst e; rw [yW] at h; cases h
theorem aGm {a b:List UInt8} (h:Op.bytesLess a b=true):Op.bytesLess b a=false:=by
 cases hb:Op.bytesLess b a with
 | false=>rfl
 | true=>have:=aEz h hb; rw [yW] at this; cases this
theorem aR3 {P D:List S98} {n:List UInt8} (a:∀ y∈P,Op.bytesLess y.f0 n=true) (b:∀ y,D.head?=some y->Op.bytesLess y.f0 n=false):pos (P++D) n=P.length:=by
 unfold pos;rw [List.takeWhile_append_of_pos a,List.length_append];cases D with
 | nil=>rfl
 | cons y D=>rw [List.takeWhile_cons,b y rfl]; rfl
theorem zK {P D:List S98} {x:S98} {n:List UInt8} (hn:x.f0=n) (h:mF (P++x::D)):pos (P++x::D) n=P.length:=by subst hn;exact aR3 (aAa h).1 λy a=>by cases a; exact yW _
theorem aBb {P D:List S98} {x:S98} {n:List UInt8} (hn:x.f0=n) (h:mF (P++x::D)):has (P++x::D) n=true:=by unfold has;rw [zK hn h,List.getElem?_append_right (Nat.le_refl _),Nat.sub_self];simp [hn]
theorem aKl {P D:List S98} {n:List UInt8} (a:∀ y∈P,Op.bytesLess y.f0 n=true) (b:∀ y∈D,Op.bytesLess n y.f0=true):pos (P++D) n=P.length :=
 aR3 a λy c=>aGm (b y (List.mem_of_mem_head? c))
theorem aAx {P D:List S98} {n:List UInt8} (b:∀ y∈P,Op.bytesLess y.f0 n=true) (a:∀ y∈D,Op.bytesLess n y.f0=true):has (P++D) n=false:=by
 unfold has;rw [aKl b a,List.getElem?_append_right (Nat.le_refl _),Nat.sub_self];cases D with
 | nil=>rfl
 | cons y D =>
  show (y.f0==n)=false;rw [beq_eq_false_iff_ne];exact λe=>aD5 (a y (List.mem_cons_self ..)) e.symm
theorem aAl {l:List S98} (h:mF l) (n:List UInt8) :
  (∃ P x D,l=P++x::D/\x.f0=n)\/∃ P D,l=P++D/\(∀ y∈P,Op.bytesLess y.f0 n=true)/\∀ y∈D,Op.bytesLess n y.f0=true:=by
 have hp:=aRt l n;have b:l=l.take (pos l n)++l.drop (pos l n):=(List.take_append_drop _ _).symm;have d:∀ y∈l.take (pos l n),Op.bytesLess y.f0 n=true:=by
  intro y a;obtain⟨j,c⟩:=List.getElem?_of_mem a;rw [List.getElem?_take] at c;split at c
  ·exact (aEn h n c).2 (by assumption)
  ·cases c
 cases hd:l.drop (pos l n) with
 | nil=>rw [hd] at b; exact .inr ⟨_,[],b,d,λy a=>by cases a⟩
 | cons x D =>
  rw [hd] at b;have hx:l[pos l n]?=some x:=by
   have:(l.drop (pos l n))[0]?=some x:=by rw [hd]; rfl
   rwa [List.getElem?_drop,Nat.add_zero] at this
  have g:Op.bytesLess x.f0 n=false:=by
   cases hb:Op.bytesLess x.f0 n with
   | false=>rfl
   | true=>have:=(aEn h n hx).1 hb; omega
  by_cases e:x.f0=n
  ·exact .inl ⟨_,x,D,b,e⟩
  ·refine .inr ⟨_,x::D,b,d,?_⟩;have f:Op.bytesLess n x.f0=true:=by
    cases hb:Op.bytesLess n x.f0 with
    | true=>rfl
    | false=>exact absurd (aKf g hb) e
   intro y a;rcases List.mem_cons.1 a with rfl | a
   ·exact f
   ·have hr:=h;rw [b] at hr;exact aEz f ((aAa hr).2 y a)
theorem aJ0 {P D:List S98} {x y:S98} (hn:x.f0=y.f0) (h:mF (P++x::D)):mF (P++y::D):=by
 obtain⟨e,f,c⟩:=List.pairwise_append.1 h;obtain⟨g,i⟩:=List.pairwise_cons.1 f;refine List.pairwise_append.2 ⟨e,List.pairwise_cons.2 ⟨λz hz=>hn▸g z hz,i⟩,λa d b hb=>?_⟩;rcases List.mem_cons.1 hb with rfl | hb
 ·rw [← hn]; exact c a d x (List.mem_cons_self ..)
 ·exact c a d b (List.mem_cons_of_mem _ hb)
theorem aMo {P D:List S98} {y:S98} (h:mF (P++D)) (d:∀ z∈P,Op.bytesLess z.f0 y.f0=true) (e:∀ z∈D,Op.bytesLess y.f0 z.f0=true):mF (P++y::D):=by
 obtain⟨f,g,i⟩:=List.pairwise_append.1 h;refine List.pairwise_append.2 ⟨f,List.pairwise_cons.2 ⟨e,g⟩,λa c b hb=>?_⟩;rcases List.mem_cons.1 hb with rfl | hb
 ·exact d a c
 ·exact i a c b hb
theorem aQ6 {P D:List S98} {x:S98} (h:mF (P++x::D)):mF (P++D) :=
 h.sublist (List.Sublist.append_left (List.sublist_cons_self x D) P)
def used (l:List S98):Nat:=(l.map λx=>x.f1.length).sum
theorem tQ (P D:List S98):used (P++D)=used P+used D:=by simp [used]
theorem xU (x:S98) (D:List S98):used (x::D)=x.f1.length+used D:=by simp [used]
theorem aTa {l:List S98} {x:S98} (h:x∈l):x.f1.length<=used l:=by
 induction l with
 | nil=>cases h
 | cons y l ih =>
  rw [xU];rcases List.mem_cons.1 h with rfl | h
  ·omega
  ·have:=ih h; omega
theorem aJp (s:S77) (hl:s.f0.length<4611686018427387904) (hu:used s.f0<4611686018427387904):∀ (m i:Nat),i+m=s.f0.length->loop (λq:Int×Int=>dP s q.1 q.2) ((used (s.f0.take i):Int),(i:Int))=some (used s.f0:Int)
 | 0,i,hi=>by refine bK ?_;show dP s _ (i:Int)=_;unfold dP;rw [if_neg (by simp only [decide_eq_true_eq]; omega),List.take_of_length_le (by omega)]
 | m+1,i,hi=>by
  have hx:=List.getElem?_eq_getElem (l:=s.f0) (i:=i) (by omega);have ht:s.f0.take (i+1)=s.f0.take i++[s.f0[i]]:=by rw [List.take_add_one,hx]; rfl
  have hle:used (s.f0.take (i+1))<=used s.f0:=by have:=tQ (s.f0.take (i+1)) (s.f0.drop (i+1));rw [List.take_append_drop] at this;omega
  have hs:used (s.f0.take (i+1))=used (s.f0.take i)+(s.f0[i]).f1.length:=by rw [ht,tQ,xU]; rfl
  have:dP s (used (s.f0.take i):Int) (i:Int)=some (.inl ((used (s.f0.take (i+1)):Int),((i+1:Nat):Int))):=by unfold dP;rw [if_pos (by simp only [decide_eq_true_eq]; omega),bE rfl hx];simp only [Option.bind_some,lt_];rw [w64 (by omega) (by omega),w64 (by omega) (by omega),hs];rfl
  rw [cL (b:=λq:Int×Int=>dP s q.1 q.2) this];exact aJp s hl hu m (i+1) (by omega)
theorem aWe (s:S77) (hl:s.f0.length<4611686018427387904) (hu:used s.f0<4611686018427387904):oP (some s)=some (used s.f0:Int):=by show (loop (λq:Int×Int=>dP s q.1 q.2) (0,0)).bind _=_;have h:=aJp s hl hu s.f0.length 0 (by omega);rw [List.take_zero] at h;rw [show ((0:Int),(0:Int))=((used []:Int),((0:Nat):Int)) from rfl,h];rfl
theorem aH7 (s:S77) (hl:s.f0.length<1099511627776):∀ (m i:Nat),i+m=s.f0.length->loop (λq:List (List UInt8)×Int=>dQ s q.1 q.2) ((s.f0.take i).map S98.f0,(i:Int))=some (s.f0.map S98.f0)
 | 0,i,hi=>by refine bK ?_;show dQ s _ (i:Int)=_;unfold dQ;rw [if_neg (by simp only [decide_eq_true_eq]; omega),List.take_of_length_le (by omega)]
 | m+1,i,hi=>by
  have hx:=List.getElem?_eq_getElem (l:=s.f0) (i:=i) (by omega);have ht:s.f0.take (i+1)=s.f0.take i++[s.f0[i]]:=by rw [List.take_add_one,hx]; rfl
  have:dQ s ((s.f0.take i).map S98.f0) (i:Int)=some (.inl ((s.f0.take (i+1)).map S98.f0,((i+1:Nat):Int))):=by unfold dQ;rw [if_pos (by simp only [decide_eq_true_eq]; omega),bE rfl hx];simp only [Option.bind_some,lt_];rw [bL (by simp only [List.length_map,List.length_take,List.length_singleton]; omega),w64 (by omega) (by omega),ht,List.map_append];rfl
  rw [cL (b:=λq:List (List UInt8)×Int=>dQ s q.1 q.2) this];exact aH7 s hl m (i+1) (by omega)
theorem aVx (s:S77) (hl:s.f0.length<1099511627776):lY (some s)=some (s.f0.map S98.f0):=by show (loop (λq:List (List UInt8)×Int=>dQ s q.1 q.2) ([],0)).bind _=_;have h:=aH7 s hl s.f0.length 0 (by omega);rw [List.take_zero] at h;rw [show (([]:List (List UInt8)),(0:Int))=(([]:List S98).map S98.f0,((0:Nat):Int)) from rfl,h];rfl
def get (l:List S98) (n:List UInt8):Option S98:=l.find? λx=>x.f0==n
def put:List S98->S98->List S98
 | [],x=>[x]
 | y::l,x=>if Op.bytesLess y.f0 x.f0=true then y::put l x else if y.f0=x.f0 then x::l else x::y::l
def del (l:List S98) (n:List UInt8):List S98:=l.filter λx => !(x.f0==n)
theorem sY {P D:List S98} {x:S98} {n:List UInt8} (hn:x.f0=n) (h:mF (P++x::D)):get (P++x::D) n=some x:=by subst hn;unfold get;rw [List.find?_append,List.find?_eq_none.2 (λy a=>by simpa using aD5 ((aAa h).1 y a))];simp
theorem wB {P D:List S98} {n:List UInt8} (a:∀ y∈P,Op.bytesLess y.f0 n=true) (b:∀ y∈D,Op.bytesLess n y.f0=true):get (P++D) n=none:=by
 unfold get;rw [List.find?_eq_none];intro y c;rcases List.mem_append.1 c with h | h
 ·simpa using aD5 (a y h)
 ·simpa using λe=>aD5 (b y h) e.symm
theorem aNu:∀ {P D:List S98} {x:S98},(∀ y∈P,Op.bytesLess y.f0 x.f0=true)->put (P++D) x=P++put D x
 | [],D,x,h=>rfl
 | y::P,D,x,h=>by show put (y::(P++D)) x=_;rw [put,if_pos (h y (List.mem_cons_self ..)),aNu λz hz=>h z (List.mem_cons_of_mem _ hz)];rfl
theorem zE {P D:List S98} {x y:S98} (hn:x.f0=y.f0) (h:mF (P++x::D)):put (P++x::D) y=P++y::D:=by rw [aNu λz hz=>hn▸(aAa h).1 z hz,put,if_neg (by rw [hn,yW]; simp),if_pos hn]
theorem aCx {P D:List S98} {y:S98} (a:∀ z∈P,Op.bytesLess z.f0 y.f0=true) (b:∀ z∈D,Op.bytesLess y.f0 z.f0=true):put (P++D) y=P++y::D:=by
 rw [aNu a];congr 1;cases D with
 | nil=>rfl
 | cons z D =>
  have:=b z (List.mem_cons_self ..);rw [put,if_neg (by rw [aGm this]; simp),if_neg λe=>aD5 this e.symm]
theorem aGp {P D:List S98} {x:S98} {n:List UInt8} (hn:x.f0=n) (h:mF (P++x::D)):del (P++x::D) n=P++D:=by
 subst hn;unfold del;rw [List.filter_append,List.filter_cons_of_neg (by simp),List.filter_eq_self.2,List.filter_eq_self.2]
 ·intro y a; simpa using λe:y.f0=x.f0=>aD5 ((aAa h).2 y a) e.symm
 ·intro y a; simpa using aD5 ((aAa h).1 y a)
theorem aP6 {P D:List S98} {n:List UInt8} (a:∀ y∈P,Op.bytesLess y.f0 n=true) (b:∀ y∈D,Op.bytesLess n y.f0=true):del (P++D) n=P++D:=by
 unfold del;rw [List.filter_eq_self];intro y c;rcases List.mem_append.1 c with h | h
 ·simpa using aD5 (a y h)
 ·simpa using λe:y.f0=n=>aD5 (b y h) e.symm
theorem aEu {l:List S98} {x y:S98} (h:y∈put l x):y=x\/y∈l:=by
 induction l with
 | nil=>exact .inl (by simpa [put] using h)
 | cons z l ih =>
  unfold put at h;split at h
  ·rcases List.mem_cons.1 h with rfl | h
   ·exact .inr (List.mem_cons_self ..)
   ·rcases ih h with h | h
    ·exact .inl h
    ·exact .inr (List.mem_cons_of_mem _ h)
  ·split at h
   ·rcases List.mem_cons.1 h with rfl | h
    ·exact .inl rfl
    ·exact .inr (List.mem_cons_of_mem _ h)
   ·rcases List.mem_cons.1 h with rfl | h
    ·exact .inl rfl
    ·exact .inr h
theorem aIx {l:List S98} (h:mF l) (x:S98):mF (put l x):=by
 rcases aAl h x.f0 with ⟨P,y,D,rfl,a⟩ | ⟨P,D,rfl,b,c⟩
 ·rw [zE a h]; exact aJ0 a h
 ·rw [aCx b c]; exact aMo h b c
theorem yL {l:List S98} (h:mF l) (n:List UInt8):mF (del l n):=List.Pairwise.filter _ h
theorem vV {l:List S98} {n:List UInt8} {x:S98} (h:get l n=some x):x∈l/\x.f0=n:=⟨List.mem_of_find?_eq_some h,by simpa using List.find?_some h⟩
theorem aGs {l:List S98} {n:List UInt8} {x:S98} (h:x∈del l n):x∈l:=(List.mem_filter.1 h).1
theorem vY {l:List S98} (h:mF l) (x:S98) (n:List UInt8):get (put l x) n=if x.f0=n then some x else get l n:=by
 have e:∀ P D:List S98,x.f0≠n->get (P++x::D) n=get (P++D) n:=by intro P D a;unfold get;rw [List.find?_append,List.find?_append,List.find?_cons_of_neg (by simpa using a)]
 rcases aAl h x.f0 with ⟨P,y,D,rfl,b⟩ | ⟨P,D,rfl,c,d⟩
 ·rw [zE b h];split
  ·rename_i e; exact sY e (aJ0 b h)
  ·rename_i a;rw [e P D a];unfold get;rw [List.find?_append,List.find?_append,List.find?_cons_of_neg (by simpa [b] using a)]
 ·rw [aCx c d];split
  ·rename_i e; exact sY e (aMo h c d)
  ·rename_i a; exact e P D a
theorem aC7 {l:List S98} (h:mF l) (m n:List UInt8):get (del l m) n=if m=n then none else get l n:=by
 unfold get del;split
 ·rename_i e;subst e;rw [List.find?_eq_none];intro x hx;simpa using (List.mem_filter.1 hx).2
 ·rename_i a;rw [List.find?_filter];congr 1
  funext x
  by_cases hx:x.f0=n
  ·simp [hx]; exact λe=>a e.symm
  ·simp [hx]
theorem aAc {l:List S98} (h:mF l) (x:S98):used (put l x)+((get l x.f0).getD ⟨x.f0,[],0⟩).f1.length=used l+x.f1.length:=by
 rcases aAl h x.f0 with ⟨P,y,D,rfl,a⟩ | ⟨P,D,rfl,b,c⟩
 ·rw [zE a h,sY a h];simp only [tQ,xU,Option.getD_some];omega
 ·rw [aCx b c,wB b c];simp only [tQ,xU,Option.getD_none,List.length_nil];omega
theorem aG8 {l:List S98} (h:mF l) (n:List UInt8):used (del l n)+((get l n).getD ⟨n,[],0⟩).f1.length=used l:=by
 rcases aAl h n with ⟨P,y,D,rfl,a⟩ | ⟨P,D,rfl,b,c⟩
 ·rw [aGp a h,sY a h];simp only [tQ,xU,Option.getD_some];omega
 ·rw [aP6 b c,wB b c];rfl
theorem aCp {l:List S98} (h:mF l) (x:S98):(put l x).length=if (get l x.f0).isSome then l.length else l.length+1:=by
 rcases aAl h x.f0 with ⟨P,y,D,rfl,a⟩ | ⟨P,D,rfl,b,c⟩
 ·rw [zE a h,sY a h]; simp
 ·rw [aCx b c,wB b c]; simp; omega
theorem aLt {l:List S98} (h:mF l) (n:List UInt8):(del l n).length+(if (get l n).isSome then 1 else 0)=l.length:=by
 rcases aAl h n with ⟨P,y,D,rfl,a⟩ | ⟨P,D,rfl,b,c⟩
 ·rw [aGp a h,sY a h]; simp; omega
 ·rw [aP6 b c,wB b c]; simp
def step (s:S77):S77:=⟨s.f0,s.f1,if 0<s.f2 then s.f2 - 1 else s.f2,if 0<s.f2 then s.f2 - 1==0 else s.f3,s.f4+1⟩
structure SI (k:Nat) (s:S77):Prop where
 rise:mF s.f0
 form:∀ x∈s.f0,sL x.f0=true
 len:s.f0.length<=500
 room:1<=s.f1/\s.f1<=16777216
 use:(used s.f0:Int)<=s.f1
 sure:∀ x∈s.f0,0<=x.f2/\x.f2<=x.f1.length
 byt:∀ x∈s.f0,∀ b∈x.f1,0<=b/\b<256
 armed:0<=s.f2/\s.f2<=9223372036854775807
 ops:0<=s.f4/\s.f4<=k
def tJ (s:S77) (n:List UInt8):Int:=if sL n=true then (if s.f3=true then 9 else 0) else 1
section
variable {k:Nat} {s:S77} {n:List UInt8}
theorem SI.find (h:SI k s) (n:List UInt8):dM s n=some ((pos s.f0 n:Int),has s.f0 n):=aP9 s h.rise (by have:=h.len; omega) n
theorem SI.one (h:SI k s) {x:S98} (hx:x∈s.f0):(x.f1.length:Int)<=16777216:=by have:=aTa hx; have:=h.use; have:=h.room; omega
theorem SI.Used (h:SI k s):oP (some s)=some (used s.f0:Int):=aWe s (by have:=h.len; omega) (by have:=h.use; have:=h.room; omega)
theorem SI.Names (h:SI k s):lY (some s)=some (s.f0.map S98.f0):=aVx s (by have:=h.len; omega)
theorem SI.begin (h:SI k s) (hk:k<4611686018427387904):gY s=some (!(step s).f3,step s):=by
 have a:=h.armed; have b:=h.ops;unfold gY step;rw [lt_,w64 (n:=s.f4+1) (by omega) (by omega)];by_cases c:0<s.f2
 ·rw [if_pos (by simpa using c),lt_,w64 (n:=s.f2 - 1) (by omega) (by omega)];simp only [if_pos c];rfl
 ·rw [if_neg (by simpa using c)];simp only [if_neg c];rfl
theorem SI.stepped (h:SI k s):SI (k+1) (step s):=by
 refine⟨h.rise,h.form,h.len,h.room,h.use,h.sure,h.byt,?_,?_⟩
 ·have:=h.armed; simp only [P.step]; split <;> omega
 ·have:=h.ops; simp only [P.step]; omega
theorem SI.mono (h:SI k s) {a:Nat} (hk:k<=a):SI a s:=⟨h.rise,h.form,h.len,h.room,h.use,h.sure,h.byt,h.armed,by have:=h.ops; omega⟩
theorem aC8 (s:S77) (hn:n.length<4611686018427387904):cZ (some s) n=some (tJ s n):=by
 show (qV n).bind _=_;rw [aQl n hn];simp only [Option.bind_some];unfold tJ;cases sL n with
 | true=>cases s.f3 <;> rfl
 | false=>rfl
theorem aL1 (a:List Int) (h:a.length<=140737488355328):cP a=some a:=by
 unfold cP;rw [bL (by simp only [List.length_nil]; omega)];cases a with
 | nil=>simp [sO]
 | cons b a=>simp [sO]
def xB (s:S77) (n:List UInt8):List Int×Int:=if tJ s n=0 then (match get s.f0 n with | some x=>(x.f1,0) | none=>([],5)) else ([],tJ s n)
theorem SI.Read (h:SI k s) (hn:n.length<4611686018427387904):lX (some s) n=some (xB s n):=by
 show (cZ (some s) n).bind _=_;rw [aC8 s hn];simp only [Option.bind_some];unfold xB;by_cases c:tJ s n=0
 ·rw [if_neg (by simpa using c),if_pos c,h.find];simp only [Option.bind_some];have hr:=h.rise;have a:=λx=>h.one (x:=x);rcases aAl hr n with ⟨P,x,D,e,hx⟩ | ⟨P,D,e,b,d⟩
  ·rw [e] at hr a ⊢;have f:=a x (by simp);rw [aBb hx hr,zK hx hr,sY hx hr,if_neg (by simp),bE rfl (show (P++x::D)[P.length]?=some x by simp)];simp only [Option.bind_some];rw [aL1 _ (by omega)];rfl
  ·rw [e] at hr ⊢;rw [aAx b d,wB b d,if_pos (by simp)]
 ·rw [if_pos (by simpa using c),if_neg c]
def qR (s:S77) (n:List UInt8) (p:List Int):Int×S77 :=
 if tJ s n=0 then
  if s.f1 - used s.f0<p.length\/((get s.f0 n).isNone=true/\500<=s.f0.length) then (10,s)
  else (if (P.step s).f3=true then 9 else 0,{ P.step s with f0:=put s.f0 ⟨n,((get s.f0 n).getD ⟨n,[],0⟩).f1++p,((get s.f0 n).getD ⟨n,[],0⟩).f2⟩ })
 else (tJ s n,s)
theorem aS8 {y:Int×Bool} {b:Bool} {p:List Int} (h:b=true):eF n p s y b=some (10,some s):=by subst h; rfl
theorem aNl {l:List S98} {P D:List S98} {x:S98} {p:List Int} {b:Bool} {y:Bool} {r:S77} (hl:l=P++x::D) (hb:x.f1.length+p.length<=140737488355328) :
  hF p ((P.length:Int),b) (y,r) l=some (if y=true then 0 else 9,some ⟨P++⟨x.f0,x.f1++p,x.f2⟩::D,r.f1,r.f2,r.f3,r.f4⟩):=by
 subst hl;unfold hF;rw [bE rfl (show (P++x::D)[P.length]?=some x by simp)];simp only [Option.bind_some];rw [bL (by omega),Int.toNat_natCast,show (P++x::D).set P.length (⟨x.f0,x.f1++p,x.f2⟩:S98)=P++⟨x.f0,x.f1++p,x.f2⟩::D by simp];cases y <;> rfl
theorem SI.Append (h:SI k s) (hk:k<4611686018427387904) (hn:n.length<4611686018427387904) (p:List Int):oV (some s) n p=some ((qR s n p).1,some (qR s n p).2):=by
 have hu:=h.use; have l:=h.room; have hlen:=h.len;show (cZ (some s) n).bind _=_;rw [aC8 s hn];simp only [Option.bind_some];unfold qR;by_cases c:tJ s n=0
 ·rw [if_neg (by simpa using c),if_pos c,h.find];simp only [Option.bind_some];rw [h.Used];simp only [Option.bind_some];rw [lt_,w64 (by omega) (by omega)];by_cases c1:s.f1 - used s.f0<p.length
  ·rw [if_pos (by simpa using c1),if_pos (.inl c1),aS8 rfl]
  ·rw [if_neg (by simpa using c1)];have hb:=h.begin hk;have hr:=h.rise;have i:=λx=>h.one (x:=x);rcases aAl hr n with ⟨P,x,D,e,hx⟩ | ⟨P,D,e,a,b⟩
   ·rw [e] at hr;have m:=i x (by rw [e]; simp);have f:has s.f0 n=true:=by rw [e]; exact aBb hx hr
    have g:pos s.f0 n=P.length:=by rw [e]; exact zK hx hr
    have d:get s.f0 n=some x:=by rw [e]; exact sY hx hr
    rw [f,g,if_neg (by simp)];unfold eF;rw [if_neg (by simp),hb];simp only [Option.bind_some];rw [if_neg (by simp),d,if_neg (by simp [c1]),show (step s).f0=P++x::D from e,aNl rfl (by omega),e,Option.getD_some,zE hx hr];subst hx;cases (step s).f3 <;> rfl
   ·rw [e] at hr;have f:has s.f0 n=false:=by rw [e]; exact aAx a b
    have g:pos s.f0 n=P.length:=by rw [e]; exact aKl a b
    have d:get s.f0 n=none:=by rw [e]; exact wB a b
    rw [f,g,if_pos (by simp)];by_cases c2:500<=s.f0.length
    ·rw [aS8 (by simp; omega),d,if_pos (by simp [c2])]
    ·unfold eF;rw [if_neg (by simp; omega),hb];simp only [Option.bind_some];have hl:s.f0.length=P.length+D.length:=by rw [e]; simp
     have j:aOw (step s).f0 (P.length:Int) [(⟨n,[],0⟩:S98)]=some (P++⟨n,[],0⟩::D):=by unfold aOw;rw [if_pos ⟨by omega,by show (P.length:Int)<=(s.f0.length:Int); omega,by simp,by show (s.f0.length+1) * 48<=_; omega⟩,show (step s).f0=P++D from e,Int.toNat_natCast,List.take_left,List.drop_left];simp
     rw [if_pos (by simp),j];simp only [Option.bind_some];rw [d,if_neg (by simp [c1]; omega),aNl rfl (by simp only [List.length_nil]; omega),e,Option.getD_none,aCx a b];cases (step s).f3 <;> rfl
 ·rw [if_pos (by simpa using c),if_neg c]
end
section
variable {k:Nat} {s:S77} {n:List UInt8}
def aBk (s:S77) (n:List UInt8) (f:S98->List S98):Int×S77 :=
 if tJ s n=0 then
  match get s.f0 n with
  | none=>(5,s)
  | some x=>if (step s).f3=true then (9,step s) else (0,{ step s with f0:=f x })
 else (tJ s n,s)
def aDf (s:S77) (n:List UInt8):Int×S77:=aBk s n λx=>put s.f0 ⟨x.f0,x.f1,x.f1.length⟩
def tZ (s:S77) (n:List UInt8):Int×S77:=aBk s n λx=>del s.f0 n
def aO5 (s:S77) (a b:List UInt8):Int×S77 :=
 if sL a=true then if tJ s b=0 then aBk s a λx=>put (del s.f0 a) ⟨b,x.f1,x.f2⟩ else (tJ s b,s) else (1,s)
theorem SI.Sync (h:SI k s) (hk:k<4611686018427387904) (hn:n.length<4611686018427387904):oE (some s) n=some ((aDf s n).1,some (aDf s n).2):=by
 show (nK n s).bind _=_;unfold nK aDf aBk;rw [aC8 s hn];simp only [Option.bind_some];by_cases c:tJ s n=0
 ·rw [if_neg (by simpa using c),if_pos c,h.find];simp only [Option.bind_some];have hb:=h.begin hk;have hr:=h.rise;rcases aAl hr n with ⟨P,x,D,e,hx⟩ | ⟨P,D,e,d,f⟩
  ·rw [e] at hr;have a:has s.f0 n=true:=by rw [e]; exact aBb hx hr
   have g:pos s.f0 n=P.length:=by rw [e]; exact zK hx hr
   have b:get s.f0 n=some x:=by rw [e]; exact sY hx hr
   rw [a,g,b,if_neg (by simp),hb];simp only [Option.bind_some];cases c3:(step s).f3 with
   | true=>rfl
   | false =>
    unfold oY;rw [if_neg (by simp),if_neg (by simp),bE rfl (show (step s).f0[P.length]?=some x by rw [show (step s).f0=P++x::D from e]; simp)];simp only [Option.bind_some];rw [e,zE (x:=x) (y:=⟨x.f0,x.f1,x.f1.length⟩) rfl hr,show (step s).f0=P++x::D from e,Int.toNat_natCast,
     show (P++x::D).set P.length (⟨x.f0,x.f1,x.f1.length⟩:S98)=P++⟨x.f0,x.f1,x.f1.length⟩::D by simp, ← c3]
  ·rw [e] at hr;have a:has s.f0 n=false:=by rw [e]; exact aAx d f
   have b:get s.f0 n=none:=by rw [e]; exact wB d f
   rw [a,b,if_pos (by simp)];rfl
 ·rw [if_pos (by simpa using c),if_neg c];rfl
theorem SI.Delete (h:SI k s) (hk:k<4611686018427387904) (hn:n.length<4611686018427387904):oZ (some s) n=some ((tZ s n).1,some (tZ s n).2):=by
 show (lI n s).bind _=_;unfold lI tZ aBk;rw [aC8 s hn];simp only [Option.bind_some];by_cases c:tJ s n=0
 ·rw [if_neg (by simpa using c),if_pos c,h.find];simp only [Option.bind_some];have hb:=h.begin hk;have hr:=h.rise;have hlen:=h.len;rcases aAl hr n with ⟨P,x,D,e,hx⟩ | ⟨P,D,e,d,f⟩
  ·rw [e] at hr;have a:has s.f0 n=true:=by rw [e]; exact aBb hx hr
   have g:pos s.f0 n=P.length:=by rw [e]; exact zK hx hr
   have b:get s.f0 n=some x:=by rw [e]; exact sY hx hr
   have hl:s.f0.length=P.length+(D.length+1):=by rw [e]; simp
   rw [a,g,b,if_neg (by simp),hb];simp only [Option.bind_some];cases c3:(step s).f3 with
   | true=>rfl
   | false =>
    unfold nB aWn;rw [if_neg (by simp),if_neg (by simp),lt_,w64 (by omega) (by omega),if_pos ⟨by omega,by show (P.length:Int)<(s.f0.length:Int); omega,rfl⟩];simp only [Option.bind_some];rw [e,aGp hx hr,show (step s).f0=P++x::D from e,Int.toNat_natCast,List.eraseIdx_append_of_length_le (Nat.le_refl _),Nat.sub_self,List.eraseIdx_cons_zero, ← c3]
  ·rw [e] at hr;have a:has s.f0 n=false:=by rw [e]; exact aAx d f
   have b:get s.f0 n=none:=by rw [e]; exact wB d f
   rw [a,b,if_pos (by simp)];rfl
 ·rw [if_pos (by simpa using c),if_neg c];rfl
theorem SI.Rename (h:SI k s) (hk:k<4611686018427387904) {a b:List UInt8} (p:a.length<4611686018427387904) (hn:b.length<4611686018427387904):pH (some s) a b=some ((aO5 s a b).1,some (aO5 s a b).2):=by
 show (qV a).bind _=_;unfold aO5;rw [aQl a p];simp only [Option.bind_some];cases cf:sL a with
 | false=>rfl
 | true =>
  rw [if_neg (by simp),if_pos rfl,aC8 s hn];simp only [Option.bind_some];by_cases i:tJ s b=0
  ·rw [if_neg (by simpa using i),if_pos i];unfold oA aBk;rw [aC8 s p];simp only [Option.bind_some];by_cases c:tJ s a=0
   ·rw [if_neg (by simpa using c),if_pos c,h.find];simp only [Option.bind_some];have hb:=h.begin hk;have hr:=h.rise;have hlen:=h.len;rcases aAl hr a with ⟨P,x,D,e,hx⟩ | ⟨P,D,e,q,r⟩
    ·rw [e] at hr;have j:has s.f0 a=true:=by rw [e]; exact aBb hx hr
     have u:pos s.f0 a=P.length:=by rw [e]; exact zK hx hr
     have l:get s.f0 a=some x:=by rw [e]; exact sY hx hr
     have hl:s.f0.length=P.length+(D.length+1):=by rw [e]; simp
     have t:(step s).f0=P++x::D:=e;rw [j,u,l,if_neg (by simp),hb];simp only [Option.bind_some];cases c3:(step s).f3 with
     | true=>rfl
     | false =>
      unfold nD;rw [if_neg (by simp),if_neg (by simp),bE rfl (show (step s).f0[P.length]?=some x by rw [t]; simp)];simp only [Option.bind_some];have v:(step s).f0.eraseIdx (P.length:Int).toNat=P++D:=by rw [t,Int.toNat_natCast,List.eraseIdx_append_of_length_le (Nat.le_refl _),Nat.sub_self,List.eraseIdx_cons_zero]
      have w:del s.f0 a=P++D:=by rw [e]; exact aGp hx hr
      have f:mF (P++D):=aQ6 hr;rw [lt_,w64 (by omega) (by omega),bL rfl,v,w,aP9 _ f (by show (P++D).length<_; rw [List.length_append]; omega)];simp only [Option.bind_some];rcases aAl f b with ⟨d,x',g,e',m⟩ | ⟨d,g,e',n,o⟩
      ·rw [e'] at f ⊢;rw [aBb m f,zK m f,if_pos rfl,bE rfl (show (d++x'::g)[d.length]?=some x' by simp)];simp only [Option.bind_some];rw [zE (y:=⟨b,x.f1,x.f2⟩) m f,Int.toNat_natCast,show (d++x'::g).set d.length (⟨b,x.f1,x.f2⟩:S98)=d++⟨b,x.f1,x.f2⟩::g by simp, ← c3]
      ·have z:P.length+D.length=d.length+g.length:=by rw [← List.length_append,e',List.length_append]
       rw [e'];rw [aAx n o,aKl n o,if_neg (by simp)];unfold aOw;rw [if_pos ⟨by omega,by rw [List.length_append]; omega,by simp,by rw [List.length_append]; simp only [List.length_singleton]; omega⟩];simp only [Option.bind_some];rw [aCx (y:=⟨b,x.f1,x.f2⟩) n o,Int.toNat_natCast,List.take_left,List.drop_left, ← c3];simp
    ·rw [e] at hr;have j:has s.f0 a=false:=by rw [e]; exact aAx q r
     have l:get s.f0 a=none:=by rw [e]; exact wB q r
     rw [j,l,if_pos (by simp)];rfl
   ·rw [if_pos (by simpa using c),if_neg c];rfl
  ·rw [if_pos (by simpa using i),if_neg i]
def aBp (p:List Int) (bit:Int):List Int:=p.set (bit / 8).toNat (wR .u8 (p.getD (bit / 8).toNat 0) (uY .u8 1 (bit % 8)))
def aN9 (s:S77) (n:List UInt8) (bit:Int):Int×S77 :=
 match get s.f0 n with
 | none=>(5,s)
 | some x=>if bit<0\/8 * x.f1.length<=bit then (1,s) else (0,{ s with f0:=put s.f0 ⟨x.f0,aBp x.f1 bit,x.f2⟩ })
theorem SI.Spoil (h:SI k s) (n:List UInt8) (bit:Int):qQ (some s) n bit=some ((aN9 s n bit).1,some (aN9 s n bit).2):=by
 show (dM s n).bind _=_;unfold aN9;rw [h.find];simp only [Option.bind_some];have hr:=h.rise;rcases aAl hr n with ⟨P,x,D,e,hx⟩ | ⟨P,D,e,f,g⟩
 ·rw [e] at hr;have o:=h.one (x:=x) (by rw [e]; simp);have a:has s.f0 n=true:=by rw [e]; exact aBb hx hr
  have j:pos s.f0 n=P.length:=by rw [e]; exact zK hx hr
  have c:get s.f0 n=some x:=by rw [e]; exact sY hx hr
  have d:s.f0[P.length]?=some x:=by rw [e]; simp
  rw [a,j,c,if_neg (by simp)];have jt:∀ b,b=true->iA bit s ((P.length:Int),true) b=some (1,some s):=by intro b hb; subst hb; rfl
  by_cases c1:bit<0
  ·rw [if_pos (by simpa using c1),jt _ rfl];simp only [if_pos (show bit<0\/8 * (x.f1.length:Int)<=bit from .inl c1)]
  rw [if_neg (by simpa using c1),bE rfl d];simp only [Option.bind_some];rw [lt_,w64 (by omega) (by omega)];by_cases c2:8 * (x.f1.length:Int)<=bit
  ·rw [jt _ (by simpa using c2)];simp only [if_pos (show bit<0\/8 * (x.f1.length:Int)<=bit from .inr c2)]
  simp only [if_neg (show ¬ (bit<0\/8 * (x.f1.length:Int)<=bit) from λq=>q.elim c1 c2)];unfold iA;rw [if_neg (by simpa using c2),bE rfl d];simp only [Option.bind_some];have m:P.length<s.f0.length:=(List.getElem?_eq_some_iff.1 d).1;rw [aL1 _ (by omega)];simp only [Option.bind_some,Int.toNat_natCast];rw [bE rfl (List.getElem?_set_self m)];simp only [Option.bind_some];have hd:bit.tdiv 8=((bit / 8).toNat:Int):=by rw [Int.tdiv_eq_ediv_of_nonneg (by omega)]; omega
  have hm:bit.tmod 8=bit % 8:=Int.tmod_eq_emod_of_nonneg (by omega);have hg:=List.getElem?_eq_getElem (l:=x.f1) (i:=(bit / 8).toNat) (by omega);rw [lt_,w64 (by rw [hd]; omega) (by rw [hd]; omega),bE hd hg];simp only [Option.bind_some];rw [bL (by rw [hm]; omega),lt_,lt_,hm,hd,Int.toNat_natCast,List.set_set,e,zE (x:=x) (y:=⟨x.f0,aBp x.f1 bit,x.f2⟩) rfl hr];unfold aBp;rw [show x.f1.getD (bit / 8).toNat 0=x.f1[(bit / 8).toNat] by rw [List.getD_eq_getElem?_getD,hg]; rfl];simp
 ·rw [e] at hr;have a:has s.f0 n=false:=by rw [e]; exact aAx f g
  have c:get s.f0 n=none:=by rw [e]; exact wB f g
  rw [a,c,if_pos (by simp)]
theorem aWu (h:tJ s n=0):sL n=true/\s.f3=false:=by
 unfold tJ at h;split at h
 ·split at h
  ·cases h
  ·exact⟨by assumption,by simpa using (by assumption:¬ s.f3=true)⟩
 ·cases h
theorem SI.app (h:SI k s) {p:List Int} (hp:∀ b∈p,0<=b/\b<256):SI (k+1) (qR s n p).2:=by
 unfold qR;split
 ·rename_i c;split
  ·exact h.mono (Nat.le_succ k)
  ·rename_i c1;have hs:=h.stepped;have hu:=aAc h.rise ⟨n,((get s.f0 n).getD ⟨n,[],0⟩).f1++p,((get s.f0 n).getD ⟨n,[],0⟩).f2⟩;have hl:=aCp h.rise ⟨n,((get s.f0 n).getD ⟨n,[],0⟩).f1++p,((get s.f0 n).getD ⟨n,[],0⟩).f2⟩;have d:∀ y,y=(get s.f0 n).getD ⟨n,[],0⟩->(0<=y.f2/\y.f2<=y.f1.length)/\∀ b∈y.f1,0<=b/\b<256:=by
    intro y a;cases hg:get s.f0 n with
    | none=>rw [hg] at a; subst a; simp
    | some x=>rw [hg] at a; subst a; exact⟨h.sure _ (vV hg).1,h.byt _ (vV hg).1⟩
   obtain⟨f,e⟩:=d _ rfl;have hlen:=h.len; have g:=h.use; have i:=h.room;refine⟨aIx h.rise _,λx hx=>?_,?_,hs.room,?_,λx hx=>?_,λx hx=>?_,hs.armed,hs.ops⟩
   ·rcases aEu hx with rfl | hx
    ·exact (aWu c).1
    ·exact h.form x hx
   ·show (put s.f0 _).length<=500;rw [hl];split
    ·exact hlen
    ·rename_i hi;have hi':get s.f0 n=none:=by simpa using hi
     have:¬ 500<=s.f0.length:=λq=>c1 (.inr ⟨by rw [hi']; rfl,q⟩);omega
   ·show ((used (put s.f0 _):Nat):Int)<=s.f1;simp only [List.length_append] at hu;have:¬ s.f1 - used s.f0<p.length:=λq=>c1 (.inl q);omega
   ·rcases aEu hx with rfl | hx
    ·simp only [List.length_append]; omega
    ·exact h.sure x hx
   ·rcases aEu hx with rfl | hx
    ·intro b hb;rcases List.mem_append.1 hb with hb | hb
     ·exact e b hb
     ·exact hp b hb
    ·exact h.byt x hx
 ·exact h.mono (Nat.le_succ k)
theorem SI.putS (h:SI k s) {l:List S98} (hl:mF l) (hs:∀ x∈l,x∈s.f0) (y:S98) (hf:sL y.f0=true) (hn:(put l y).length<=500) (hu:(used (put l y):Int)<=s.f1) (c:0<=y.f2/\y.f2<=y.f1.length) (hb:∀ b∈y.f1,0<=b/\b<256) {a:Int} (d:0<=a/\a<=9223372036854775807) {f:Bool} {o:Int} (e:0<=o/\o<=(k+1:Nat)) :
  SI (k+1) ⟨put l y,s.f1,a,f,o⟩:=by
 refine⟨aIx hl _,λx hx=>?_,hn,h.room,hu,λx hx=>?_,λx hx=>?_,d,e⟩
 all_goals rcases aEu hx with rfl | hx
 ·exact hf
 ·exact h.form x (hs x hx)
 ·exact c
 ·exact h.sure x (hs x hx)
 ·exact hb
 ·exact h.byt x (hs x hx)
theorem SI.chg (h:SI k s) {f:S98->List S98} (hf:∀ x,get s.f0 n=some x->SI (k+1) { step s with f0:=f x }):SI (k+1) (aBk s n f).2:=by
 unfold aBk;split
 ·split
  ·exact h.mono (Nat.le_succ k)
  ·rename_i x hx;split
   ·exact h.stepped
   ·exact hf x hx
 ·exact h.mono (Nat.le_succ k)
theorem SI.syn (h:SI k s):SI (k+1) (aDf s n).2:=by refine h.chg λx hx=>?_;obtain⟨hm,hn⟩:=vV hx;have hl:=aCp h.rise ⟨x.f0,x.f1,x.f1.length⟩;have hu:=aAc h.rise ⟨x.f0,x.f1,x.f1.length⟩;subst hn;simp only at hl hu;rw [hx] at hl hu;simp only [Option.isSome_some,if_true,Option.getD_some] at hl hu;exact h.putS h.rise (λ_ h=>h) ⟨x.f0,x.f1,x.f1.length⟩ (h.form x hm) (by rw [hl]; exact h.len) (by have:=h.use; omega) ⟨by simp,by simp⟩ (h.byt x hm) h.stepped.armed h.stepped.ops
theorem SI.del (h:SI k s):SI (k+1) (tZ s n).2:=by refine h.chg λx hx=>?_;have hl:=aLt h.rise n;have hu:=aG8 h.rise n;exact⟨yL h.rise n,λy a=>h.form y (aGs a),by show (P.del s.f0 n).length<=500; have:=h.len; omega,h.room,by show (used (P.del s.f0 n):Int)<=s.f1; have:=h.use; omega,λy a=>h.sure y (aGs a),λy a=>h.byt y (aGs a),h.stepped.armed,h.stepped.ops⟩
theorem SI.ren (h:SI k s) {a b:List UInt8}:SI (k+1) (aO5 s a b).2:=by
 unfold aO5;split
 ·split
  ·rename_i c;refine h.chg λx hx=>?_;obtain⟨hm,hn⟩:=vV hx;have hl:=aLt h.rise a;have hu:=aG8 h.rise a;have d:=aCp (yL h.rise a) ⟨b,x.f1,x.f2⟩;have e:=aAc (yL h.rise a) ⟨b,x.f1,x.f2⟩;rw [hx] at hl hu;simp only [Option.isSome_some,if_true,Option.getD_some] at hl hu d e;have g:=h.len; have i:=h.use;exact h.putS (yL h.rise a) (λy f=>aGs f) ⟨b,x.f1,x.f2⟩ (aWu c).1 (by rw [d]; split <;> omega) (by omega) (h.sure x hm) (h.byt x hm) h.stepped.armed h.stepped.ops
  ·exact h.mono (Nat.le_succ k)
 ·exact h.mono (Nat.le_succ k)
end
def onS (l:List S98) (room:Int) (ops:Int):S77:=⟨l,room,0,false,ops⟩
theorem aPe {r:Int} (h:1<=r) (a:r<=16777216):xW r=some (some (onS [] r 0),0):=by unfold xW;rw [if_neg (by simp; omega)];unfold uG;rw [if_neg (by simp; omega)];rfl
theorem aYq {r:Int} (h:1<=r) (a:r<=16777216):SI 0 (onS [] r 0) :=
 ⟨List.Pairwise.nil,λx hx=>(by cases hx),Nat.zero_le _,⟨h,a⟩,by show ((0:Nat):Int)<=r; omega,λx hx=>(by cases hx),λx hx=>(by cases hx),⟨Int.le_refl 0,by show (0:Int)<=9223372036854775807; decide⟩,⟨Int.le_refl 0,Int.le_refl 0⟩⟩
structure AI (k i:Nat) (s:S77):Prop where
 si:SI i s
 room:s.f1=5000
 left:s.f2=(k:Int)+1 - i
 off:s.f3=decide (i=k+1)
 one:∃ p t,s.f0=[⟨[97],p,t⟩]/\p.length<=i
structure RI (n:Int) (i:Nat) (l:List S98) (ops:Int):Prop where
 si:SI (2 * i) (onS l n ops)
 len:l.length<=i
theorem aPi {x:Int} (h:gI .u8 x):0<=x/\x<256:=by unfold gI Lit.wf at h;simp only [Bool.and_eq_true,decide_eq_true_eq] at h;exact⟨h.1,Int.lt_of_le_of_lt h.2 (by decide)⟩
section
end
section
variable {k:Nat} {s:S77} {n:List UInt8}
end
section
variable {k:Nat} {s:S77} {n:List UInt8}
end
section
variable {k:Nat} {s:S77} {n:List UInt8}
theorem aC4 {l:List Int} (h:∀ b∈l,0<=b/\b<256):stb (bts l)=l:=by
 induction l with
 | nil=>rfl
 | cons b l ih =>
  have hb:=h b (List.mem_cons_self ..);show ((UInt8.ofNat b.toNat).toNat:Int)::stb (bts l)=_;rw [ih λx hx=>h x (List.mem_cons_of_mem _ hx)];congr 1;rw [UInt8.toNat_ofNat'];omega
theorem aHy (p:List Int) (bit:Int):(aBp p bit).length=p.length:=by simp [aBp]
theorem aSz {p:List Int} (h:∀ b∈p,0<=b/\b<256) (bit:Int):∀ b∈aBp p bit,0<=b/\b<256:=by
 intro b hb;unfold aBp at hb;rcases List.mem_or_eq_of_mem_set hb with hb | hb
 ·exact h b hb
 ·subst hb;unfold wR;rw [uE];omega
theorem SI.spo (h:SI k s) (bit:Int):SI k (aN9 s n bit).2:=by
 unfold aN9;cases hg:get s.f0 n with
 | none=>exact h
 | some x =>
  simp only;split
  ·exact h
  ·obtain⟨hm,hn⟩:=vV hg;have hl:=aCp h.rise ⟨x.f0,aBp x.f1 bit,x.f2⟩;have hu:=aAc h.rise ⟨x.f0,aBp x.f1 bit,x.f2⟩;subst hn;simp only at hl hu;rw [hg] at hl hu;simp only [Option.isSome_some,if_true,Option.getD_some,aHy] at hl hu;have b:=h.len; have c:=h.use;refine⟨aIx h.rise _,λy a=>?_,by show (put s.f0 _).length<=500; omega,h.room,by show (used (put s.f0 _):Int)<=s.f1; omega,λy a=>?_,λy a=>?_,h.armed,h.ops⟩
   all_goals rcases aEu a with rfl | a
   ·exact h.form x hm
   ·exact h.form y a
   ·simp only [aHy]; exact h.sure x hm
   ·exact h.sure y a
   ·exact aSz (h.byt x hm) bit
   ·exact h.byt y a
end
section
variable {k:Nat} {s:S77} {n:List UInt8}
end
theorem wA (a:Nat):IntKind.u32.wrap (a:Int)=((a % 4294967296:Nat):Int):=by rw [IntKind.wrap_u32]; omega
theorem aLw {a b:Nat} (c:a<4294967296) (hb:b<4294967296):aA3 .u32 (a:Int) (b:Int)=((a &&& b:Nat):Int):=by unfold aA3;rw [eI,eI,wA];have h:a &&& b<4294967296:=Nat.lt_of_le_of_lt Nat.and_le_left c;simp only [BitVec.toNat_and,BitVec.toNat_ofNat,show IntKind.u32.bits=32 from rfl];rw [Nat.mod_eq_of_lt (show a<2 ^ 32 by omega),Nat.mod_eq_of_lt (show b<2 ^ 32 by omega),Nat.mod_eq_of_lt h]
theorem aLe {a b:Nat} (c:a<4294967296) (hb:b<4294967296):ior .u32 (a:Int) (b:Int)=((a ||| b:Nat):Int):=by unfold ior;rw [eI,eI,wA];have h:a ||| b<2 ^ 32:=Nat.or_lt_two_pow (show a<2 ^ 32 by omega) (show b<2 ^ 32 by omega);simp only [BitVec.toNat_or,BitVec.toNat_ofNat,show IntKind.u32.bits=32 from rfl];rw [Nat.mod_eq_of_lt (show a<2 ^ 32 by omega),Nat.mod_eq_of_lt (show b<2 ^ 32 by omega),Nat.mod_eq_of_lt (show a ||| b<4294967296 from h)]
theorem aBm {a b:Nat} (c:a<4294967296) (hb:b<4294967296):wR .u32 (a:Int) (b:Int)=((a ^^^ b:Nat):Int):=by unfold wR;rw [eI,eI,wA];have h:a ^^^ b<2 ^ 32:=Nat.xor_lt_two_pow (show a<2 ^ 32 by omega) (show b<2 ^ 32 by omega);simp only [BitVec.toNat_xor,BitVec.toNat_ofNat,show IntKind.u32.bits=32 from rfl];rw [Nat.mod_eq_of_lt (show a<2 ^ 32 by omega),Nat.mod_eq_of_lt (show b<2 ^ 32 by omega),Nat.mod_eq_of_lt (show a ^^^ b<4294967296 from h)]
theorem aIr (a n:Nat) (h:n<=32):uY .u32 (a:Int) (n:Int)=((a * 2 ^ n % 4294967296:Nat):Int):=by unfold uY;rw [Int.toNat_natCast,show min n IntKind.u32.bits=n from Nat.min_eq_left h,aE0, ← Int.natCast_mul,wA]
theorem aAs {a b:Nat} (c:a<4294967296) (hb:b<4294967296):a ^^^ b<4294967296:=Nat.xor_lt_two_pow (n:=32) c hb
def s1 (c:Nat):Nat:=if c % 2=1 then (c / 2) ^^^ 3988292384 else c / 2
theorem aWy {c:Nat} (h:c<4294967296):s1 c<4294967296:=by
 unfold s1;split
 ·exact aAs (by omega) (by decide)
 ·omega
theorem aRz (a b:Nat):s1 (a ^^^ b)=s1 a ^^^ s1 b:=by
 unfold s1;have h:=Nat.xor_mod_two_eq_one (a:=a) (b:=b);rw [Nat.xor_div_two];by_cases c:a % 2=1 <;> by_cases hb:b % 2=1
 ·rw [if_neg (by rw [h]; simp [c,hb]),if_pos c,if_pos hb];rw [show (a / 2 ^^^ 3988292384) ^^^ (b / 2 ^^^ 3988292384)=(a / 2 ^^^ b / 2) ^^^ (3988292384 ^^^ 3988292384) by
   rw [Nat.xor_assoc, ← Nat.xor_assoc 3988292384,Nat.xor_comm 3988292384 (b / 2),Nat.xor_assoc (b / 2), ← Nat.xor_assoc]]
  simp
 ·rw [if_pos (by rw [h]; simp [c,hb]),if_pos c,if_neg hb,Nat.xor_assoc,Nat.xor_comm (b / 2), ← Nat.xor_assoc]
 ·rw [if_pos (by rw [h]; simp [c,hb]),if_neg c,if_pos hb,Nat.xor_assoc]
 ·rw [if_neg (by rw [h]; simp [c,hb]),if_neg c,if_neg hb]
theorem aVe (a:Nat):s1 (2 * a)=a:=by unfold s1; rw [if_neg (by omega)]; omega
theorem aTt (a z:Nat):s1 (2 * a ^^^ z)=a ^^^ s1 z:=by rw [aRz,aVe]
def st (x:Nat):Nat->Nat->Nat
 | 0,c=>c
 | k+1,c=>s1 (st x k c ^^^ (x / 2 ^ k % 2))
theorem aW8 (x:Nat) {c:Nat} (h:c<4294967296):∀ k,st x k c<4294967296
 | 0=>h
 | k+1=>aWy (aAs (aW8 x h k) (by omega))
def tabN:List Nat:=[0,498536548,997073096,651767980,1994146192,1802195444,1303535960,1342533948,3988292384,4027552580,3604390888,3412177804,2607071920,2262029012,2685067896,3183342108]
theorem aYh:bY=tabN.map λn:Nat=>(n:Int):=by decide
def F4 (r m:Nat):Nat:=s1 (s1 (s1 (s1 (r ^^^ m / 1 % 2) ^^^ m / 2 % 2) ^^^ m / 4 % 2) ^^^ m / 8 % 2)
theorem aSb:∀ r<16,∀ m<16,tabN[r ^^^ m]?=some (F4 r m):=by decide +kernel
theorem aUz (c:Nat):c=(16 * (c / 16)) ^^^ (c % 16):=by
 apply Nat.eq_of_testBit_eq;intro i;rw [Nat.testBit_xor,show 16 * (c / 16)=2 ^ 4 * (c / 2 ^ 4) from rfl,show c % 16=c % 2 ^ 4 from rfl,Nat.testBit_two_pow_mul,Nat.testBit_mod_two_pow,Nat.testBit_div_two_pow];by_cases h:i<4
 ·simp [h,Nat.not_le.2 h]
 ·rw [show i - 4+4=i by omega]; simp [h,Nat.le_of_not_lt h]
theorem nib (c m:Nat):s1 (s1 (s1 (s1 (c ^^^ m / 1 % 2) ^^^ m / 2 % 2) ^^^ m / 4 % 2) ^^^ m / 8 % 2)=(c / 16) ^^^ F4 (c % 16) m:=by have h:=aUz c;obtain⟨q,a⟩:∃ q,q=c / 16:=⟨_,rfl⟩;obtain⟨r,hr⟩:∃ r,r=c % 16:=⟨_,rfl⟩;rw [← a, ← hr] at h ⊢;rw [h];unfold F4;rw [Nat.xor_assoc,show 16 * q=2 * (8 * q) by omega,aTt,Nat.xor_assoc,show 8 * q=2 * (4 * q) by omega,aTt,Nat.xor_assoc,show 4 * q=2 * (2 * q) by omega,aTt,Nat.xor_assoc,aTt]
theorem st8 (x c:Nat) (hx:x<256):st x 8 c=(((c / 16) ^^^ F4 (c % 16) (x % 16)) / 16) ^^^ F4 (((c / 16) ^^^ F4 (c % 16) (x % 16)) % 16) (x / 16):=by
 rw [← nib c (x % 16), ← nib _ (x / 16)];show s1 (s1 (s1 (s1 (s1 (s1 (s1 (s1 (c ^^^ x / 2 ^ 0 % 2) ^^^ x / 2 ^ 1 % 2) ^^^ x / 2 ^ 2 % 2) ^^^ x / 2 ^ 3 % 2) ^^^ x / 2 ^ 4 % 2) ^^^ x / 2 ^ 5 % 2) ^^^ x / 2 ^ 6 % 2) ^^^ x / 2 ^ 7 % 2)=_;rw [show x / 2 ^ 0 % 2=x % 16 / 1 % 2 by omega,show x / 2 ^ 1 % 2=x % 16 / 2 % 2 by omega,show x / 2 ^ 2 % 2=x % 16 / 4 % 2 by omega,show x / 2 ^ 3 % 2=x % 16 / 8 % 2 by omega,
  show x / 2 ^ 4 % 2=x / 16 / 1 % 2 by omega,show x / 2 ^ 5 % 2=x / 16 / 2 % 2 by omega,show x / 2 ^ 6 % 2=x / 16 / 4 % 2 by omega,show x / 2 ^ 7 % 2=x / 16 / 8 % 2 by omega]
def aEq (c:Nat) (xs:List Int):Nat:=xs.foldl (λc x=>st x.toNat 8 c) c
theorem aGq:∀ (xs:List Int) {c:Nat},c<4294967296->aEq c xs<4294967296
 | [],_,h=>h
 | x::xs,c,h=>aGq xs (aW8 _ h 8)
theorem aQ1 (c:Nat) (xs:List Int) (x:Int):aEq c (xs++[x])=st x.toNat 8 (aEq c xs):=by simp [aEq]
theorem aW1 {r m:Nat} (hr:r<16) (hm:m<16):at_ bY ((r ^^^ m:Nat):Int)=some ((F4 r m:Nat):Int):=by rw [aOl,aYh,List.getElem?_map,aSb r hr m hm]; rfl
theorem aXp (a b:Nat):(a ^^^ b) &&& 15=a % 16 ^^^ b % 16:=by rw [show 15=2 ^ 4 - 1 from rfl,Nat.and_two_pow_sub_one_eq_mod,Nat.xor_mod_two_pow]
theorem aX6 {r m:Nat} (hr:r<16) (hm:m<16):F4 r m<4294967296:=by
 have:=aSb r hr m hm;have h:∀ x∈tabN,x<4294967296:=by decide
 exact h _ (List.mem_of_getElem? this)
theorem aRc {xs:List Int} (hB:Bs xs) (hl:xs.length<2 ^ 60) {k:Nat} (hk:k<xs.length) {c:Nat} (hc:c<4294967296) :
  nE xs (c:Int) (k:Int)=some (.inl (((st (xs[k]'hk).toNat 8 c:Nat):Int),((k+1:Nat):Int))):=by
 obtain⟨x,hx⟩:∃ x,x=xs[k]'hk:=⟨_,rfl⟩;have f:=hB x (hx▸List.getElem_mem hk);obtain⟨b,rfl⟩:=Int.eq_ofNat_of_zero_le f.1;have hb:b<256:=by omega
 have hg:xs[k]?=some (b:Int):=by rw [hx]; exact List.getElem?_eq_getElem hk
 rw [← hx,Int.toNat_natCast,st8 b c hb];unfold nE;simp only [lt_];rw [if_pos (by simp; omega),bE rfl hg];simp only [Option.bind_some];have e:(15:Int)=((15:Nat):Int):=rfl;have g:(4:Int)=((4:Nat):Int):=rfl;have hf:F4 (c % 16) (b % 16)<4294967296:=aX6 (by omega) (by omega);have hd:c / 16 ^^^ F4 (c % 16) (b % 16)<4294967296:=aAs (by omega) hf;obtain⟨d,a⟩:∃ d,d=c / 16 ^^^ F4 (c % 16) (b % 16):=⟨_,rfl⟩;rw [← a] at hd ⊢;rw [wA,Nat.mod_eq_of_lt (by omega),aBm hc (by omega),e,aLw (aAs hc (by omega)) (by decide),aXp,aW1 (by omega) (by omega),g];simp only [Option.bind_some];rw [mD _ _ (by decide),mD _ _ (by decide),show c / 2 ^ 4=c / 16 from rfl,show b / 2 ^ 4=b / 16 from rfl,aBm hf (by omega),Nat.xor_comm _ (c / 16), ← a,aBm hd (by omega),
  aLw (aAs hd (by omega)) (by decide),aXp,show b / 16 % 16=b / 16 by omega,aW1 (by omega) (by omega)]
 simp only [Option.bind_some];rw [mD _ _ (by decide),show d / 2 ^ 4=d / 16 from rfl,aBm (aX6 (by omega) (by omega)) (by omega),Nat.xor_comm _ (d / 16),w64 (by omega) (by omega)];rfl
theorem aSo (c:Nat) {xs:List Int} {k:Nat} (hk:k<xs.length):aEq c (xs.take (k+1))=st (xs[k]'hk).toNat 8 (aEq c (xs.take k)):=by rw [List.take_add_one,List.getElem?_eq_getElem hk];exact aQ1 _ _ _
def crc (xs:List Int):Nat:=aEq 4294967295 xs ^^^ 4294967295
theorem aLq (xs:List Int):crc xs<4294967296:=aAs (aGq xs (by decide)) (by decide)
theorem aGc {xs:List Int} (hB:Bs xs) (hl:xs.length<2 ^ 60):aAp xs=some ((crc xs:Nat):Int):=by
 have h:=kC (b:=λs:Int×Int=>nE xs s.1 s.2) (λk=>(((aEq 4294967295 (xs.take k):Nat):Int),(k:Int))) (t:=((aEq 4294967295 xs:Nat):Int)) xs.length (λk hk=>by
  show nE xs _ _=_;rw [aRc hB hl hk (aGq _ (by decide)),aSo _ hk]) (by
  show nE xs ((aEq 4294967295 (xs.take xs.length):Nat):Int) (xs.length:Int)=_;unfold nE;rw [if_neg (by simp),List.take_length])
 unfold aAp;rw [show ((4294967295,0):Int×Int)=(((aEq 4294967295 (xs.take 0):Nat):Int),((0:Nat):Int)) from rfl,h];show some (wR .u32 IntKind.u32.max _)=_;rw [show IntKind.u32.max=((4294967295:Nat):Int) by decide,aBm (by decide) (aGq _ (by decide)),Nat.xor_comm];rfl
def uA (v:List Int):Nat:=(v.getD 0 0).toNat+256 * (v.getD 1 0).toNat+65536 * (v.getD 2 0).toNat+16777216 * (v.getD 3 0).toNat
theorem aGk {v:List Int} (hB:Bs v) (h:4<=v.length):∃ a b c d:Nat,∃ r,v=(a:Int)::b::c::d::r/\a<256/\b<256/\c<256/\d<256:=by
 match v,h with
 | a::b::c::d::r,_ =>
  have e:=hB a (by simp); have hb:=hB b (by simp); have hc:=hB c (by simp); have hd:=hB d (by simp);obtain⟨a,rfl⟩:=Int.eq_ofNat_of_zero_le e.1; obtain⟨b,rfl⟩:=Int.eq_ofNat_of_zero_le hb.1;obtain⟨c,rfl⟩:=Int.eq_ofNat_of_zero_le hc.1; obtain⟨d,rfl⟩:=Int.eq_ofNat_of_zero_le hd.1;exact⟨a,b,c,d,r,rfl,by omega,by omega,by omega,by omega⟩
theorem aCw (a b c d:Nat) (r:List Int):uA ((a:Int)::b::c::d::r)=a+256 * b+65536 * c+16777216 * d:=by simp [uA]
theorem aVh {v:List Int} (hB:Bs v) (h:4<=v.length):uA v<4294967296:=by obtain⟨a,b,c,d,r,rfl,e,f,g,i⟩:=aGk hB h;rw [aCw]; omega
theorem at0 {α:Type} (a b c d:α) (r:List α):at_ (a::b::c::d::r) 0=some a/\at_ (a::b::c::d::r) 1=some b/\at_ (a::b::c::d::r) 2=some c/\at_ (a::b::c::d::r) 3=some d :=
 ⟨bE (n:=0) rfl rfl,bE (n:=1) rfl rfl,bE (n:=2) rfl rfl,bE (n:=3) rfl rfl⟩
theorem aB8 {v:List Int} (hB:Bs v) (h:4<=v.length):tV v=some (uA v:Int):=by obtain⟨a,b,c,d,r,rfl,i,j,k,l⟩:=aGk hB h;obtain⟨e0,e,f,g⟩:=at0 (a:Int) (b:Int) (c:Int) (d:Int) r;unfold tV;simp only [lt_,e0,e,f,g,Option.bind_some];rw [show (8:Int)=((8:Nat):Int) from rfl,show (16:Int)=((16:Nat):Int) from rfl,show (24:Int)=((24:Nat):Int) from rfl];rw [wA a,wA b,wA c,wA d,Nat.mod_eq_of_lt (show a<4294967296 by omega),Nat.mod_eq_of_lt (show b<4294967296 by omega),Nat.mod_eq_of_lt (show c<4294967296 by omega),Nat.mod_eq_of_lt (show d<4294967296 by omega)];rw [aIr b 8 (by decide),aIr c 16 (by decide),aIr d 24 (by decide),Nat.mod_eq_of_lt (show b * 2 ^ 8<4294967296 by omega),Nat.mod_eq_of_lt (show c * 2 ^ 16<4294967296 by omega),Nat.mod_eq_of_lt (show d * 2 ^ 24<4294967296 by omega)];rw [aLe (by omega) (by omega),aAy (show a<2 ^ 8 by omega),aLe (by omega) (by omega),aAy (show a+b * 2 ^ 8<2 ^ 16 by omega),aLe (by omega) (by omega),aAy (show a+b * 2 ^ 8+c * 2 ^ 16<2 ^ 24 by omega),aCw];congr 2;omega
theorem aB0 {l:List Int} (h:l.length<=140737488355328):cP l=some l:=by unfold cP;rw [bL (by simp; omega)];unfold sO;cases l <;> simp
def sB (b:List Int) (a:Int):Int×List Int×Int×Int :=
 if a<0\/(b.length:Int)<a then (0,[],0,1) else
 if (b.drop a.toNat).length<9 then (0,[],0,3) else
 if 1048576<uA (b.drop a.toNat)\/(b.drop a.toNat).length - 9<uA (b.drop a.toNat) then (0,[],0,3) else
 if crc ((b.drop a.toNat).take (5+uA (b.drop a.toNat)))=uA ((b.drop a.toNat).drop (5+uA (b.drop a.toNat))) then
  ((b.drop a.toNat).getD 4 0,((b.drop a.toNat).take (5+uA (b.drop a.toNat))).drop 5,a+uA (b.drop a.toNat)+9,0) else (0,[],0,4)
theorem bAv {v:List Int} (h:5<=v.length):at_ v 4=some (v.getD 4 0):=by refine bE (n:=4) rfl ?_;rw [List.getD_eq_getElem?_getD,List.getElem?_eq_getElem (by omega)];rfl
theorem aO8 {α:Type} {xs:List α} {l:Nat} (h:l<=xs.length):kO xs (l:Int) (xs.length:Int)=some (xs.drop l):=by rw [qK h (Nat.le_refl _),List.take_length]
theorem oW {b:List Int} {a:Int} (hB:Bs b) (hl:b.length<2 ^ 40):rN b a=some (sB b a):=by
 unfold rN sB;by_cases h0:a<0
 ·rw [if_pos (by simpa using h0),if_pos (.inl h0)]; rfl
 rw [if_neg (by simpa using h0)];by_cases d:(b.length:Int)<a
 ·rw [if_pos (.inr d),show decide ((b.length:Int)<a)=true by simpa using d]; rfl
 rw [if_neg (by omega),show decide ((b.length:Int)<a)=false by simpa using d];obtain⟨k,rfl⟩:=Int.eq_ofNat_of_zero_le (show 0<=a by omega);have c:=hB.drop k;have h:(b.drop k).length=b.length - k:=by simp
 have hc:=aO8 (xs:=b) (l:=k) (by omega);rw [Int.toNat_natCast];obtain⟨v,i⟩:∃ v,v=b.drop k:=⟨_,rfl⟩;rw [← i] at c h hc ⊢;unfold uL;rw [if_neg (by simp),hc];simp only [Option.bind_some];by_cases e:v.length<9
 ·rw [if_pos (by simp; omega),if_pos e]
 rw [if_neg (by simp; omega),if_neg e,aB8 c (by omega)];simp only [Option.bind_some];have g:=aVh c (by omega);have j:=aLq (v.take (5+uA v));obtain⟨n,hn⟩:∃ n,n=uA v:=⟨_,rfl⟩;rw [← hn] at g j ⊢;by_cases m:1048576<n
 ·rw [if_pos (by simp; omega),if_pos (.inl m)]; rfl
 rw [if_neg (by simp; omega),lt_,lt_,w64 (by omega) (by omega),w64 (by omega) (by omega)];by_cases o:v.length - 9<n
 ·rw [if_pos (.inr o),show decide ((v.length:Int) - 9<(n:Int))=true by simp; omega]; rfl
 rw [if_neg (by omega),show decide ((v.length:Int) - 9<(n:Int))=false by simp; omega];unfold uS;rw [if_neg (by simp)];simp only [lt_];rw [w64 (n:=(n:Int)) (by omega) (by omega),w64 (n:=5+(n:Int)) (by omega) (by omega),show (5:Int)+(n:Int)=((5+n:Nat):Int) by omega,
  show kO v 0 ((5+n:Nat):Int)=some ((v.take (5+n)).drop 0) from qK (l:=0) (Nat.zero_le _) (by omega),List.drop_zero]
 simp only [Option.bind_some];rw [aO8 (by omega)];simp only [Option.bind_some];rw [aGc (c.take _) (by simp; omega)];simp only [Option.bind_some];rw [aB8 (c.drop _) (by simp; omega)];simp only [Option.bind_some];by_cases f:crc (v.take (5+n))=uA (v.drop (5+n))
 ·rw [if_neg (by simp; omega),if_pos f,bAv (by omega)];simp only [Option.bind_some];rw [show kO v 5 ((5+n:Nat):Int)=some ((v.take (5+n)).drop 5) from qK (l:=5) (by omega) (by omega)];simp only [Option.bind_some];rw [aB0 (by simp; omega)];simp only [Option.bind_some];rw [w64 (n:=(k:Int)+((5+n:Nat):Int)) (by omega) (by omega),w64 (by omega) (by omega)];congr 4;omega
 ·rw [if_pos (by simp; omega),if_neg f]
theorem aSa {b:List Int} {a:Int} (hB:Bs b):Bs (sB b a).2.1/\(sB b a).2.1.length<=1048576:=by
 unfold sB
 repeat' split
 all_goals first
  | exact⟨Bs.nil,by simp⟩
  | exact⟨((hB.drop _).take _).drop _,by simp; omega⟩
def pTx:Nat->List Int->Option (List (List UInt8)×List Int)
 | 0,xs=>some ([],xs)
 | n+1,xs=>match pT 1048576 xs with
  | some (t,r)=>match pTx n r with
   | some (ts,r')=>some (t::ts,r')
   | none=>none
  | none=>none
theorem aPf {most:Int} {xs r:List Int} {t:List UInt8} (h:pT most xs=some (t,r)):t.length<=xs.length:=by
 unfold pT at h;split at h
 ·rename_i n r' he;obtain⟨_,p,hp,_⟩:=tA he;split at h
  ·cases h;rw [hp]; simp [bts]; omega
  ·cases h
 ·cases h
theorem aRs:∀ (n:Nat) {xs:List Int} {ts:List (List UInt8)} {r:List Int},Bs xs->pTx n xs=some (ts,r)->Bs r/\r.length<=xs.length/\ts.length=n/\∀ t∈ts,t.length<=xs.length
 | 0,xs,ts,r,hB,h=>by cases h; exact⟨hB,Nat.le_refl _,rfl,λt ht=>by cases ht⟩
 | n+1,xs,ts,r,hB,h=>by
  unfold pTx at h;split at h
  ·rename_i t g he;obtain⟨b,i⟩:=aPw hB he;split at h
   ·rename_i us j c;cases h;obtain⟨d,k,e,f⟩:=aRs n b c;refine⟨d,by omega,by simp [e],λq a=>?_⟩;rcases List.mem_cons.1 a with rfl | a
    ·exact aPf he
    ·have:=f q a; omega
   ·cases h
  ·cases h
theorem aJh:∀ (m k:Nat) (a:List (List Int)) (xs:List Int),Bs xs->xs.length<1099511627776->k+m=5->a.length=5 ->
  ∃ y,loop (λs:List Int×List (List Int)×Int=>gE s.1 s.2.1 s.2.2) (xs,a,(k:Int))=some y/\match pTx m xs with
   | some (ts,r)=>y=.inl (r,a.take k++ts.map stb)
   | none=>∃ s,y=.inr (.inr s)
 | 0,k,a,xs,hB,hl,hk,ha=>by
  refine⟨.inl (xs,a),bK ?_,?_⟩
  ·show gE xs a (k:Int)=_;unfold gE;rw [if_neg (by simp only [decide_eq_true_eq]; omega)]
  ·show _=_;rw [List.take_of_length_le (by omega)]; simp
 | m+1,k,a,xs,hB,hl,hk,ha=>by
  unfold pTx;rcases (aLl 1048576 hB (by omega)).cases with ⟨t,r,b,c⟩ | ⟨b,s,c⟩
  ·rw [b];obtain⟨d,g⟩:=aPw hB b;have h:=aPf b;obtain⟨y,f,hm⟩:=aJh m (k+1) (a.set k (stb t)) r d (by omega) (by omega) (by simpa using ha);have hx:=List.getElem?_eq_getElem (l:=a) (i:=k) (by omega);refine⟨y,(cL (s':=(r,a.set k (stb t),((k+1:Nat):Int))) ?_).trans f,?_⟩
   ·show gE xs a (k:Int)=_;unfold gE;rw [if_pos (by simp only [decide_eq_true_eq]; omega),c];simp only [Option.bind_some,hJ];rw [bL (by simp only [maxLen]; omega),bE rfl hx];simp only [Option.bind_some];rw [lt_,w64 (by omega) (by omega)];rfl
   ·have e:(a.set k (stb t)).take (k+1)=a.take k++[stb t]:=by rw [List.take_add_one,List.getElem?_set_self (by omega),List.take_set_of_le (by omega)]; rfl
    dsimp only;cases hq:pTx m r with
    | none=>rw [hq] at hm; exact hm
    | some z =>
     rw [hq] at hm;obtain⟨ts,r'⟩:=z;simp only at hm ⊢;rw [hm,e]; simp
  ·rw [b];refine⟨.inr (.inr (s,a)),bK ?_,_,rfl⟩;show gE xs a (k:Int)=_;unfold gE;rw [if_pos (by simp only [decide_eq_true_eq]; omega),c];rfl
def pM (x:S61) (k:Int):Bool:=decide (0<=x.f1)&&(decide (x.f1<k)&&(decide (-1099511627776<=x.f2)&&(decide (x.f2<=1099511627776)&&(decide ((x.f3.length:Int)<=32)&&decide (x.f0<1099511627776)))))
theorem aLd (x:S61) (k:Int):vH x k=some (pM x k):=by unfold vH pM;cases decide (0<=x.f1) <;> cases decide (x.f1<k) <;> cases decide (-1099511627776<=x.f2) <;> cases decide (x.f2<=1099511627776) <;> cases decide ((x.f3.length:Int)<=32) <;> rfl
def aDn (k:Int):List Int->List Int->List Int->List (List UInt8)->List Nat->Option (List S61)
 | a::as_,b::bs,c::cs,d::ds,e::es =>
  if pM ⟨IntKind.u64.wrap a,b,c,d,e⟩ k=true then (aDn k as_ bs cs ds es).map (⟨IntKind.u64.wrap a,b,c,d,e⟩::·) else none
 | _,_,_,_,_=>some []
theorem aJ1 (s:Int) (A B C:List Int) (D:List (List UInt8)) (F:List Nat) (i j k l m:Int) (hB:B.length=A.length) (hC:C.length=A.length) (f:D.length=A.length) (g:F.length=A.length) (hA:A.length<=4096) :
  ∀ (n q:Nat) (pre:List S61),q+n=A.length->pre.length=q ->
   loop (λz:List S61×Int=>lV s (A,i) (B,j) (C,k) (D,l) (F,m) z.1 z.2) (pre,(q:Int))=some (match aDn s (A.drop q) (B.drop q) (C.drop q) (D.drop q) (F.drop q) with
    | some es=>.inl (pre++es)
    | none=>.inr ([],0,3))
 | 0,q,pre,hq,hp=>by rw [List.drop_of_length_le (show A.length<=q by omega)];refine bK ?_;show lV s (A,i) (B,j) (C,k) (D,l) (F,m) pre (q:Int)=_;unfold lV aDn;rw [if_neg (by simp only [decide_eq_true_eq]; omega)];simp
 | n+1,q,pre,hq,hp=>by
  have gA:=List.getElem?_eq_getElem (l:=A) (i:=q) (by omega);have gB:=List.getElem?_eq_getElem (l:=B) (i:=q) (by omega);have gC:=List.getElem?_eq_getElem (l:=C) (i:=q) (by omega);have gD:=List.getElem?_eq_getElem (l:=D) (i:=q) (by omega);have gF:=List.getElem?_eq_getElem (l:=F) (i:=q) (by omega);rw [List.drop_eq_getElem_cons (show q<A.length by omega),List.drop_eq_getElem_cons (show q<B.length by omega),List.drop_eq_getElem_cons (show q<C.length by omega),List.drop_eq_getElem_cons (show q<D.length by omega),List.drop_eq_getElem_cons (show q<F.length by omega)];generalize A[q]=a at *;generalize B[q]=b at *;generalize C[q]=c at *;generalize D[q]=d at *;generalize F[q]=e at *;have hs:lV s (A,i) (B,j) (C,k) (D,l) (F,m) pre (q:Int)=if pM ⟨IntKind.u64.wrap a,b,c,d,e⟩ s=true then some (.inl (pre++[⟨IntKind.u64.wrap a,b,c,d,e⟩],((q+1:Nat):Int))) else some (.inr (.inr ([],0,3))):=by unfold lV;rw [if_pos (by simp only [decide_eq_true_eq]; omega),bE rfl gA];simp only [Option.bind_some,lt_];rw [bE rfl gB,bE rfl gC,bE rfl gD,bE rfl gF];simp only [Option.bind_some,aLd];rw [bL (by simp; omega),w64 (by omega) (by omega)];cases pM ⟨IntKind.u64.wrap a,b,c,d,e⟩ s <;> rfl
  unfold aDn;by_cases hf:pM ⟨IntKind.u64.wrap a,b,c,d,e⟩ s=true
  ·rw [if_pos hf] at hs ⊢;rw [cL (s':=(pre++[⟨IntKind.u64.wrap a,b,c,d,e⟩],((q+1:Nat):Int))) hs,aJ1 s A B C D F i j k l m hB hC f g hA n (q+1) (pre++[(⟨IntKind.u64.wrap a,b,c,d,e⟩:S61)]) (by omega) (by simp [hp])];cases aDn s (A.drop (q+1)) (B.drop (q+1)) (C.drop (q+1)) (D.drop (q+1)) (F.drop (q+1)) <;> simp
  ·rw [if_neg hf] at hs ⊢;rw [bK (t:=.inr ([],0,3)) hs]
theorem aHo (l:List Int) (b:Int) (h:l.length<1099511627776):dL l b=some (decide (b∈l)):=by
 unfold dL fK;have key:∀ (m k:Nat),k+m=l.length->∃ y,loop (λs:Int=>bX l b s) (k:Int)=some y/\if b∈l.drop k then ∃ j:Nat,y=.inr (j:Int) else y=.inl ():=by
  intro m
  induction m with
  | zero =>
   intro k hk;refine⟨.inl (),bK ?_,?_⟩
   ·unfold bX;rw [if_neg (by simp only [decide_eq_true_eq]; omega)]
   ·rw [List.drop_of_length_le (by omega),if_neg (by simp)]
  | succ m ih =>
   intro k hk;have c:k<l.length:=by omega
   have hx:=List.getElem?_eq_getElem c;have hd:l.drop k=l[k]::l.drop (k+1):=List.drop_eq_getElem_cons c;rw [hd];by_cases hb:b=l[k]
   ·refine⟨.inr (k:Int),bK ?_,?_⟩
    ·unfold bX;rw [if_pos (by simp only [decide_eq_true_eq]; omega),bE rfl hx];simp only [Option.bind_some];rw [if_pos (by simpa using hb)]
    ·rw [if_pos (by rw [hb]; exact List.mem_cons_self)];exact⟨k,rfl⟩
   ·obtain⟨y,a,hm⟩:=ih (k+1) (by omega);refine⟨y,(cL (s':=((k+1:Nat):Int)) ?_).trans a,?_⟩
    ·unfold bX;rw [if_pos (by simp only [decide_eq_true_eq]; omega),bE rfl hx];simp only [Option.bind_some];rw [if_neg (by simpa using hb),lt_,w64 (by omega) (by omega)];rfl
    ·have he:(b∈l[k]::l.drop (k+1))=(b∈l.drop (k+1)):=propext ⟨λh=>(List.mem_cons.1 h).resolve_left hb,λh=>List.mem_cons_of_mem _ h⟩;simpa only [he] using hm
 obtain⟨y,a,hm⟩:=key l.length 0 (by omega);rw [show ((0:Nat):Int)=0 from rfl] at a;rw [a,List.drop_zero] at *;by_cases hb:b∈l
 ·rw [if_pos hb] at hm;obtain⟨j,rfl⟩:=hm;simp only [Option.bind_some];rw [show decide (0<=(j:Int))=true by simp,show decide (b∈l)=true by simpa using hb]
 ·rw [if_neg hb] at hm;subst hm;rw [show decide (b∈l)=false by simpa using hb];rfl
def evL (s:Int) (t0 f t2 t3 t4:List UInt8):Option (List S61) :=
 match vB (stb t0),vB (stb f),vB (stb t2),aJd (stb t3),aMm (stb t4) with
 | some a,some b,some c,some d,some e=>if b.length=a.length/\c.length=a.length/\d.length=a.length/\e.length=a.length then aDn s a b c d e else none
 | _,_,_,_,_=>none
def evR (b:List Int) (a s:Int):List S61×Int×Int :=
 if (sB b a).2.2.2≠0 then ([],0,(sB b a).2.2.2) else
 if (sB b a).1≠101 then ([],0,3) else
 match pTx 5 (sB b a).2.1 with
 | some ([t0,t1,t2,t3,t4],[])=>match evL s t0 t1 t2 t3 t4 with
  | some l=>(l,(sB b a).2.2.1,0)
  | none=>([],0,3)
 | _=>([],0,3)
theorem aH9 (t:List UInt8):Bs (stb t):=λb hb=>by unfold stb at hb;obtain⟨c,_,rfl⟩:=List.mem_map.1 hb;have:=c.toNat_lt;omega
theorem xC (t:List UInt8):(stb t).length=t.length:=by simp [stb]
theorem aNv (s:Int) (y:Int×List Int×Int×Int) (t0 a t2 t3 t4:List UInt8) (h0:t0.length<1099511627776) (g:a.length<1099511627776) (h:t2.length<1099511627776) (i:t3.length<1099511627776) (j:t4.length<1099511627776) :
  nU s y [stb t0,stb a,stb t2,stb t3,stb t4] true=some (match evL s t0 a t2 t3 t4 with | some l=>(l,y.2.2.1,0) | none=>([],0,3)):=by
 unfold nU evL;rw [if_neg (by simp)];rw [show at_ [stb t0,stb a,stb t2,stb t3,stb t4] 0=some (stb t0) from rfl,show at_ [stb t0,stb a,stb t2,stb t3,stb t4] 1=some (stb a) from rfl,show at_ [stb t0,stb a,stb t2,stb t3,stb t4] 2=some (stb t2) from rfl,show at_ [stb t0,stb a,stb t2,stb t3,stb t4] 3=some (stb t3) from rfl,show at_ [stb t0,stb a,stb t2,stb t3,stb t4] 4=some (stb t4) from rfl];simp only [Option.bind_some];rw [xD (aH9 t0) (by rw [xC]; omega)];simp only [Option.bind_some];rw [xD (aH9 a) (by rw [xC]; omega)];simp only [Option.bind_some];rw [xD (aH9 t2) (by rw [xC]; omega)];simp only [Option.bind_some];rw [aI2 (aH9 t3) (by rw [xC]; omega)];simp only [Option.bind_some];rw [aI7 (aH9 t4) (by rw [xC]; omega),show (vB (stb t4)).bind aFr=aMm (stb t4) from rfl];simp only [Option.bind_some];rw [aHo _ _ (by simp)];simp only [Option.bind_some];cases ha:vB (stb t0) with
 | none=>simp [fF]
 | some A =>
 cases hb:vB (stb a) with
 | none=>simp [fF]
 | some B =>
 cases hc:vB (stb t2) with
 | none=>simp [fF]
 | some C =>
 cases hd:aJd (stb t3) with
 | none=>simp [fF]
 | some D =>
 cases he:aMm (stb t4) with
 | none=>simp [fF]
 | some F =>
 have f:=aJy ha;simp only;rw [if_neg (by simp)];by_cases b:B.length=A.length
 ·rw [if_neg (by simp [b])];by_cases c:C.length=A.length
  ·rw [if_neg (by simp [c])];by_cases d:D.length=A.length
   ·rw [if_neg (by simp [d])];by_cases e:F.length=A.length
    ·rw [if_pos ⟨b,c,d,e⟩,show ((F.length:Int) != (A.length:Int))=false by simp [e]];unfold fF;rw [if_neg (by simp),show ((0:Int))=((0:Nat):Int) from rfl,aJ1 s A B C D F _ _ _ _ _ b c d e f A.length 0 [] (by omega) rfl];simp only [List.drop_zero,List.nil_append];cases aDn s A B C D F <;> rfl
    ·rw [if_neg (by simp [e]),show ((F.length:Int) != (A.length:Int))=true by simp; omega];rfl
   ·rw [if_pos (by simp; omega),if_neg (by simp [d])]; rfl
  ·rw [if_pos (by simp; omega),if_neg (by simp [c])]; rfl
 ·rw [if_pos (by simp; omega),if_neg (by simp [b])]; rfl
theorem zU {b:List Int} {a s:Int} (hB:Bs b) (hl:b.length<2 ^ 40):yK b a s=some (evR b a s):=by
 unfold yK evR;rw [oW hB hl];simp only [Option.bind_some];obtain⟨hp,j⟩:=aSa (a:=a) hB;generalize sB b a=y at *;obtain⟨c,g,i,d⟩:=y;simp only at hp j ⊢;by_cases h:d=0
 ·rw [if_neg (show ¬ ((d != 0)=true) by simp [h]),if_neg (show ¬ (d≠0) by simp [h])];by_cases h0:c=101
  ·rw [if_pos (show (c==101)=true by simp [h0]),if_neg (show ¬ (c≠101) by simp [h0])];unfold vR xI;obtain⟨z,hz,hm⟩:=aJh 5 0 [[],[],[],[],[]] g hp (by omega) rfl rfl;rw [show ((0:Nat):Int)=0 from rfl] at hz;simp only;rw [hz];simp only [Option.bind_some];cases hq:pTx 5 g with
   | none =>
    rw [hq] at hm;obtain⟨e,rfl⟩:=hm;rfl
   | some w =>
    obtain⟨ts,r⟩:=w;obtain⟨l,m,k,f⟩:=aRs 5 hp hq;rw [hq] at hm;simp only at hm;subst hm
    match ts,k,f with
    | [t0,t1,t2,t3,t4],_,f =>
     have hc:=aNv s (c,g,i,d) t0 t1 t2 t3 t4 (by have:=f t0 (by simp); omega) (by have:=f t1 (by simp); omega) (by have:=f t2 (by simp); omega) (by have:=f t3 (by simp); omega) (by have:=f t4 (by simp); omega);cases r with
     | nil=>exact hc
     | cons x r =>
      show nU s (c,g,i,d) [stb t0,stb t1,stb t2,stb t3,stb t4] ((((x::r).length:Nat):Int)==0)=_;rw [show ((((x::r).length:Nat):Int)==0)=false by simp; omega];rfl
  ·rw [if_neg (show ¬ ((c==101)=true) by simp [h0]),if_pos (show c≠101 by simp [h0])];rfl
 ·rw [if_pos (show (d != 0)=true by simp [h]),if_pos (show d≠0 by simp [h])]
def Up (l:List (List UInt8)):Prop:=l.Pairwise λa b=>Op.bytesLess a b=true
theorem Up.get {l:List (List UInt8)} (h:Up l) {i j:Nat} {a b:List UInt8} (c:l[i]?=some a) (hb:l[j]?=some b) (d:i<j):Op.bytesLess a b=true:=by obtain⟨hi,rfl⟩:=List.getElem?_eq_some_iff.1 c;obtain⟨e,rfl⟩:=List.getElem?_eq_some_iff.1 hb;exact List.pairwise_iff_getElem.1 h i j hi e d
theorem Up.nodup {l:List (List UInt8)} (h:Up l) {i j:Nat} {a:List UInt8} (c:l[i]?=some a) (hb:l[j]?=some a):i=j:=by
 rcases Nat.lt_trichotomy i j with b | b | b
 ·have:=h.get c hb b; rw [yW] at this; cases this
 ·exact b
 ·have:=h.get hb c b; rw [yW] at this; cases this
theorem Up.ext:∀ {l m:List (List UInt8)},Up l->Up m->(∀ x,x∈l↔x∈m)->l=m
 | [],[],_,_,_=>rfl
 | [],b::m,_,_,h=>absurd ((h b).2 List.mem_cons_self) (by simp)
 | a::l,[],_,_,h=>absurd ((h a).1 List.mem_cons_self) (by simp)
 | a::l,b::m,hl,hm,h=>by
  have d:=List.pairwise_cons.1 hl;have f:=List.pairwise_cons.1 hm;have i:a=b:=by
   rcases List.mem_cons.1 ((h a).1 List.mem_cons_self) with e | c
   ·exact e
   ·rcases List.mem_cons.1 ((h b).2 List.mem_cons_self) with e | j
    ·exact e.symm
    ·have k:=f.1 a c;have g:=d.1 b j;rw [aGm k] at g; cases g
  subst i;rw [Up.ext d.2 f.2 λx=>⟨λhx=>by
   rcases List.mem_cons.1 ((h x).1 (List.mem_cons_of_mem _ hx)) with e | c
   ·have:=d.1 x hx; rw [e,yW] at this; cases this
   ·exact c,λhx=>by
   rcases List.mem_cons.1 ((h x).2 (List.mem_cons_of_mem _ hx)) with e | c
   ·have:=f.1 x hx; rw [e,yW] at this; cases this
   ·exact c⟩]
theorem bC7 (x y:List UInt8):decide (x<=y) = !Op.bytesLess y x:=by
 rw [bytesLess_eq];by_cases h:y<x
 ·rw [decide_eq_true h,decide_eq_false (λa=>absurd h (List.not_lt.2 a))]; rfl
 ·rw [decide_eq_false h,decide_eq_true (List.not_lt.1 h)]; rfl
def uq (l:List (List UInt8)):List (List UInt8):=Lib.compact (l.mergeSort λx y=>decide (x<=y))
theorem aJa (l:List (List UInt8)):(l.mergeSort λx y=>decide (x<=y)).Pairwise λa b=>Op.bytesLess b a=false:=by
 have h:=List.pairwise_mergeSort (le:=λx y:List UInt8=>decide (x<=y)) (λa b c d e=>by
  simp only [decide_eq_true_eq] at d e ⊢; exact List.le_trans d e) (λa b=>by
  simp only [Bool.or_eq_true,decide_eq_true_eq]; exact List.le_total a b) l
 exact h.imp λ{a b} hab=>by rw [bC7] at hab;simpa using hab
theorem aD0 (s:List (List UInt8)) (hs:s.Pairwise λa b=>Op.bytesLess b a=false):∀ m,m<=s.length->Up (Lib.compactUpTo s.toArray m)/\∀ x,x∈Lib.compactUpTo s.toArray m↔x∈s.take m
 | 0,_=>by have e:Lib.compactUpTo s.toArray 0=[]:=rfl;rw [e]; exact⟨List.Pairwise.nil,λx=>by simp⟩
 | m+1,hm=>by
  obtain⟨f,c⟩:=aD0 s hs m (by omega);have hg:s[m]?=some (s[m]'(by omega)):=List.getElem?_eq_getElem (by omega);have hd:s.toArray[m]! = s[m]'(by omega):=by rw [getElem!_pos _ m (by simp; omega)]; rfl
  have ht:s.take (m+1)=s.take m++[s[m]'(by omega)]:=by rw [List.take_add_one,hg]; rfl
  rw [Lib.compactUpTo_succ,ht,hd];by_cases hk:Lib.keeps s.toArray m=true
  ·rw [if_pos hk];refine⟨List.pairwise_append.2 ⟨f,List.pairwise_singleton _ _,λa j b hb=>?_⟩,λx=>by rw [List.mem_append,List.mem_append,c x]⟩;rw [List.mem_singleton] at hb;subst hb;obtain⟨i,hi,rfl⟩:=List.mem_iff_getElem.1 ((c a).1 j);have p:i<m:=by simp at hi; omega
   have g:s.toArray[m]! ≠ s.toArray[m - 1]! := by
    unfold Lib.keeps at hk;simp only [decide_eq_true_eq] at hk;rcases hk with h0 | h0
    ·omega
    ·exact h0
   rw [hd,getElem!_pos _ (m - 1) (by simp; omega)] at g;have k:s[m]'(by omega)≠s[m - 1]'(by omega):=g;have l:Op.bytesLess (s[m]'(by omega)) (s[m - 1]'(by omega))=false:=List.pairwise_iff_getElem.1 hs (m - 1) m (by omega) (by omega) (by omega);have d:Op.bytesLess (s[m - 1]'(by omega)) (s[m]'(by omega))=true:=by
    cases hq:Op.bytesLess (s[m - 1]'(by omega)) (s[m]'(by omega)) with
    | true=>rfl
    | false=>exact absurd (aKf l hq) k
   simp only [List.getElem_take];rcases Nat.lt_or_ge i (m - 1) with h | h
   ·have n:Op.bytesLess (s[m - 1]'(by omega)) (s[i]'(by omega))=false:=List.pairwise_iff_getElem.1 hs i (m - 1) (by omega) (by omega) h;cases hq:Op.bytesLess (s[i]'(by omega)) (s[m - 1]'(by omega)) with
    | true=>exact aEz hq d
    | false=>rw [aKf hq n]; exact d
   ·have:i=m - 1:=by omega
    subst this; exact d
  ·rw [if_neg hk,List.append_nil];refine⟨f,λx=>?_⟩;have h0:0<m:=by
    rcases Nat.eq_zero_or_pos m with e | e
    ·subst e; exact absurd (Lib.keeps_lt_one s.toArray 0 (by omega)) hk
    ·exact e
   have he:s.toArray[m]! = s.toArray[m - 1]! := by
    rcases Decidable.em (s.toArray[m]! = s.toArray[m - 1]!) with e | e
    ·exact e
    ·exact absurd (Lib.keeps_pos e) hk
   rw [hd,getElem!_pos _ (m - 1) (by simp; omega)] at he;have o:s[m]'(by omega)=s[m - 1]'(by omega):=he;rw [c x,List.mem_append,List.mem_singleton,o];exact⟨.inl,λh=>h.elim id λe=>by
    rw [e];exact List.mem_iff_getElem.2 ⟨m - 1,by simp; omega,by simp⟩⟩
theorem aWv (l:List (List UInt8)):Up (uq l):=by have:=(aD0 _ (aJa l) _ (Nat.le_refl _)).1;exact this
theorem aBz (l:List (List UInt8)) (x:List UInt8):x∈uq l↔x∈l:=by have:=(aD0 _ (aJa l) _ (Nat.le_refl _)).2 x;rw [List.take_length,List.mem_mergeSort] at this;exact this
theorem aKy (l:List (List UInt8)):(uq l).length<=l.length:=by have h:=aFx (l.mergeSort λx y=>decide (x<=y));rw [List.length_mergeSort] at h;exact h
def ix:List (List UInt8)->List UInt8->Nat
 | [],_=>0
 | a::as_,s=>if a=s then 0 else ix as_ s+1
theorem aIb:∀ {l:List (List UInt8)} {s:List UInt8},s∈l->l[ix l s]?=some s
 | a::l,s,h=>by
  unfold ix;by_cases e:a=s
  ·rw [if_pos e,e]; rfl
  ·rw [if_neg e,List.getElem?_cons_succ];exact aIb ((List.mem_cons.1 h).resolve_left λq=>e q.symm)
theorem aVq (x y:List UInt8):pJ x y=some (Op.bytesLess x y):=by unfold pJ oR;simp
theorem aZv {U:List (List UInt8)} (a:Up U) (hlen:U.length<1099511627776) {s:List UInt8} {k:Nat} (hk:U[k]?=some s):dS U s=some ((k:Int),true):=by
 have r:=(List.getElem?_eq_some_iff.1 hk).1;unfold dS;obtain⟨y,c,hm⟩:=aCh (b:=λq:Int×Int=>bS U s q.1 q.2) (s:=(0,(U.length:Int)))
  (λq=>∃ i j:Nat,q=((i:Int),(j:Int))/\i<=k/\k<=j/\j<=U.length) (λq=>(q.2 - q.1).toNat) (λt=>t=(k:Int)) ⟨0,U.length,rfl,Nat.zero_le _,by omega,Nat.le_refl _⟩ (by
  rintro q ⟨i,j,rfl,d,f,g⟩;show (∃ s',bS U s (i:Int) (j:Int)=some (.inl s')/\_)\/∃ t,bS U s (i:Int) (j:Int)=some (.inr t)/\_;unfold bS;by_cases u:i<j
  ·have hx:=List.getElem?_eq_getElem (l:=U) (i:=(i+j) / 2) (by omega);have m:oT .u64 (((i+j:Nat)):Int) 1=(((i+j) / 2:Nat):Int):=mD (k:=.u64) (i+j) 1 (by decide);rw [if_pos (by simp only [decide_eq_true_eq]; omega)];simp only [lt_];rw [w64 (n:=(i:Int)+(j:Int)) (by omega) (by omega),oM (by omega) (by omega),show (i:Int)+(j:Int)=((i+j:Nat):Int) by omega,m,w64 (by omega) (by omega),bE rfl hx];simp only [Option.bind_some];rw [aVq];simp only [Option.bind_some];unfold dG;by_cases o:(i+j) / 2<k
   ·have hb:=a.get hx hk o;rw [if_pos hb,w64 (by omega) (by omega)];exact .inl ⟨_,rfl,⟨(i+j) / 2+1,j,rfl,by omega,f,g⟩,by simp only; omega⟩
   ·have hb:Op.bytesLess (U[(i+j) / 2]'(by omega)) s=false:=by
     rcases Nat.lt_or_ge k ((i+j) / 2) with h | h
     ·exact aGm (a.get hk hx h)
     ·have e:(i+j) / 2=k:=by omega
      have p:U[(i+j) / 2]'(by omega)=s:=by
       have:U[(i+j) / 2]?=some s:=by rw [e]; exact hk
       rw [hx] at this;exact Option.some.inj this
      rw [p,yW]
    rw [if_neg (by rw [hb]; simp)];exact .inl ⟨_,rfl,⟨i,(i+j) / 2,rfl,d,by omega,by omega⟩,by simp only; omega⟩
  ·rw [if_neg (by simp only [decide_eq_true_eq]; omega)];exact .inr ⟨_,rfl,by rw [show i=k by omega]⟩)
 rw [c,hm];simp only [Option.bind_some];unfold dU eH;rw [if_pos (by simp only [decide_eq_true_eq]; omega),bE rfl hk];simp
def qU (U:List (List UInt8)):List Int:=(U.map λs=>uv s.length++stb s).flatten
theorem aN1 (U:List (List UInt8)) (s:List UInt8):qU (U++[s])=qU U++(uv s.length++stb s):=by simp [qU]
theorem aCq:∀ (U:List (List UInt8)),(∀ s∈U,s.length<=32)->(qU U).length<=42 * U.length
 | [],_=>by simp [qU]
 | s::U,h=>by have a:=aCq U λx hx=>h x (List.mem_cons_of_mem _ hx);have b:=h s List.mem_cons_self;have c:=aM (n:=s.length) (by omega);have e:qU (s::U)=(uv s.length++stb s)++qU U:=rfl;rw [e];simp only [List.length_append,List.length_cons,xC];omega
def sC (U l:List (List UInt8)):List Int:=l.map λs=>((ix U s:Nat):Int)
def tE (l:List (List UInt8)):List Int:=uv (uq l).length++qU (uq l)++fX (sC (uq l) l)
theorem aOy (U l:List (List UInt8)) (s:List UInt8):sC U (l++[s])=sC U l++[((ix U s:Nat):Int)]:=by simp [sC]
theorem xV (U l:List (List UInt8)):(sC U l).length=l.length:=by simp [sC]
theorem aWt {U:List (List UInt8)} {s:List UInt8} (h:s∈U):ix U s<U.length:=(List.getElem?_eq_some_iff.1 (aIb h)).1
theorem aCu {U l:List (List UInt8)} (hs:∀ s∈l,s∈U) (a:U.length<=4096):I64 (sC U l):=λx hx=>by unfold sC at hx;obtain⟨s,hm,rfl⟩:=List.mem_map.1 hx;have:=aWt (hs s hm);unfold i64; omega
section
variable {l:List (List UInt8)} (hl:l.length<=4096) (h32:∀ s∈l,s.length<=32)
theorem aRq {m:List Int} (h:m.length<=4096) (hi:I64 m):(fX m).length<=1048576:=by obtain⟨w,hw,e⟩:=aIp m;rw [e]; exact aYo hw h hi
include hl h32
theorem aTc {U:List (List UInt8)} (a:Up U) (hs:∀ s∈l,s∈U) (c:U.length<=4096) {p:List Int} (hp:p.length<=1000000):pO l U p=some (p++fX (sC U l)):=by
 have h:=kC (b:=λs:List Int×Int=>jK l U s.1 s.2) (λk=>(sC U (l.take k),(k:Int))) (t:=sC U l) l.length (λk hk=>by
  have hx:=List.getElem?_eq_getElem hk;have hm:=hs _ (List.getElem_mem hk);show jK l U (sC U (l.take k)) (k:Int)=_;unfold jK;rw [if_pos (by simp only [decide_eq_true_eq]; omega),bE rfl hx];simp only [Option.bind_some];rw [aZv a (by omega) (aIb hm)];simp only [Option.bind_some];rw [bL (by rw [xV]; simp; omega),lt_,w64 (by omega) (by omega),List.take_add_one,hx];simp only [Option.toList_some];rw [aOy];rfl) (by
  show jK l U (sC U (l.take l.length)) (l.length:Int)=_;unfold jK;rw [if_neg (by simp),List.take_length])
 unfold pO;rw [show (([],0):List Int×Int)=(sC U (l.take 0),((0:Nat):Int)) from rfl,h];simp only [Option.bind_some];unfold qI sX;have hi:=aCu hs c;rw [aBu (by rw [xV]; omega) hi];simp only [Option.bind_some];have:=aRq (m:=sC U l) (by rw [xV]; omega) hi;rw [bL (by omega)]
theorem aQn:uX l=some (tE l):=by
 have e:=aKy l;have c:∀ s∈uq l,s.length<=32:=λs hs=>h32 s ((aBz l s).1 hs);unfold uX rA slices_Compact_string;rw [bL (by omega)];simp only [Option.bind_some];rw [show Lib.compact (l.mergeSort λx y=>decide (x<=y))=uq l from rfl,lt_,oM (by omega) (by omega),sN _ [] (by omega) (by have:=aM (n:=(uq l).length) (by omega); simp; omega)];simp only [Option.bind_some,List.nil_append];have hu:=aM (n:=(uq l).length) (by omega);obtain⟨a,d⟩:∃ a,a=uv (uq l).length:=⟨_,rfl⟩;rw [← d] at hu ⊢;have h:=kC (b:=λs:List Int×Int=>jJ (uq l) s.1 s.2) (λk=>(a++qU ((uq l).take k),(k:Int))) (t:=a++qU (uq l)) (uq l).length (λk hk=>by
  have hx:=List.getElem?_eq_getElem hk;have hs:=c _ (List.getElem_mem hk);have hf:=aCq ((uq l).take k) λs hs=>c s (List.mem_of_mem_take hs);have f:(qU ((uq l).take k)).length<=42 * k:=by simp at hf; omega
  show jJ (uq l) (a++qU ((uq l).take k)) (k:Int)=_;unfold jJ;rw [if_pos (by simp only [decide_eq_true_eq]; omega),bE rfl hx];simp only [Option.bind_some];rw [aEe _ _ (by omega) (by simp; omega)];simp only [Option.bind_some];rw [lt_,w64 (by omega) (by omega),List.take_add_one,hx];simp only [Option.toList_some];rw [aN1];simp) (by
  show jJ (uq l) (a++qU ((uq l).take (uq l).length)) ((uq l).length:Int)=_;unfold jJ;rw [if_neg (by simp),List.take_length])
 have e0:a++qU ((uq l).take 0)=a:=by simp [qU]
 rw [show ((a,0):List Int×Int)=(a++qU ((uq l).take 0),((0:Nat):Int)) by rw [e0]; rfl,h];simp only [Option.bind_some];unfold qN;have g:=aCq (uq l) c;rw [aTc hl h32 (aWv l) (λs hs=>(aBz l s).2 hs) (by omega) (by simp; omega)];unfold tE;rw [d]
end
section
variable {l:List (List UInt8)} (hl:l.length<=4096)
include hl
end
theorem aP8 {s:List UInt8} (h:s.length<=32) (r:List Int):pT 32 (uv s.length++(stb s++r))=some (s,r):=by unfold pT;rw [show IntKind.u64.wrap 32=32 from oM (by omega) (by omega),aH3 (by omega) _ (by omega)];simp only;rw [if_pos (by simp only [List.length_append,xC]; omega),Int.toNat_natCast,List.take_left' (xC s),List.drop_left' (xC s),aUr]
theorem aIn:∀ (D acc:List (List UInt8)) (r:List Int),Up (acc++D)->(∀ s∈D,s.length<=32)->aDm acc D.length (qU D++r)=some (acc++D,r)
 | [],acc,r,_,_=>by simp [aDm,qU]
 | s::D,acc,r,hU,h32=>by
  have e:qU (s::D)++r=uv s.length++(stb s++(qU D++r)):=by show (uv s.length++stb s)++qU D++r=_;simp
  rw [e];show (match pT 32 (uv s.length++(stb s++(qU D++r))) with
   | some (t,q)=>if aH4 acc t=true then aDm (acc++[t]) D.length q else none
   | none=>none)=_
  rw [aP8 (h32 s List.mem_cons_self)];have hr:aH4 acc s=true:=by
   unfold aH4;cases hx:acc[acc.length - 1]? with
   | none=>rfl
   | some y=>exact hU.get (i:=acc.length - 1) (j:=acc.length) (by rw [List.getElem?_append_left (by have:=(List.getElem?_eq_some_iff.1 hx).1; omega),hx]) (by rw [List.getElem?_append_right (Nat.le_refl _),Nat.sub_self]; rfl) (by have:=(List.getElem?_eq_some_iff.1 hx).1; omega)
  simp only [hr,if_true];rw [aIn D (acc++[s]) r (by simpa using hU) λx hx=>h32 x (List.mem_cons_of_mem _ hx)];simp
theorem aO1 {l:List (List UInt8)} (hl:l.length<=4096) (h32:∀ s∈l,s.length<=32):aJd (tE l)=some l:=by
 have f:=aKy l;have b:=aWv l;have c:∀ s∈uq l,s.length<=32:=λs hs=>h32 s ((aBz l s).1 hs);have hs:∀ s∈l,s∈uq l:=λs hs=>(aBz l s).2 hs;have hi:=aCu hs (by omega);have hr:=zY (l:=sC (uq l) l) (by rw [xV]; omega) hi;have hp:aF1 (fX (sC (uq l) l))=some (sC (uq l) l,[]):=by
  unfold vB at hr;split at hr
  ·rename_i m he; cases hr; exact he
  ·cases hr
 unfold aJd aIf tE;rw [List.append_assoc,aH3 (by omega) _ (by omega)];simp only [Int.toNat_natCast];rw [aIn (uq l) [] _ (by simpa using b) c];simp only [List.nil_append,hp];rw [if_pos]
 ·simp only [Option.some.injEq];unfold tx sC;rw [List.map_map];have key:∀ (m:List (List UInt8)),(∀ s∈m,s∈uq l)->m.map ((λi:Int=>(uq l).getD i.toNat []) ∘ λs=>((ix (uq l) s:Nat):Int))=m:=by
   intro m hm
   induction m with
   | nil=>rfl
   | cons s m ih =>
    rw [List.map_cons,ih λx hx=>hm x (List.mem_cons_of_mem _ hx)];congr 1;show (uq l).getD ((ix (uq l) s:Nat):Int).toNat []=s;rw [Int.toNat_natCast,List.getD_eq_getElem?_getD,aIb (hm s List.mem_cons_self)];rfl
  exact key l hs
 ·refine⟨?_,?_⟩
  ·unfold okI;rw [List.all_eq_true];intro x hx;unfold sC at hx;obtain⟨s,hm,rfl⟩:=List.mem_map.1 hx;have:=aWt (hs s hm);simp only [decide_eq_true_eq]; omega
  ·unfold usd;intro hf;obtain⟨j,d,e⟩:=List.mem_map.1 hf;have a:j<(uq l).length:=List.mem_range.1 d;refine absurd ?_ (of_decide_eq_false e);unfold sC;have hm:(uq l)[j]'a∈l:=(aBz l _).1 (List.getElem_mem a);have hg:=aIb (hs _ hm);have:=b.nodup hg (List.getElem?_eq_getElem a);exact List.mem_map.2 ⟨_,hm,by rw [this]⟩
theorem aCf {m:List Int} (hi:I64 m):Bs (fX m):=by obtain⟨w,hw,e⟩:=aIp m;rw [e]; exact bB8 hw hi
theorem aNj:∀ U:List (List UInt8),Bs (qU U)
 | []=>Bs.nil
 | s::U=>((Bs.uv _).app (Bs.stb s)).app (aNj U)
theorem aQq {l:List (List UInt8)} (hl:l.length<=4096):Bs (tE l) :=
 ((Bs.uv _).app (aNj _)).app (aCf (aCu (λs hs=>(aBz l s).2 hs) (by have:=aKy l; omega)))
def iW (s:Nat):List Int:=[((s % 256:Nat):Int),((s / 256 % 256:Nat):Int),((s / 65536 % 256:Nat):Int),((s / 16777216 % 256:Nat):Int)]
theorem zZ (s:Nat):Bs (iW s):=λx hx=>by simp [iW] at hx; omega
theorem jD (s:Nat):(iW s).length=4:=rfl
theorem aE8 {s:Nat} (h:s<4294967296) (r:List Int):uA (iW s++r)=s:=by show uA (((s % 256:Nat):Int)::((s / 256 % 256:Nat):Int)::((s / 65536 % 256:Nat):Int)::((s / 16777216 % 256:Nat):Int)::r)=s;rw [aCw]; omega
def tM (kind:Int) (b:List Int):List Int:=iW b.length++[kind]++b
def fB (kind:Int) (b:List Int):List Int:=tM kind b++iW (crc (tM kind b))
theorem aC0 (kind:Int) (b:List Int):(tM kind b).length=5+b.length:=by simp [tM,jD]; omega
theorem jC (kind:Int) (b:List Int):(fB kind b).length=9+b.length:=by simp [fB,aC0,jD]; omega
theorem aIh {kind:Int} {b:List Int} (hk:0<=kind/\kind<256) (hB:Bs b):Bs (tM kind b):=((zZ _).app (Bs.mk hk Bs.nil)).app hB
theorem aAo {kind:Int} {b:List Int} (hk:0<=kind/\kind<256) (hB:Bs b):Bs (fB kind b):=(aIh hk hB).app (zZ _)
theorem aEr {s:Nat} (hs:s<4294967296):xT (s:Int)=some (iW s):=by
 unfold xT iW;simp only [lt_];rw [show (8:Int)=((8:Nat):Int) from rfl,show (16:Int)=((16:Nat):Int) from rfl,show (24:Int)=((24:Nat):Int) from rfl,
  mD _ _ (by decide),mD _ _ (by decide),mD _ _ (by decide),uE,uE,uE,uE]
theorem zL {p b:List Int} {kind:Int} (hk:0<=kind/\kind<256) (hB:Bs b) (hb:b.length<4294967000) (hp:p.length<1099511627776):wH p kind b=some (p++fB kind b):=by unfold wH;rw [lt_,wA,Nat.mod_eq_of_lt (by omega),aEr (by omega)];simp only [Option.bind_some];rw [show iW b.length++[kind]++b=tM kind b from rfl];have hl:=aC0 kind b;have a:=jD (crc (tM kind b));rw [bL (by simp [jD]),bL (by simp [jD]; omega),bL (by omega),aGc (aIh hk hB) (by omega)];simp only [Option.bind_some];rw [aEr (aLq _)];simp only [Option.bind_some];rw [bL (by simp only [List.length_append]; omega),List.append_assoc];rfl
theorem vN {p b q:List Int} {kind:Int} (hb:b.length<=1048576):sB (p++fB kind b++q) (p.length:Int)=(kind,b,((p.length+(fB kind b).length:Nat):Int),0):=by
 have a:(p++fB kind b++q).drop p.length=fB kind b++q:=by rw [List.append_assoc,List.drop_left]
 have hl:=aC0 kind b;have c:=jC kind b;have hn:uA (fB kind b++q)=b.length:=by show uA (iW b.length++[kind]++b++iW (crc (tM kind b))++q)=_;rw [List.append_assoc,List.append_assoc,List.append_assoc,aE8 (by omega)]
 have ht:(fB kind b++q).take (5+b.length)=tM kind b:=by show (tM kind b++iW (crc (tM kind b))++q).take (5+b.length)=_;rw [List.append_assoc,List.take_left' hl]
 have hd:(fB kind b++q).drop (5+b.length)=iW (crc (tM kind b))++q:=by show (tM kind b++iW (crc (tM kind b))++q).drop (5+b.length)=_;rw [List.append_assoc,List.drop_left' hl]
 unfold sB;rw [if_neg (by simp only [List.length_append]; omega),Int.toNat_natCast,a,hn,ht,hd,aE8 (aLq _),if_neg (by simp only [List.length_append]; omega),if_neg (by simp only [List.length_append]; omega),if_pos rfl];refine Prod.ext ?_ (Prod.ext ?_ (Prod.ext ?_ rfl))
 ·rfl
 ·show (tM kind b).drop 5=b;rfl
 ·show (p.length:Int)+(b.length:Int)+9=((p.length+(fB kind b).length:Nat):Int);rw [c]; omega
def nW (l:List S61):List Int:=l.map λe=>IntKind.i64.wrap e.f0
def jN (l:List S61):List Int:=l.map λe=>e.f1
def jM (l:List S61):List Int:=l.map λe=>e.f2
def nG (l:List S61):List (List UInt8):=l.map λe=>e.f3
def mP (l:List S61):List Nat:=l.map λe=>e.f4
def sJ (c:List Int):List Int:=uv c.length++c
def vA (l:List S61):List Int:=sJ (fX (nW l))++(sJ (fX (jN l))++(sJ (fX (jM l))++(sJ (tE (nG l))++sJ (fX (rl (mP l))))))
def aRk (l:List S61):Prop:=∀ e∈l,(0<=e.f0/\e.f0<18446744073709551616)/\i64 e.f1/\i64 e.f2/\e.f3.length<=32/\e.f4<18446744073709551616
section
variable {l:List S61} (hl:l.length<=4096) (hL:aRk l)
theorem aE1:I64 (nW l):=λx hx=>by obtain⟨e,_,rfl⟩:=List.mem_map.1 hx;exact aBw _
include hL
theorem aCl:I64 (jN l):=λx hx=>by obtain⟨e,he,rfl⟩:=List.mem_map.1 hx;exact (hL e he).2.1
theorem aCy:I64 (jM l):=λx hx=>by obtain⟨e,he,rfl⟩:=List.mem_map.1 hx;exact (hL e he).2.2.1
theorem aK2:∀ s∈nG l,s.length<=32:=λs hs=>by obtain⟨e,he,rfl⟩:=List.mem_map.1 hs;exact (hL e he).2.2.2.1
theorem aWl:∀ x∈mP l,x<18446744073709551616:=λx hx=>by obtain⟨e,he,rfl⟩:=List.mem_map.1 hx;exact (hL e he).2.2.2.2
omit hL
theorem wN {m:List Int} (hm:m.length<=4096) (hi:I64 m):(fX m).length<=11+10 * m.length:=by
 have a:=aUi m (w:=0) (by decide);have b:=aLr hi;have c:=aM (n:=m.length) (by omega);have e:(asL 0 m).length=1+(uv m.length).length+(b0 m).length:=by show ((0:Int)::(uv m.length++b0 m)).length=_;simp; omega
 omega
theorem aLb {m:List (List UInt8)} (hm:m.length<=4096) (h32:∀ s∈m,s.length<=32):(tE m).length<=21+52 * m.length:=by have b:=aKy m;have c:=aCq (uq m) λs hs=>h32 s ((aBz m s).1 hs);have d:=aM (n:=(uq m).length) (by omega);have a:=wN (m:=sC (uq m) m) (by rw [xV]; omega) (aCu (λs hs=>(aBz m s).2 hs) (by omega));rw [xV] at a;unfold tE;simp only [List.length_append];omega
theorem aAn {c:List Int} (h:c.length<18446744073709551616):(sJ c).length<=10+c.length:=by have:=aM h;unfold sJ; simp; omega
theorem vX {c:List Int} (h:Bs c):Bs (sJ c):=(Bs.uv _).app h
include hl hL
theorem aG9:(fX (nW l)).length<=11+10 * l.length/\(fX (jN l)).length<=11+10 * l.length/\(fX (jM l)).length<=11+10 * l.length/\(tE (nG l)).length<=21+52 * l.length/\(fX (rl (mP l))).length<=11+10 * l.length:=by
 have e0:(nW l).length=l.length:=by simp [nW]
 have e:(jN l).length=l.length:=by simp [jN]
 have f:(jM l).length=l.length:=by simp [jM]
 have g:(nG l).length=l.length:=by simp [nG]
 have h:(rl (mP l)).length=l.length:=by rw [aCi]; simp [mP]
 have h0:=wN (m:=nW l) (by omega) aE1;have a:=wN (m:=jN l) (by omega) (aCl hL);have b:=wN (m:=jM l) (by omega) (aCy hL);have c:=aLb (m:=nG l) (by omega) (aK2 hL);have d:=wN (m:=rl (mP l)) (by omega) (aLa _);rw [e0] at h0; rw [e] at a; rw [f] at b; rw [g] at c; rw [h] at d;exact⟨h0,a,b,c,d⟩
theorem aGu:Bs (fX (nW l))/\Bs (fX (jN l))/\Bs (fX (jM l))/\Bs (tE (nG l))/\Bs (fX (rl (mP l))) :=
 ⟨aCf aE1,aCf (aCl hL),aCf (aCy hL),aQq (by simp [nG]; omega),aCf (aLa _)⟩
theorem aC9:(vA l).length<=115+92 * l.length:=by obtain⟨h0,a,b,d,e⟩:=aG9 hl hL;have f:=aAn (c:=fX (nW l)) (by omega);have g:=aAn (c:=fX (jN l)) (by omega);have h:=aAn (c:=fX (jM l)) (by omega);have i:=aAn (c:=tE (nG l)) (by omega);have j:=aAn (c:=fX (rl (mP l))) (by omega);unfold vA;simp only [List.length_append];omega
theorem aM6:Bs (vA l):=by obtain⟨h0,a,b,c,d⟩:=aGu hl hL;exact (vX h0).app ((vX a).app ((vX b).app ((vX c).app (vX d))))
theorem aHu {c:List Int} (hB:Bs c) (h:c.length<=1048576) (r:List Int):pT 1048576 (sJ c++r)=some (bts c,r):=by unfold pT sJ;rw [show IntKind.u64.wrap 1048576=1048576 from oM (by omega) (by omega),List.append_assoc,aH3 (by omega) _ (by omega)];simp only;rw [if_pos (by simp only [List.length_append]; omega),Int.toNat_natCast,List.take_left' rfl,List.drop_left' rfl]
theorem aT4:pTx 5 (vA l)=some ([bts (fX (nW l)),bts (fX (jN l)),bts (fX (jM l)),bts (tE (nG l)),bts (fX (rl (mP l)))],[]):=by obtain⟨h0,d,e,f,g⟩:=aG9 hl hL;obtain⟨b0,b1,b2,b,c⟩:=aGu hl hL;unfold vA;have a:=aHu hl hL c (by omega) [];rw [List.append_nil] at a;simp only [pTx,aHu hl hL b0 (by omega),aHu hl hL b1 (by omega),aHu hl hL b2 (by omega),aHu hl hL b (by omega),a]
end
def dI (e:S61):S61:=⟨e.f0,e.f1,e.f2,e.f3,lT e.f4⟩
theorem aJx (s:Int):∀ (l:List S61),(∀ e∈l,0<=e.f0/\e.f0<18446744073709551616) ->
  aDn s (nW l) (jN l) (jM l) (nG l) ((mP l).map lT)=if l.all (λe=>pM e s)=true then some (l.map dI) else none
 | [],_=>rfl
 | e::l,h=>by
  have ih:=aJx s l λx hx=>h x (List.mem_cons_of_mem _ hx);have h0:=h e List.mem_cons_self;have hw:IntKind.u64.wrap (IntKind.i64.wrap e.f0)=e.f0:=by rw [IntKind.wrap_u64,IntWalk.i64_left];unfold wrap64;omega
  show aDn s (IntKind.i64.wrap e.f0::nW l) (e.f1::jN l) (e.f2::jM l) (e.f3::nG l) (lT e.f4::(mP l).map lT)=_;unfold aDn;rw [hw,ih,show (⟨e.f0,e.f1,e.f2,e.f3,lT e.f4⟩:S61)=dI e from rfl,show pM (dI e) s=pM e s from rfl,List.all_cons];cases pM e s with
  | false=>rfl
  | true =>
   rw [if_pos rfl,Bool.true_and];cases l.all λe=>pM e s <;> rfl
theorem aUl {l:List S61} (hl:l.length<=4096) (hL:aRk l) (s:Int) :
  evL s (bts (fX (nW l))) (bts (fX (jN l))) (bts (fX (jM l))) (bts (tE (nG l))) (bts (fX (rl (mP l))))=if l.all (λe=>pM e s)=true then some (l.map dI) else none:=by
 obtain⟨b0,b1,b2,a,b⟩:=aGu hl hL;unfold evL;rw [aC4 b0,aC4 b1,aC4 b2,aC4 a,aC4 b,zY (by simp [nW]; omega) aE1,zY (by simp [jN]; omega) (aCl hL),zY (by simp [jM]; omega) (aCy hL),
  aO1 (by simp [nG]; omega) (aK2 hL),show aMm (fX (rl (mP l)))=some ((mP l).map lT) by
   unfold aMm;rw [zY (by rw [aCi]; simp [mP]; omega) (aLa _)];exact aOc (aWl hL)]
 simp only;rw [if_pos (by simp [nW,jN,jM,nG,mP]),aJx s l λe he=>(hL e he).1]
theorem aNf {l:List S61} (hl:l.length<=4096) (hL:aRk l) (s:Int) (p q:List Int) :
  evR (p++fB 101 (vA l)++q) (p.length:Int) s=if l.all (λe=>pM e s)=true then (l.map dI,((p.length+(fB 101 (vA l)).length:Nat):Int),0) else ([],0,3):=by
 have hb:=aC9 hl hL;unfold evR;rw [vN (by omega)];simp only;rw [if_neg (by simp),if_neg (by simp),aT4 hl hL];simp only;rw [aUl hl hL s];cases l.all λe=>pM e s <;> rfl
theorem aMe {l:List S61} (hl:l.length<=4096):∀ (m k:Nat),k+m=l.length ->
  loop (λs:List Int×List Int×List Int×List (List UInt8)×List Nat×Int=>nH l s.1 s.2.1 s.2.2.1 s.2.2.2.1 s.2.2.2.2.1 s.2.2.2.2.2) (nW (l.take k),jN (l.take k),jM (l.take k),nG (l.take k),mP (l.take k),(k:Int))=some (nW l,jN l,jM l,nG l,mP l)
 | 0,k,hk=>by rw [List.take_of_length_le (by omega)];refine bK ?_;show nH l (nW l) (jN l) (jM l) (nG l) (mP l) (k:Int)=_;unfold nH;rw [if_neg (by simp only [decide_eq_true_eq]; omega)]
 | m+1,k,hk=>by
  have hx:=List.getElem?_eq_getElem (l:=l) (i:=k) (by omega);have ht:l.take (k+1)=l.take k++[l[k]'(by omega)]:=by rw [List.take_add_one,hx]; rfl
  have ih:=aMe hl m (k+1) (by omega);rw [ht] at ih;have e0:(nW (l.take k)).length=k:=by simp [nW]; omega
  have a:(jN (l.take k)).length=k:=by simp [jN]; omega
  have b:(jM (l.take k)).length=k:=by simp [jM]; omega
  have c:(nG (l.take k)).length=k:=by simp [nG]; omega
  have d:(mP (l.take k)).length=k:=by simp [mP]; omega
  refine (cL ?_).trans ih;show nH l (nW (l.take k)) (jN (l.take k)) (jM (l.take k)) (nG (l.take k)) (mP (l.take k)) (k:Int)=_;unfold nH xR xP;rw [if_pos (by simp only [decide_eq_true_eq]; omega),bE rfl hx];simp only [Option.bind_some,lt_];rw [bL (by simp; omega),bL (by simp; omega),bL (by simp; omega),bL (by simp; omega),bL (by simp; omega),w64 (n:=(k:Int)+1) (by omega) (by omega)];simp only [nW,jN,jM,nG,mP,List.map_append,List.map_cons,List.map_nil];rfl
theorem aRv {c p:List Int} (hB:Bs c) (hc:c.length<=1048576) (hp:p.length<=100000000):nQ p (bts c)=some (p++sJ c):=by
 have a:(bts c).length=c.length:=by simp [bts]
 rw [aEe _ _ (by omega) (by omega),aC4 hB,a,List.append_assoc];rfl
theorem aLf {l:List S61} (hl:l.length<=4096) (hL:aRk l) {p:List Int} (hp:p.length<1099511627776):aAq p l=some (p++fB 101 (vA l)):=by
 obtain⟨h0,i,j,m,n⟩:=aG9 hl hL;obtain⟨b0,b1,b2,a,b⟩:=aGu hl hL;have hb:=aC9 hl hL;unfold aAq;have hc:=aMe hl l.length 0 (by omega);rw [show ((0:Nat):Int)=0 from rfl] at hc;rw [show (([],[],[],[],[],0):List Int×List Int×List Int×List (List UInt8)×List Nat×Int)=(nW (l.take 0),jN (l.take 0),jM (l.take 0),nG (l.take 0),mP (l.take 0),0) from rfl,hc];simp only [Option.bind_some];unfold uT xJ;rw [aBu (by simp [nW]; omega) aE1];simp only [Option.bind_some];rw [aBu (by simp [jN]; omega) (aCl hL)];simp only [Option.bind_some];rw [aBu (by simp [jM]; omega) (aCy hL)];simp only [Option.bind_some];rw [aQn (by simp [nG]; omega) (aK2 hL)];simp only [Option.bind_some];rw [aRa (by simp [mP]; omega)];simp only [Option.bind_some];have eb:vA l=sJ (fX (nW l))++(sJ (fX (jN l))++(sJ (fX (jM l))++(sJ (tE (nG l))++sJ (fX (rl (mP l)))))):=rfl;rw [eb];clear eb hc hb;generalize fX (nW l)=c0 at *;generalize fX (jN l)=c1 at *;generalize fX (jM l)=c2 at *;generalize tE (nG l)=c3 at *;generalize fX (rl (mP l))=c4 at *;have st:∀ (k:Nat) (c acc:List Int),([c0,c1,c2,c3,c4]:List (List Int))[k]?=some c->Bs c->c.length<=1048576->acc.length<=100000000->nI c0 c1 c2 c3 c4 acc (k:Int)=some (.inl (acc++sJ c,((k+1:Nat):Int))):=by
  intro k c acc hg hB d e;have o:k<5:=by have:=(List.getElem?_eq_some_iff.1 hg).1; simpa using this
  unfold nI;rw [if_pos (by simp only [decide_eq_true_eq,List.length_cons,List.length_nil]; omega),bE rfl hg];simp only [Option.bind_some];rw [aRv hB d e];simp only [Option.bind_some];rw [lt_,w64 (by omega) (by omega)];rfl
 have ol:∀ c:List Int,c.length<=1048576->(sJ c).length<=1048586:=λc h=>by have:=aAn (c:=c) (by omega); omega
 have q:=ol c0 (by omega); have r:=ol c1 (by omega); have t:=ol c2 (by omega); have u:=ol c3 (by omega);have f:loop (λs:List Int×Int=>nI c0 c1 c2 c3 c4 s.1 s.2) ([],0)=some (((([]++sJ c0)++sJ c1)++sJ c2)++sJ c3++sJ c4):=by refine (cL (st 0 c0 [] rfl b0 (by omega) (by simp))).trans ?_;refine (cL (st 1 c1 _ rfl b1 (by omega) (by simp; omega))).trans ?_;refine (cL (st 2 c2 _ rfl b2 (by omega) (by simp; omega))).trans ?_;refine (cL (st 3 c3 _ rfl a (by omega) (by simp; omega))).trans ?_;refine (cL (st 4 c4 _ rfl b (by omega) (by simp; omega))).trans ?_;refine bK ?_;show nI c0 c1 c2 c3 c4 _ ((4+1:Nat):Int)=_;unfold nI;rw [if_neg (by simp)]
 rw [f];simp only [Option.bind_some];unfold uC xF;have g:((([]++sJ c0)++sJ c1)++sJ c2)++sJ c3++sJ c4=sJ c0++(sJ c1++(sJ c2++(sJ c3++sJ c4))):=by simp
 rw [g];have v:=ol c4 (by omega);rw [zL (by decide) ((vX b0).app ((vX b1).app ((vX b2).app ((vX a).app (vX b))))) (by simp only [List.length_append]; omega) hp];rfl
theorem aT1 (x:S61) (k:Int):aE6 x k=some (pM x k):=aLd x k
end Go.Proofs.YtdkpjpoajlmmfaaGreatDoor.P
