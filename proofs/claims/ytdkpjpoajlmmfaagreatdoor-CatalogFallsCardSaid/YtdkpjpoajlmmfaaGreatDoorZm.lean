/- Texts of the claim, joined: what it uses of Rd, Re, Rf, Rj, Rh, Rk, Rp, Rm, Rn, Ro, Rq, Sa, Sb, Sc, Sd, Se, Sf, Sg, Sh, Si, Sj, Sk, Sl, Sm, Sn, So. -/
import Derived.Test.YtdkpjpoajlmmfaaGreatDoorZl
import Derived.Sort.Walk0
import Derived.Lib.SlicesCompact
namespace Go.Proofs.YtdkpjpoajlmmfaaGreatDoor.P
open Go Go.RowKit Go.Proofs.YtdkpjpoajlmmfaaGreatDoor.E Go.Proofs.YtdkpjpoajlmmfaaGreatDoor.M
set_option linter.unusedVariables false
set_option linter.unusedSectionVars false
def okc (c:UInt8):Bool:=decide (c.toNat=46)||(decide (48<=c.toNat)&&decide (c.toNat<=57))||(decide (97<=c.toNat)&&decide (c.toNat<=122))
def tY (n:List UInt8):Bool:=n.all okc&&decide (1<=n.length)&&decide (n.length<=32)
theorem aQd (a:List UInt8) (i:Nat) {c:UInt8} (hc:a[i]?=some c):gQ a (i:Int)=iW (i:Int) (!okc c):=by
 have hi:=(List.getElem?_eq_some_iff.1 hc).1;unfold gQ okc;rw [if_pos (by simp only [decide_eq_true_eq];omega),bA rfl hc];simp only [bHp,bne_iff_ne,ne_eq,decide_eq_true_eq];by_cases b:c.toNat=46
 ·rw [if_neg (by omega),decide_eq_true b];rfl
 rw [if_pos (by omega),decide_eq_false b];by_cases e:c.toNat<48
 ·rw [if_pos (by omega),if_pos (by omega),decide_eq_false (show ¬ 48<=c.toNat by omega),decide_eq_false (show ¬ 97<=c.toNat by omega)];rfl
 rw [if_neg (by omega),decide_eq_true (show 48<=c.toNat by omega)];by_cases f:57<c.toNat
 ·rw [if_pos (by omega),decide_eq_false (show ¬ c.toNat<=57 by omega)];by_cases g:c.toNat<97
  ·rw [if_pos (by omega),decide_eq_false (show ¬ 97<=c.toNat by omega)];rfl
  ·rw [if_neg (by omega),decide_eq_true (show 97<=c.toNat by omega)];by_cases d:c.toNat<=122
   ·rw [decide_eq_true d,decide_eq_false (by omega)];rfl
   ·rw [decide_eq_false d,decide_eq_true (by omega)];rfl
 ·rw [if_neg (by omega),decide_eq_true (show c.toNat<=57 by omega)];rfl
theorem aKv (a:List UInt8) (c:a.length<4611686018427387904):∀ (m i:Nat),i+m=a.length->loop (λs=>gQ a s) (i:Int)=some (if (a.drop i).all okc=true then .inl () else .inr false)
 | 0,i,hi=>by refine bE ?_;show gQ a (i:Int)=_;unfold gQ;rw [if_neg (by simp only [decide_eq_true_eq];omega),List.drop_of_length_le (by omega)];rfl
 | m+1,i,hi=>by
  have hx:=List.getElem?_eq_getElem (l:=a) (i:=i) (by omega);have hr:=aQd a i hx;have hd:a.drop i=a[i]::a.drop (i+1):=List.drop_eq_getElem_cons (by omega);cases hc:okc a[i] with
  | true =>
   rw [hc] at hr;have:gQ a (i:Int)=some (.inl ((i+1:Nat):Int)):=by rw [hr];unfold iW;rw [if_neg (by simp),lt_,w64 (by omega) (by omega)];rfl
   rw [bZ (b:=λs=>gQ a s) this,aKv a c m (i+1) (by omega),hd,List.all_cons,hc,Bool.true_and]
  | false =>
   rw [hc] at hr;have:gQ a (i:Int)=some (.inr (.inr false)):=by rw [hr];rfl
   rw [bE (b:=λs=>gQ a s) this,hd,List.all_cons,hc,Bool.false_and];rfl
theorem aQ7 (a:List UInt8) (b:a.length<4611686018427387904):sB a=some (tY a):=by
 unfold sB;have h:=aKv a b a.length 0 (by omega);rw [show ((0:Nat):Int)=0 from rfl,List.drop_zero] at h;rw [h];unfold tY;cases a.all okc with
 | true =>
  show tX a=_;unfold tX;cases a with
  | nil=>rfl
  | cons c a =>
   rw [if_pos (show (!(c::a==[]))=true from rfl)];simp only [List.length_cons,Bool.true_and,decide_eq_true (show 1<=a.length+1 by omega)];congr 1;exact decide_eq_decide.2 (by omega)
 | false=>rfl
theorem aBu {P D:List S98} {x:S98} (h:lA (P++x::D)):(∀ y∈P,Op.bytesLess y.f0 x.f0=true)/\(∀ y∈D,Op.bytesLess x.f0 y.f0=true):=by obtain⟨d,a,b⟩:=List.pairwise_append.1 h;exact⟨λy c=>b y c x (List.mem_cons_self ..),(List.pairwise_cons.1 a).1⟩
theorem aFu {a b:List UInt8} (h:Op.bytesLess a b=true):a≠b:=λe=>by subst e;rw [zR] at h;cases h
theorem aH3 {a b:List UInt8} (h:Op.bytesLess a b=true):Op.bytesLess b a=false:=by
 cases hb:Op.bytesLess b a with
 | false=>rfl
 | true=>have:=aFv h hb;rw [zR] at this;cases this
theorem aVv {P D:List S98} {n:List UInt8} (a:∀ y∈P,Op.bytesLess y.f0 n=true) (b:∀ y,D.head?=some y->Op.bytesLess y.f0 n=false):pos (P++D) n=P.length:=by
 unfold pos;rw [List.takeWhile_append_of_pos a,List.length_append];cases D with
 | nil=>rfl
 | cons y D=>rw [List.takeWhile_cons,b y rfl];rfl
theorem aCe {P D:List S98} {x:S98} {n:List UInt8} (hn:x.f0=n) (h:lA (P++x::D)):pos (P++x::D) n=P.length:=by subst hn;exact aVv (aBu h).1 λy a=>by cases a;exact zR _
theorem aD4 {P D:List S98} {x:S98} {n:List UInt8} (hn:x.f0=n) (h:lA (P++x::D)):has (P++x::D) n=true:=by unfold has;rw [aCe hn h,List.getElem?_append_right (Nat.le_refl _),Nat.sub_self];simp [hn]
theorem aM2 {P D:List S98} {n:List UInt8} (a:∀ y∈P,Op.bytesLess y.f0 n=true) (b:∀ y∈D,Op.bytesLess n y.f0=true):pos (P++D) n=P.length :=
 aVv a λy c=>aH3 (b y (List.mem_of_mem_head? c))
theorem aD3 {P D:List S98} {n:List UInt8} (b:∀ y∈P,Op.bytesLess y.f0 n=true) (a:∀ y∈D,Op.bytesLess n y.f0=true):has (P++D) n=false:=by
 unfold has;rw [aM2 b a,List.getElem?_append_right (Nat.le_refl _),Nat.sub_self];cases D with
 | nil=>rfl
 | cons y D =>
  show (y.f0==n)=false;rw [beq_eq_false_iff_ne];exact λe=>aFu (a y (List.mem_cons_self ..)) e.symm
theorem aCn {l:List S98} (h:lA l) (n:List UInt8) :
  (∃ P x D,l=P++x::D/\x.f0=n)\/∃ P D,l=P++D/\(∀ y∈P,Op.bytesLess y.f0 n=true)/\∀ y∈D,Op.bytesLess n y.f0=true:=by
 have hp:=aVw l n;have b:l=l.take (pos l n)++l.drop (pos l n):=(List.take_append_drop _ _).symm;have d:∀ y∈l.take (pos l n),Op.bytesLess y.f0 n=true:=by
  intro y a;obtain⟨j,c⟩:=List.getElem?_of_mem a;rw [List.getElem?_take] at c;split at c
  ·exact (aGd h n c).2 (by assumption)
  ·cases c
 cases hd:l.drop (pos l n) with
 | nil=>rw [hd] at b;exact .inr ⟨_,[],b,d,λy a=>by cases a⟩
 | cons x D =>
  rw [hd] at b;have hx:l[pos l n]?=some x:=by
   have:(l.drop (pos l n))[0]?=some x:=by rw [hd];rfl
   rwa [List.getElem?_drop,Nat.add_zero] at this
  have g:Op.bytesLess x.f0 n=false:=by
   cases hb:Op.bytesLess x.f0 n with
   | false=>rfl
   | true=>have:=(aGd h n hx).1 hb;omega
  by_cases e:x.f0=n
  ·exact .inl ⟨_,x,D,b,e⟩
  ·refine .inr ⟨_,x::D,b,d,?_⟩;have f:Op.bytesLess n x.f0=true:=by
    cases hb:Op.bytesLess n x.f0 with
    | true=>rfl
    | false=>exact absurd (aL6 g hb) e
   intro y a;rcases List.mem_cons.1 a with rfl | a
   ·exact f
   ·have hr:=h;rw [b] at hr;exact aFv f ((aBu hr).2 y a)
theorem aLj {P D:List S98} {x y:S98} (hn:x.f0=y.f0) (h:lA (P++x::D)):lA (P++y::D):=by
 obtain⟨e,f,c⟩:=List.pairwise_append.1 h;obtain⟨g,i⟩:=List.pairwise_cons.1 f;refine List.pairwise_append.2 ⟨e,List.pairwise_cons.2 ⟨λz hz=>hn▸g z hz,i⟩,λa d b hb=>?_⟩;rcases List.mem_cons.1 hb with rfl | hb
 ·rw [← hn];exact c a d x (List.mem_cons_self ..)
 ·exact c a d b (List.mem_cons_of_mem _ hb)
theorem aO8 {P D:List S98} {y:S98} (h:lA (P++D)) (d:∀ z∈P,Op.bytesLess z.f0 y.f0=true) (e:∀ z∈D,Op.bytesLess y.f0 z.f0=true):lA (P++y::D):=by
 obtain⟨f,g,i⟩:=List.pairwise_append.1 h;refine List.pairwise_append.2 ⟨f,List.pairwise_cons.2 ⟨e,g⟩,λa c b hb=>?_⟩;rcases List.mem_cons.1 hb with rfl | hb
 ·exact d a c
 ·exact i a c b hb
theorem aTk {P D:List S98} {x:S98} (h:lA (P++x::D)):lA (P++D) :=
 h.sublist (List.Sublist.append_left (List.sublist_cons_self x D) P)
def used (l:List S98):Nat:=(l.map λx=>x.f1.length).sum
theorem vD (P D:List S98):used (P++D)=used P+used D:=by simp [used]
theorem vE (x:S98) (D:List S98):used (x::D)=x.f1.length+used D:=by simp [used]
theorem aWh {l:List S98} {x:S98} (h:x∈l):x.f1.length<=used l:=by
 induction l with
 | nil=>cases h
 | cons y l ih =>
  rw [vE];rcases List.mem_cons.1 h with rfl | h
  ·omega
  ·have:=ih h;omega
theorem aLt (s:S77) (hl:s.f0.length<4611686018427387904) (hu:used s.f0<4611686018427387904):∀ (m i:Nat),i+m=s.f0.length->loop (λq:Int×Int=>dR s q.1 q.2) ((used (s.f0.take i):Int),(i:Int))=some (used s.f0:Int)
 | 0,i,hi=>by refine bE ?_;show dR s _ (i:Int)=_;unfold dR;rw [if_neg (by simp only [decide_eq_true_eq];omega),List.take_of_length_le (by omega)]
 | m+1,i,hi=>by
  have hx:=List.getElem?_eq_getElem (l:=s.f0) (i:=i) (by omega);have ht:s.f0.take (i+1)=s.f0.take i++[s.f0[i]]:=by rw [List.take_add_one,hx];rfl
  have hle:used (s.f0.take (i+1))<=used s.f0:=by have:=vD (s.f0.take (i+1)) (s.f0.drop (i+1));rw [List.take_append_drop] at this;omega
  have hs:used (s.f0.take (i+1))=used (s.f0.take i)+(s.f0[i]).f1.length:=by rw [ht,vD,vE];rfl
  have:dR s (used (s.f0.take i):Int) (i:Int)=some (.inl ((used (s.f0.take (i+1)):Int),((i+1:Nat):Int))):=by unfold dR;rw [if_pos (by simp only [decide_eq_true_eq];omega),bA rfl hx];simp only [bHp,lt_];rw [w64 (by omega) (by omega),w64 (by omega) (by omega),hs];rfl
  rw [bZ (b:=λq:Int×Int=>dR s q.1 q.2) this];exact aLt s hl hu m (i+1) (by omega)
theorem aWw (s:S77) (hl:s.f0.length<4611686018427387904) (hu:used s.f0<4611686018427387904):pK (some s)=some (used s.f0:Int):=by show (loop (λq:Int×Int=>dR s q.1 q.2) (0,0)).bind _=_;have h:=aLt s hl hu s.f0.length 0 (by omega);rw [List.take_zero] at h;rw [show ((0:Int),(0:Int))=((used []:Int),((0:Nat):Int)) from rfl,h];rfl
theorem aJl (s:S77) (hl:s.f0.length<1099511627776):∀ (m i:Nat),i+m=s.f0.length->loop (λq:List (List UInt8)×Int=>dQ s q.1 q.2) ((s.f0.take i).map S98.f0,(i:Int))=some (s.f0.map S98.f0)
 | 0,i,hi=>by refine bE ?_;show dQ s _ (i:Int)=_;unfold dQ;rw [if_neg (by simp only [decide_eq_true_eq];omega),List.take_of_length_le (by omega)]
 | m+1,i,hi=>by
  have hx:=List.getElem?_eq_getElem (l:=s.f0) (i:=i) (by omega);have ht:s.f0.take (i+1)=s.f0.take i++[s.f0[i]]:=by rw [List.take_add_one,hx];rfl
  have:dQ s ((s.f0.take i).map S98.f0) (i:Int)=some (.inl ((s.f0.take (i+1)).map S98.f0,((i+1:Nat):Int))):=by unfold dQ;rw [if_pos (by simp only [decide_eq_true_eq];omega),bA rfl hx];simp only [bHp,lt_];rw [bH (by simp only [List.length_map,List.length_take,List.length_singleton];omega),w64 (by omega) (by omega),ht,List.map_append];rfl
  rw [bZ (b:=λq:List (List UInt8)×Int=>dQ s q.1 q.2) this];exact aJl s hl m (i+1) (by omega)
theorem aWu (s:S77) (hl:s.f0.length<1099511627776):mK (some s)=some (s.f0.map S98.f0):=by show (loop (λq:List (List UInt8)×Int=>dQ s q.1 q.2) ([],0)).bind _=_;have h:=aJl s hl s.f0.length 0 (by omega);rw [List.take_zero] at h;rw [show (([]:List (List UInt8)),(0:Int))=(([]:List S98).map S98.f0,((0:Nat):Int)) from rfl,h];rfl
def get (l:List S98) (n:List UInt8):Option S98:=l.find? λx=>x.f0==n
def put:List S98->S98->List S98
 | [],x=>[x]
 | y::l,x=>if Op.bytesLess y.f0 x.f0=true then y::put l x else if y.f0=x.f0 then x::l else x::y::l
def del (l:List S98) (n:List UInt8):List S98:=l.filter λx => !(x.f0==n)
theorem wE {P D:List S98} {x:S98} {n:List UInt8} (hn:x.f0=n) (h:lA (P++x::D)):get (P++x::D) n=some x:=by subst hn;unfold get;rw [List.find?_append,List.find?_eq_none.2 (λy a=>by simpa using aFu ((aBu h).1 y a))];simp
theorem zC {P D:List S98} {n:List UInt8} (a:∀ y∈P,Op.bytesLess y.f0 n=true) (b:∀ y∈D,Op.bytesLess n y.f0=true):get (P++D) n=none:=by
 unfold get;rw [List.find?_eq_none];intro y c;rcases List.mem_append.1 c with h | h
 ·simpa using aFu (a y h)
 ·simpa using λe=>aFu (b y h) e.symm
theorem aQo:∀ {P D:List S98} {x:S98},(∀ y∈P,Op.bytesLess y.f0 x.f0=true)->put (P++D) x=P++put D x
 | [],D,x,h=>rfl
 | y::P,D,x,h=>by show put (y::(P++D)) x=_;rw [put,if_pos (h y (List.mem_cons_self ..)),aQo λz hz=>h z (List.mem_cons_of_mem _ hz)];rfl
theorem aCf {P D:List S98} {x y:S98} (hn:x.f0=y.f0) (h:lA (P++x::D)):put (P++x::D) y=P++y::D:=by rw [aQo λz hz=>hn▸(aBu h).1 z hz,put,if_neg (by rw [hn,zR];simp),if_pos hn]
theorem aEg {P D:List S98} {y:S98} (a:∀ z∈P,Op.bytesLess z.f0 y.f0=true) (b:∀ z∈D,Op.bytesLess y.f0 z.f0=true):put (P++D) y=P++y::D:=by
 rw [aQo a];congr 1;cases D with
 | nil=>rfl
 | cons z D =>
  have:=b z (List.mem_cons_self ..);rw [put,if_neg (by rw [aH3 this];simp),if_neg λe=>aFu this e.symm]
theorem aH7 {P D:List S98} {x:S98} {n:List UInt8} (hn:x.f0=n) (h:lA (P++x::D)):del (P++x::D) n=P++D:=by
 subst hn;unfold del;rw [List.filter_append,List.filter_cons_of_neg (by simp),List.filter_eq_self.2,List.filter_eq_self.2]
 ·intro y a;simpa using λe:y.f0=x.f0=>aFu ((aBu h).2 y a) e.symm
 ·intro y a;simpa using aFu ((aBu h).1 y a)
theorem aRi {P D:List S98} {n:List UInt8} (a:∀ y∈P,Op.bytesLess y.f0 n=true) (b:∀ y∈D,Op.bytesLess n y.f0=true):del (P++D) n=P++D:=by
 unfold del;rw [List.filter_eq_self];intro y c;rcases List.mem_append.1 c with h | h
 ·simpa using aFu (a y h)
 ·simpa using λe:y.f0=n=>aFu (b y h) e.symm
theorem aIc {l:List S98} {x y:S98} (h:y∈put l x):y=x\/y∈l:=by
 induction l with
 | nil=>exact .inl (by simpa [put] using h)
 | cons z l ih =>
  unfold put at h;split at h
  ·rcases List.mem_cons.1 h with rfl | h
   ·exact .inr (List.mem_cons_self ..)
   ·rcases ih h with h | h
    ·exact .inl h
    ·exact .inr (List.mem_cons_of_mem _ h)
  ·split at h
   ·rcases List.mem_cons.1 h with rfl | h
    ·exact .inl rfl
    ·exact .inr (List.mem_cons_of_mem _ h)
   ·rcases List.mem_cons.1 h with rfl | h
    ·exact .inl rfl
    ·exact .inr h
theorem aO3 {l:List S98} (h:lA l) (x:S98):lA (put l x):=by
 rcases aCn h x.f0 with ⟨P,y,D,rfl,a⟩ | ⟨P,D,rfl,b,c⟩
 ·rw [aCf a h];exact aLj a h
 ·rw [aEg b c];exact aO8 h b c
theorem zX {l:List S98} (h:lA l) (n:List UInt8):lA (del l n):=List.Pairwise.filter _ h
theorem zD {l:List S98} {n:List UInt8} {x:S98} (h:get l n=some x):x∈l/\x.f0=n:=⟨List.mem_of_find?_eq_some h,by simpa using List.find?_some h⟩
theorem aH6 {l:List S98} {n:List UInt8} {x:S98} (h:x∈del l n):x∈l:=(List.mem_filter.1 h).1
theorem zE {l:List S98} (h:lA l) (x:S98) (n:List UInt8):get (put l x) n=if x.f0=n then some x else get l n:=by
 have e:∀ P D:List S98,x.f0≠n->get (P++x::D) n=get (P++D) n:=by intro P D a;unfold get;rw [List.find?_append,List.find?_append,List.find?_cons_of_neg (by simpa using a)]
 rcases aCn h x.f0 with ⟨P,y,D,rfl,b⟩ | ⟨P,D,rfl,c,d⟩
 ·rw [aCf b h];split
  ·rename_i e;exact wE e (aLj b h)
  ·rename_i a;rw [e P D a];unfold get;rw [List.find?_append,List.find?_append,List.find?_cons_of_neg (by simpa [b] using a)]
 ·rw [aEg c d];split
  ·rename_i e;exact wE e (aO8 h c d)
  ·rename_i a;exact e P D a
theorem aD2 {l:List S98} (h:lA l) (m n:List UInt8):get (del l m) n=if m=n then none else get l n:=by
 unfold get del;split
 ·rename_i e;subst e;rw [List.find?_eq_none];intro x hx;simpa using (List.mem_filter.1 hx).2
 ·rename_i a;rw [List.find?_filter];congr 1
  funext x
  by_cases hx:x.f0=n
  ·simp [hx];exact λe=>a e.symm
  ·simp [hx]
theorem aDp {l:List S98} (h:lA l) (x:S98):used (put l x)+((get l x.f0).getD ⟨x.f0,[],0⟩).f1.length=used l+x.f1.length:=by
 rcases aCn h x.f0 with ⟨P,y,D,rfl,a⟩ | ⟨P,D,rfl,b,c⟩
 ·rw [aCf a h,wE a h];simp only [vD,vE,Option.getD_some];omega
 ·rw [aEg b c,zC b c];simp only [vD,vE,Option.getD_none,List.length_nil];omega
theorem aJ7 {l:List S98} (h:lA l) (n:List UInt8):used (del l n)+((get l n).getD ⟨n,[],0⟩).f1.length=used l:=by
 rcases aCn h n with ⟨P,y,D,rfl,a⟩ | ⟨P,D,rfl,b,c⟩
 ·rw [aH7 a h,wE a h];simp only [vD,vE,Option.getD_some];omega
 ·rw [aRi b c,zC b c];rfl
theorem aF6 {l:List S98} (h:lA l) (x:S98):(put l x).length=if (get l x.f0).isSome then l.length else l.length+1:=by
 rcases aCn h x.f0 with ⟨P,y,D,rfl,a⟩ | ⟨P,D,rfl,b,c⟩
 ·rw [aCf a h,wE a h];simp
 ·rw [aEg b c,zC b c];simp;omega
theorem aMu {l:List S98} (h:lA l) (n:List UInt8):(del l n).length+(if (get l n).isSome then 1 else 0)=l.length:=by
 rcases aCn h n with ⟨P,y,D,rfl,a⟩ | ⟨P,D,rfl,b,c⟩
 ·rw [aH7 a h,wE a h];simp;omega
 ·rw [aRi b c,zC b c];simp
def step (s:S77):S77:=⟨s.f0,s.f1,if 0<s.f2 then s.f2 - 1 else s.f2,if 0<s.f2 then s.f2 - 1==0 else s.f3,s.f4+1⟩
structure SI (k:Nat) (s:S77):Prop where
 rise:lA s.f0
 form:∀ x∈s.f0,tY x.f0=true
 len:s.f0.length<=500
 room:1<=s.f1/\s.f1<=16777216
 use:(used s.f0:Int)<=s.f1
 sure:∀ x∈s.f0,0<=x.f2/\x.f2<=x.f1.length
 byt:∀ x∈s.f0,∀ b∈x.f1,0<=b/\b<256
 armed:0<=s.f2/\s.f2<=9223372036854775807
 ops:0<=s.f4/\s.f4<=k
def uX (s:S77) (n:List UInt8):Int:=if tY n=true then (if s.f3=true then 9 else 0) else 1
section
variable {k:Nat} {s:S77} {n:List UInt8}
theorem SI.find (h:SI k s) (n:List UInt8):eV s n=some ((pos s.f0 n:Int),has s.f0 n):=aRr s h.rise (by have:=h.len;omega) n
theorem SI.one (h:SI k s) {x:S98} (hx:x∈s.f0):(x.f1.length:Int)<=16777216:=by have:=aWh hx;have:=h.use;have:=h.room;omega
theorem SI.Used (h:SI k s):pK (some s)=some (used s.f0:Int):=aWw s (by have:=h.len;omega) (by have:=h.use;have:=h.room;omega)
theorem SI.Names (h:SI k s):mK (some s)=some (s.f0.map S98.f0):=aWu s (by have:=h.len;omega)
theorem SI.begin (h:SI k s) (hk:k<4611686018427387904):hN s=some (!(step s).f3,step s):=by
 have a:=h.armed;have b:=h.ops;unfold hN step;rw [lt_,w64 (n:=s.f4+1) (by omega) (by omega)];by_cases c:0<s.f2
 ·rw [if_pos (by simpa using c),lt_,w64 (n:=s.f2 - 1) (by omega) (by omega)];simp only [if_pos c];rfl
 ·rw [if_neg (by simpa using c)];simp only [if_neg c];rfl
theorem SI.stepped (h:SI k s):SI (k+1) (step s):=by
 refine⟨h.rise,h.form,h.len,h.room,h.use,h.sure,h.byt,?_,?_⟩
 ·have:=h.armed;simp only [P.step];split <;> omega
 ·have:=h.ops;simp only [P.step];omega
theorem SI.mono (h:SI k s) {a:Nat} (hk:k<=a):SI a s:=⟨h.rise,h.form,h.len,h.room,h.use,h.sure,h.byt,h.armed,by have:=h.ops;omega⟩
theorem aD8 (s:S77) (hn:n.length<4611686018427387904):cV (some s) n=some (uX s n):=by
 show (sB n).bind _=_;rw [aQ7 n hn];simp only [bHp];unfold uX;cases tY n with
 | true=>cases s.f3 <;> rfl
 | false=>rfl
theorem aN5 (a:List Int) (h:a.length<=140737488355328):cK a=some a:=by
 unfold cK;rw [bH (by simp only [List.length_nil];omega)];cases a with
 | nil=>simp [uC]
 | cons b a=>simp [uC]
def aHt (s:S77) (n:List UInt8):List Int×Int:=if uX s n=0 then (match get s.f0 n with | some x=>(x.f1,0) | none=>([],5)) else ([],uX s n)
theorem SI.Read (h:SI k s) (hn:n.length<4611686018427387904):pH (some s) n=some (aHt s n):=by
 show (cV (some s) n).bind _=_;rw [aD8 s hn];simp only [bHp];unfold aHt;by_cases c:uX s n=0
 ·rw [if_neg (by simpa using c),if_pos c,h.find];simp only [bHp];have hr:=h.rise;have a:=λx=>h.one (x:=x);rcases aCn hr n with ⟨P,x,D,e,hx⟩ | ⟨P,D,e,b,d⟩
  ·rw [e] at hr a ⊢;have f:=a x (by simp);rw [aD4 hx hr,aCe hx hr,wE hx hr,if_neg (by simp),bA rfl (show (P++x::D)[P.length]?=some x by simp)];simp only [bHp];rw [aN5 _ (by omega)];rfl
  ·rw [e] at hr ⊢;rw [aD3 b d,zC b d,if_pos (by simp)]
 ·rw [if_pos (by simpa using c),if_neg c]
def rU (s:S77) (n:List UInt8) (p:List Int):Int×S77:=if uX s n=0 then
  if s.f1 - used s.f0<p.length\/((get s.f0 n).isNone=true/\500<=s.f0.length) then (10,s)
  else (if (P.step s).f3=true then 9 else 0,{ P.step s with f0:=put s.f0 ⟨n,((get s.f0 n).getD ⟨n,[],0⟩).f1++p,((get s.f0 n).getD ⟨n,[],0⟩).f2⟩ })
 else (uX s n,s)
theorem aUb {y:Int×Bool} {b:Bool} {p:List Int} (h:b=true):eH n p s y b=some (10,some s):=by subst h;rfl
theorem aNv {l:List S98} {P D:List S98} {x:S98} {p:List Int} {b:Bool} {y:Bool} {r:S77} (hl:l=P++x::D) (hb:x.f1.length+p.length<=140737488355328) :
  hT p ((P.length:Int),b) (y,r) l=some (if y=true then 0 else 9,some ⟨P++⟨x.f0,x.f1++p,x.f2⟩::D,r.f1,r.f2,r.f3,r.f4⟩):=by
 subst hl;unfold hT;rw [bA rfl (show (P++x::D)[P.length]?=some x by simp)];simp only [bHp];rw [bH (by omega),Int.toNat_natCast,show (P++x::D).set P.length (⟨x.f0,x.f1++p,x.f2⟩:S98)=P++⟨x.f0,x.f1++p,x.f2⟩::D by simp];cases y <;> rfl
theorem SI.Append (h:SI k s) (hk:k<4611686018427387904) (hn:n.length<4611686018427387904) (p:List Int):qI (some s) n p=some ((rU s n p).1,some (rU s n p).2):=by
 have hu:=h.use;have l:=h.room;have hlen:=h.len;show (cV (some s) n).bind _=_;rw [aD8 s hn];simp only [bHp];unfold rU;by_cases c:uX s n=0
 ·rw [if_neg (by simpa using c),if_pos c,h.find];simp only [bHp];rw [h.Used];simp only [bHp];rw [lt_,w64 (by omega) (by omega)];by_cases c1:s.f1 - used s.f0<p.length
  ·rw [if_pos (by simpa using c1),if_pos (.inl c1),aUb rfl]
  ·rw [if_neg (by simpa using c1)];have hb:=h.begin hk;have hr:=h.rise;have i:=λx=>h.one (x:=x);rcases aCn hr n with ⟨P,x,D,e,hx⟩ | ⟨P,D,e,a,b⟩
   ·rw [e] at hr;have m:=i x (by rw [e];simp);have f:has s.f0 n=true:=by rw [e];exact aD4 hx hr
    have g:pos s.f0 n=P.length:=by rw [e];exact aCe hx hr
    have d:get s.f0 n=some x:=by rw [e];exact wE hx hr
    rw [f,g,if_neg (by simp)];unfold eH;rw [if_neg (by simp),hb];simp only [bHp];rw [if_neg (by simp),d,if_neg (by simp [c1]),show (step s).f0=P++x::D from e,aNv rfl (by omega),e,Option.getD_some,aCf hx hr];subst hx;cases (step s).f3 <;> rfl
   ·rw [e] at hr;have f:has s.f0 n=false:=by rw [e];exact aD3 a b
    have g:pos s.f0 n=P.length:=by rw [e];exact aM2 a b
    have d:get s.f0 n=none:=by rw [e];exact zC a b
    rw [f,g,if_pos (by simp)];by_cases c2:500<=s.f0.length
    ·rw [aUb (by simp;omega),d,if_pos (by simp [c2])]
    ·unfold eH;rw [if_neg (by simp;omega),hb];simp only [bHp];have hl:s.f0.length=P.length+D.length:=by rw [e];simp
     have j:aQg (step s).f0 (P.length:Int) [(⟨n,[],0⟩:S98)]=some (P++⟨n,[],0⟩::D):=by unfold aQg;rw [if_pos ⟨by omega,by show (P.length:Int)<=(s.f0.length:Int);omega,by simp,by show (s.f0.length+1) * 48<=_;omega⟩,show (step s).f0=P++D from e,Int.toNat_natCast,List.take_left,List.drop_left];simp
     rw [if_pos (by simp),j];simp only [bHp];rw [d,if_neg (by simp [c1];omega),aNv rfl (by simp only [List.length_nil];omega),e,Option.getD_none,aEg a b];cases (step s).f3 <;> rfl
 ·rw [if_pos (by simpa using c),if_neg c]
end
section
variable {k:Nat} {s:S77} {n:List UInt8}
def aC4 (s:S77) (n:List UInt8) (f:S98->List S98):Int×S77:=if uX s n=0 then
  match get s.f0 n with
  | none=>(5,s)
  | some x=>if (step s).f3=true then (9,step s) else (0,{ step s with f0:=f x })
 else (uX s n,s)
def aEt (s:S77) (n:List UInt8):Int×S77:=aC4 s n λx=>put s.f0 ⟨x.f0,x.f1,x.f1.length⟩
def vF (s:S77) (n:List UInt8):Int×S77:=aC4 s n λx=>del s.f0 n
def aQu (s:S77) (a b:List UInt8):Int×S77:=if tY a=true then if uX s b=0 then aC4 s a λx=>put (del s.f0 a) ⟨b,x.f1,x.f2⟩ else (uX s b,s) else (1,s)
theorem SI.Sync (h:SI k s) (hk:k<4611686018427387904) (hn:n.length<4611686018427387904):pJ (some s) n=some ((aEt s n).1,some (aEt s n).2):=by
 show (oE n s).bind _=_;unfold oE aEt aC4;rw [aD8 s hn];simp only [bHp];by_cases c:uX s n=0
 ·rw [if_neg (by simpa using c),if_pos c,h.find];simp only [bHp];have hb:=h.begin hk;have hr:=h.rise;rcases aCn hr n with ⟨P,x,D,e,hx⟩ | ⟨P,D,e,d,f⟩
  ·rw [e] at hr;have a:has s.f0 n=true:=by rw [e];exact aD4 hx hr
   have g:pos s.f0 n=P.length:=by rw [e];exact aCe hx hr
   have b:get s.f0 n=some x:=by rw [e];exact wE hx hr
   rw [a,g,b,if_neg (by simp),hb];simp only [bHp];cases c3:(step s).f3 with
   | true=>rfl
   | false =>
    unfold qN;rw [if_neg (by simp),if_neg (by simp),bA rfl (show (step s).f0[P.length]?=some x by rw [show (step s).f0=P++x::D from e];simp)];simp only [bHp];rw [e,aCf (x:=x) (y:=⟨x.f0,x.f1,x.f1.length⟩) rfl hr,show (step s).f0=P++x::D from e,Int.toNat_natCast,
     show (P++x::D).set P.length (⟨x.f0,x.f1,x.f1.length⟩:S98)=P++⟨x.f0,x.f1,x.f1.length⟩::D by simp, ← c3]
  ·rw [e] at hr;have a:has s.f0 n=false:=by rw [e];exact aD3 d f
   have b:get s.f0 n=none:=by rw [e];exact zC d f
   rw [a,b,if_pos (by simp)];rfl
 ·rw [if_pos (by simpa using c),if_neg c];rfl
theorem SI.Delete (h:SI k s) (hk:k<4611686018427387904) (hn:n.length<4611686018427387904):qJ (some s) n=some ((vF s n).1,some (vF s n).2):=by
 show (lU n s).bind _=_;unfold lU vF aC4;rw [aD8 s hn];simp only [bHp];by_cases c:uX s n=0
 ·rw [if_neg (by simpa using c),if_pos c,h.find];simp only [bHp];have hb:=h.begin hk;have hr:=h.rise;have hlen:=h.len;rcases aCn hr n with ⟨P,x,D,e,hx⟩ | ⟨P,D,e,d,f⟩
  ·rw [e] at hr;have a:has s.f0 n=true:=by rw [e];exact aD4 hx hr
   have g:pos s.f0 n=P.length:=by rw [e];exact aCe hx hr
   have b:get s.f0 n=some x:=by rw [e];exact wE hx hr
   have hl:s.f0.length=P.length+(D.length+1):=by rw [e];simp
   rw [a,g,b,if_neg (by simp),hb];simp only [bHp];cases c3:(step s).f3 with
   | true=>rfl
   | false =>
    unfold oB aW8;rw [if_neg (by simp),if_neg (by simp),lt_,w64 (by omega) (by omega),if_pos ⟨by omega,by show (P.length:Int)<(s.f0.length:Int);omega,rfl⟩];simp only [bHp];rw [e,aH7 hx hr,show (step s).f0=P++x::D from e,Int.toNat_natCast,List.eraseIdx_append_of_length_le (Nat.le_refl _),Nat.sub_self,List.eraseIdx_cons_zero, ← c3]
  ·rw [e] at hr;have a:has s.f0 n=false:=by rw [e];exact aD3 d f
   have b:get s.f0 n=none:=by rw [e];exact zC d f
   rw [a,b,if_pos (by simp)];rfl
 ·rw [if_pos (by simpa using c),if_neg c];rfl
theorem SI.Rename (h:SI k s) (hk:k<4611686018427387904) {a b:List UInt8} (p:a.length<4611686018427387904) (hn:b.length<4611686018427387904):qK (some s) a b=some ((aQu s a b).1,some (aQu s a b).2):=by
 show (sB a).bind _=_;unfold aQu;rw [aQ7 a p];simp only [bHp];cases cf:tY a with
 | false=>rfl
 | true =>
  rw [if_neg (by simp),if_pos rfl,aD8 s hn];simp only [bHp];by_cases i:uX s b=0
  ·rw [if_neg (by simpa using i),if_pos i];unfold oX aC4;rw [aD8 s p];simp only [bHp];by_cases c:uX s a=0
   ·rw [if_neg (by simpa using c),if_pos c,h.find];simp only [bHp];have hb:=h.begin hk;have hr:=h.rise;have hlen:=h.len;rcases aCn hr a with ⟨P,x,D,e,hx⟩ | ⟨P,D,e,q,r⟩
    ·rw [e] at hr;have j:has s.f0 a=true:=by rw [e];exact aD4 hx hr
     have u:pos s.f0 a=P.length:=by rw [e];exact aCe hx hr
     have l:get s.f0 a=some x:=by rw [e];exact wE hx hr
     have hl:s.f0.length=P.length+(D.length+1):=by rw [e];simp
     have t:(step s).f0=P++x::D:=e;rw [j,u,l,if_neg (by simp),hb];simp only [bHp];cases c3:(step s).f3 with
     | true=>rfl
     | false =>
      unfold oC;rw [if_neg (by simp),if_neg (by simp),bA rfl (show (step s).f0[P.length]?=some x by rw [t];simp)];simp only [bHp];have v:(step s).f0.eraseIdx (P.length:Int).toNat=P++D:=by rw [t,Int.toNat_natCast,List.eraseIdx_append_of_length_le (Nat.le_refl _),Nat.sub_self,List.eraseIdx_cons_zero]
      have w:del s.f0 a=P++D:=by rw [e];exact aH7 hx hr
      have f:lA (P++D):=aTk hr;rw [lt_,w64 (by omega) (by omega),bH rfl,v,w,aRr _ f (by show (P++D).length<_;rw [List.length_append];omega)];simp only [bHp];rcases aCn f b with ⟨d,x',g,e',m⟩ | ⟨d,g,e',n,o⟩
      ·rw [e'] at f ⊢;rw [aD4 m f,aCe m f,if_pos rfl,bA rfl (show (d++x'::g)[d.length]?=some x' by simp)];simp only [bHp];rw [aCf (y:=⟨b,x.f1,x.f2⟩) m f,Int.toNat_natCast,show (d++x'::g).set d.length (⟨b,x.f1,x.f2⟩:S98)=d++⟨b,x.f1,x.f2⟩::g by simp, ← c3]
      ·have z:P.length+D.length=d.length+g.length:=by rw [← List.length_append,e',List.length_append]
       rw [e'];rw [aD3 n o,aM2 n o,if_neg (by simp)];unfold aQg;rw [if_pos ⟨by omega,by rw [List.length_append];omega,by simp,by rw [List.length_append];simp only [List.length_singleton];omega⟩];simp only [bHp];rw [aEg (y:=⟨b,x.f1,x.f2⟩) n o,Int.toNat_natCast,List.take_left,List.drop_left, ← c3];simp
    ·rw [e] at hr;have j:has s.f0 a=false:=by rw [e];exact aD3 q r
     have l:get s.f0 a=none:=by rw [e];exact zC q r
     rw [j,l,if_pos (by simp)];rfl
   ·rw [if_pos (by simpa using c),if_neg c];rfl
  ·rw [if_pos (by simpa using i),if_neg i]
def aNw (s:S77) (n:Int):Int×S77:=if n<0 then (1,s) else (0,{ s with f2:=n })
theorem aPm (s:S77) (n:Int):nP (some s) n=some ((aNw s n).1,some (aNw s n).2):=by
 show (if decide (n<0)=true then _ else _)=_;unfold aNw;by_cases c:n<0
 ·rw [if_pos (by simpa using c),if_pos c]
 ·rw [if_neg (by simpa using c),if_neg c]
def aE6 (x:S98) (n:Int):S98:=if 0<=n/\n<x.f1.length - x.f2 then ⟨x.f0,x.f1.take (x.f2+n).toNat,x.f2+n⟩ else ⟨x.f0,x.f1,x.f1.length⟩
def rR (keep:List Int) (l:List S98):List S98:=l.mapIdx λi x=>aE6 x (keep.getD i 0)
def aAj (s:S77) (keep:List Int):S77:=⟨rR keep s.f0,s.f1,0,false,s.f4⟩
theorem aBj (keep:List Int) (l:List S98):(rR keep l).length=l.length:=by simp [rR]
theorem aD6 (keep:List Int) (l:List S98) (i:Nat):(rR keep l)[i]?=(l[i]?).map λx=>aE6 x (keep.getD i 0):=by simp [rR]
theorem aX7 (keep:List Int) {l:List S98} {i:Nat} {x:S98} (hx:l[i]?=some x):((rR keep l).take i++l.drop i).set i (aE6 x (keep.getD i 0))=(rR keep l).take (i+1)++l.drop (i+1):=by
 have hi:=(List.getElem?_eq_some_iff.1 hx).1;have hl:=aBj keep l;have a:((rR keep l).take i).length=i:=by rw [List.length_take];omega
 rw [List.set_append_right _ _ (by omega),a,Nat.sub_self,List.drop_eq_getElem_cons hi,List.set_cons_zero,List.take_add_one,aD6,hx];simp
theorem bBp (keep:List Int) {l:List S98} {i:Nat} {x:S98} (hx:l[i]?=some x):((rR keep l).take i++l.drop i)[i]?=some x:=by
 have hi:=(List.getElem?_eq_some_iff.1 hx).1;have hl:=aBj keep l;have a:((rR keep l).take i).length=i:=by rw [List.length_take];omega
 rw [List.getElem?_append_right (by omega),a,Nat.sub_self,List.getElem?_drop,Nat.add_zero,hx]
theorem aTl (h:SI k s) (keep:List Int) {i:Nat} (hi:i<s.f0.length) :
  cJ keep s ((rR keep s.f0).take i++s.f0.drop i) (i:Int)=some (.inl ((rR keep s.f0).take (i+1)++s.f0.drop (i+1),((i+1:Nat):Int))):=by
 have hx:=List.getElem?_eq_getElem hi;have hm:s.f0[i]∈s.f0:=List.getElem_mem hi;generalize s.f0[i]=x at hx hm;have a:=bBp keep hx;have b:=aX7 keep hx;have m:=h.one hm;have o:=h.sure x hm;have hlen:=h.len;generalize hL:(rR keep s.f0).take i++s.f0.drop i=L at a b;have f:i<L.length:=(List.getElem?_eq_some_iff.1 a).1;have tail:∀ (n:Int),n=keep.getD i 0->gU L (i:Int) n=some (.inl ((rR keep s.f0).take (i+1)++s.f0.drop (i+1),((i+1:Nat):Int))):=by
  intro n hn;rw [← hn] at b;have d:∀ (L':List S98) (y:S98),L'[i]?=some y->gV (i:Int) L'=some (.inl (L'.set i ⟨y.f0,y.f1,y.f1.length⟩,((i+1:Nat):Int))):=by intro L' y g;unfold gV;rw [bA rfl g];simp only [bHp];rw [lt_,w64 (by omega) (by omega),Int.toNat_natCast];rfl
  have j3f:¬ (0<=n/\n<x.f1.length - x.f2)->fJ L (i:Int) n false=some (.inl ((rR keep s.f0).take (i+1)++s.f0.drop (i+1),((i+1:Nat):Int))):=by intro hc;unfold fJ;rw [if_neg (by simp),d L x a, ← b];unfold aE6;rw [if_neg hc]
  unfold gU;by_cases c:0<=n
  ·rw [if_pos (by simpa using c),bA rfl a];simp only [bHp];rw [lt_,w64 (by omega) (by omega)];by_cases c2:n<x.f1.length - x.f2
   ·unfold fJ;rw [if_pos (by simpa using c2),bA rfl a];simp only [bHp];have e:=nY (xs:=x.f1) (l:=0) (u:=(x.f2+n).toNat) (by omega) (by omega);rw [Int.toNat_of_nonneg (by omega),show ((0:Nat):Int)=0 from rfl,List.drop_zero] at e;rw [lt_,w64 (by omega) (by omega),e];simp only [bHp];have j:(x.f1.take (x.f2+n).toNat).length=(x.f2+n).toNat:=by rw [List.length_take];omega
    rw [aN5 _ (by omega)];simp only [bHp,Int.toNat_natCast];rw [d _ _ (List.getElem?_set_self f),List.set_set, ← b];unfold aE6;rw [if_pos ⟨c,c2⟩,j,Int.toNat_of_nonneg (by omega)]
   ·rw [decide_eq_false c2];exact j3f λq=>c2 q.2
  ·rw [if_neg (by simpa using c)];exact j3f λq=>c q.1
 unfold cJ;rw [if_pos (by simpa using hi),bA rfl a];simp only [bHp];by_cases ck:i<keep.length
 ·have hk:=List.getElem?_eq_getElem ck;rw [if_pos (by simpa using ck),bA rfl hk];simp only [bHp];exact tail _ (by rw [List.getD_eq_getElem?_getD,hk];rfl)
 ·rw [if_neg (by simpa using ck)];exact tail _ (by rw [List.getD_eq_getElem?_getD,List.getElem?_eq_none (by omega)];rfl)
theorem aPa (h:SI k s) (keep:List Int):∀ (m i:Nat),i+m=s.f0.length->loop (λq:List S98×Int=>cJ keep s q.1 q.2) ((rR keep s.f0).take i++s.f0.drop i,(i:Int))=some (rR keep s.f0)
 | 0,i,hi=>by refine bE ?_;show cJ keep s _ (i:Int)=_;unfold cJ;rw [if_neg (by simp only [decide_eq_true_eq];omega),List.take_of_length_le (by rw [aBj];omega),List.drop_of_length_le (by omega),List.append_nil]
 | m+1,i,hi=>by rw [bZ (b:=λq:List S98×Int=>cJ keep s q.1 q.2) (aTl h keep (show i<s.f0.length by omega))];exact aPa h keep m (i+1) (by omega)
theorem SI.Restart (h:SI k s) (keep:List Int):oW (some s) keep=some (0,some (aAj s keep)):=by show (loop (λq:List S98×Int=>cJ keep s q.1 q.2) (s.f0,0)).bind _=_;have hl:=aPa h keep s.f0.length 0 (by omega);rw [List.take_zero,List.drop_zero,List.nil_append] at hl;rw [show ((0:Int))=((0:Nat):Int) from rfl,hl];rfl
theorem aZo (h:uX s n=0):tY n=true/\s.f3=false:=by
 unfold uX at h;split at h
 ·split at h
  ·cases h
  ·exact⟨by assumption,by simpa using (by assumption:¬ s.f3=true)⟩
 ·cases h
theorem SI.app (h:SI k s) {p:List Int} (hp:∀ b∈p,0<=b/\b<256):SI (k+1) (rU s n p).2:=by
 unfold rU;split
 ·rename_i c;split
  ·exact h.mono (Nat.le_succ k)
  ·rename_i c1;have hs:=h.stepped;have hu:=aDp h.rise ⟨n,((get s.f0 n).getD ⟨n,[],0⟩).f1++p,((get s.f0 n).getD ⟨n,[],0⟩).f2⟩;have hl:=aF6 h.rise ⟨n,((get s.f0 n).getD ⟨n,[],0⟩).f1++p,((get s.f0 n).getD ⟨n,[],0⟩).f2⟩;have d:∀ y,y=(get s.f0 n).getD ⟨n,[],0⟩->(0<=y.f2/\y.f2<=y.f1.length)/\∀ b∈y.f1,0<=b/\b<256:=by
    intro y a;cases hg:get s.f0 n with
    | none=>rw [hg] at a;subst a;simp
    | some x=>rw [hg] at a;subst a;exact⟨h.sure _ (zD hg).1,h.byt _ (zD hg).1⟩
   obtain⟨f,e⟩:=d _ rfl;have hlen:=h.len;have g:=h.use;have i:=h.room;refine⟨aO3 h.rise _,λx hx=>?_,?_,hs.room,?_,λx hx=>?_,λx hx=>?_,hs.armed,hs.ops⟩
   ·rcases aIc hx with rfl | hx
    ·exact (aZo c).1
    ·exact h.form x hx
   ·show (put s.f0 _).length<=500;rw [hl];split
    ·exact hlen
    ·rename_i hi;have hi':get s.f0 n=none:=by simpa using hi
     have:¬ 500<=s.f0.length:=λq=>c1 (.inr ⟨by rw [hi'];rfl,q⟩);omega
   ·show ((used (put s.f0 _):Nat):Int)<=s.f1;simp only [List.length_append] at hu;have:¬ s.f1 - used s.f0<p.length:=λq=>c1 (.inl q);omega
   ·rcases aIc hx with rfl | hx
    ·simp only [List.length_append];omega
    ·exact h.sure x hx
   ·rcases aIc hx with rfl | hx
    ·intro b hb;rcases List.mem_append.1 hb with hb | hb
     ·exact e b hb
     ·exact hp b hb
    ·exact h.byt x hx
 ·exact h.mono (Nat.le_succ k)
theorem SI.putS (h:SI k s) {l:List S98} (hl:lA l) (hs:∀ x∈l,x∈s.f0) (y:S98) (hf:tY y.f0=true) (hn:(put l y).length<=500) (hu:(used (put l y):Int)<=s.f1) (c:0<=y.f2/\y.f2<=y.f1.length) (hb:∀ b∈y.f1,0<=b/\b<256) {a:Int} (d:0<=a/\a<=9223372036854775807) {f:Bool} {o:Int} (e:0<=o/\o<=(k+1:Nat)) :
  SI (k+1) ⟨put l y,s.f1,a,f,o⟩:=by
 refine⟨aO3 hl _,λx hx=>?_,hn,h.room,hu,λx hx=>?_,λx hx=>?_,d,e⟩
 all_goals rcases aIc hx with rfl | hx
 ·exact hf
 ·exact h.form x (hs x hx)
 ·exact c
 ·exact h.sure x (hs x hx)
 ·exact hb
 ·exact h.byt x (hs x hx)
theorem SI.chg (h:SI k s) {f:S98->List S98} (hf:∀ x,get s.f0 n=some x->SI (k+1) { step s with f0:=f x }):SI (k+1) (aC4 s n f).2:=by
 unfold aC4;split
 ·split
  ·exact h.mono (Nat.le_succ k)
  ·rename_i x hx;split
   ·exact h.stepped
   ·exact hf x hx
 ·exact h.mono (Nat.le_succ k)
theorem SI.syn (h:SI k s):SI (k+1) (aEt s n).2:=by refine h.chg λx hx=>?_;obtain⟨hm,hn⟩:=zD hx;have hl:=aF6 h.rise ⟨x.f0,x.f1,x.f1.length⟩;have hu:=aDp h.rise ⟨x.f0,x.f1,x.f1.length⟩;subst hn;simp only at hl hu;rw [hx] at hl hu;simp only [Option.isSome_some,if_true,Option.getD_some] at hl hu;exact h.putS h.rise (λ_ h=>h) ⟨x.f0,x.f1,x.f1.length⟩ (h.form x hm) (by rw [hl];exact h.len) (by have:=h.use;omega) ⟨by simp,by simp⟩ (h.byt x hm) h.stepped.armed h.stepped.ops
theorem SI.del (h:SI k s):SI (k+1) (vF s n).2:=by refine h.chg λx hx=>?_;have hl:=aMu h.rise n;have hu:=aJ7 h.rise n;exact⟨zX h.rise n,λy a=>h.form y (aH6 a),by show (P.del s.f0 n).length<=500;have:=h.len;omega,h.room,by show (used (P.del s.f0 n):Int)<=s.f1;have:=h.use;omega,λy a=>h.sure y (aH6 a),λy a=>h.byt y (aH6 a),h.stepped.armed,h.stepped.ops⟩
theorem SI.ren (h:SI k s) {a b:List UInt8}:SI (k+1) (aQu s a b).2:=by
 unfold aQu;split
 ·split
  ·rename_i c;refine h.chg λx hx=>?_;obtain⟨hm,hn⟩:=zD hx;have hl:=aMu h.rise a;have hu:=aJ7 h.rise a;have d:=aF6 (zX h.rise a) ⟨b,x.f1,x.f2⟩;have e:=aDp (zX h.rise a) ⟨b,x.f1,x.f2⟩;rw [hx] at hl hu;simp only [Option.isSome_some,if_true,Option.getD_some] at hl hu d e;have g:=h.len;have i:=h.use;exact h.putS (zX h.rise a) (λy f=>aH6 f) ⟨b,x.f1,x.f2⟩ (aZo c).1 (by rw [d];split <;> omega) (by omega) (h.sure x hm) (h.byt x hm) h.stepped.armed h.stepped.ops
  ·exact h.mono (Nat.le_succ k)
 ·exact h.mono (Nat.le_succ k)
theorem SI.arm (h:SI k s) {m:Int} (hm:m<=9223372036854775807):SI (k+1) (aNw s m).2:=by
 unfold aNw;split
 ·exact h.mono (Nat.le_succ k)
 ·exact⟨h.rise,h.form,h.len,h.room,h.use,h.sure,h.byt,⟨by simp only;omega,hm⟩,by have:=h.ops;simp only;omega⟩
theorem aDy (x:S98) (m:Int):(aE6 x m).f0=x.f0:=by unfold aE6;split <;> rfl
theorem aN7 {x:S98} (hx:0<=x.f2) (m:Int):(aE6 x m).f1.length<=x.f1.length/\(aE6 x m).f2=(aE6 x m).f1.length:=by
 unfold aE6;split
 ·simp only [List.length_take];omega
 ·simp
theorem aOt (keep:List Int) (l:List S98):(rR keep l).map S98.f0=l.map S98.f0:=by
 refine List.ext_getElem? λi=>?_;rw [List.getElem?_map,List.getElem?_map,aD6];cases l[i]? with
 | none=>rfl
 | some x=>simp [aDy]
theorem aQv {l m:List S98} (h:l.map S98.f0=m.map S98.f0) (hm:lA m):lA l:=by
 have e:∀ l:List S98,lA l↔(l.map S98.f0).Pairwise λa b=>Op.bytesLess a b=true:=λl=>by unfold lA;rw [List.pairwise_map]
 rw [e,h, ← e];exact hm
theorem aG2 {keep:List Int} {l:List S98} {y:S98} (h:y∈rR keep l):∃ x∈l,∃ m,y=aE6 x m:=by
 obtain⟨i,hi⟩:=List.getElem?_of_mem h;rw [aD6] at hi;cases hx:l[i]? with
 | none=>rw [hx] at hi;cases hi
 | some x=>rw [hx] at hi;cases hi;exact⟨x,List.mem_of_getElem? hx,_,rfl⟩
theorem aJh:∀ {l m:List S98},l.length=m.length->(∀ (i:Nat) (x y:S98),l[i]?=some x->m[i]?=some y->y.f1.length<=x.f1.length)->used m<=used l
 | [],[],_,_=>Nat.le_refl _
 | x::l,y::m,hl,h=>by rw [vE,vE];have d:=h 0 x y rfl rfl;have e:=aJh (l:=l) (m:=m) (by simpa using hl) λi a b c hb=>h (i+1) a b (by simpa using c) (by simpa using hb);omega
theorem SI.rst (h:SI k s) (keep:List Int):SI k (aAj s keep):=by
 refine⟨aQv (aOt keep s.f0) h.rise,λy a=>?_,by show (rR keep s.f0).length<=500;rw [aBj];exact h.len,h.room,?_,λy a=>?_,λy a=>?_,⟨Int.le_refl 0,by show (0:Int)<=9223372036854775807;decide⟩,h.ops⟩
 ·obtain⟨x,hx,m,rfl⟩:=aG2 a;rw [aDy];exact h.form x hx
 ·show (used (rR keep s.f0):Int)<=s.f1;have:=aJh (aBj keep s.f0).symm λi x y hx a=>by rw [aD6,hx] at a;cases a;exact (aN7 (h.sure x (List.mem_of_getElem? hx)).1 _).1
  have:=h.use;omega
 ·obtain⟨x,hx,m,rfl⟩:=aG2 a;rw [(aN7 (h.sure x hx).1 m).2];omega
 ·obtain⟨x,hx,m,rfl⟩:=aG2 a;intro b hb;refine h.byt x hx b ?_;unfold aE6 at hb;split at hb
  ·exact List.mem_of_mem_take hb
  ·exact hb
end
def onS (l:List S98) (room ops:Int):S77:=⟨l,room,0,false,ops⟩
theorem aQ6 {r:Int} (h:1<=r) (a:r<=16777216):zH r=some (some (onS [] r 0),0):=by unfold zH;rw [if_neg (by simp;omega)];unfold wB;rw [if_neg (by simp;omega)];rfl
theorem bAl {r:Int} (h:1<=r) (a:r<=16777216):SI 0 (onS [] r 0) :=
 ⟨List.Pairwise.nil,λx hx=>(by cases hx),Nat.zero_le _,⟨h,a⟩,by show ((0:Nat):Int)<=r;omega,λx hx=>(by cases hx),λx hx=>(by cases hx),⟨Int.le_refl 0,by show (0:Int)<=9223372036854775807;decide⟩,⟨Int.le_refl 0,Int.le_refl 0⟩⟩
structure AI (k i:Nat) (s:S77):Prop where
 si:SI i s
 room:s.f1=5000
 left:s.f2=(k:Int)+1 - i
 off:s.f3=decide (i=k+1)
 one:∃ p t,s.f0=[⟨[97],p,t⟩]/\p.length<=i
structure RI (n:Int) (i:Nat) (l:List S98) (ops:Int):Prop where
 si:SI (2 * i) (onS l n ops)
 len:l.length<=i
theorem aZ4 {x:Int} (h:gI .u8 x):0<=x/\x<256:=by unfold gI Lit.wf at h;simp only [Bool.and_eq_true,decide_eq_true_eq] at h;exact⟨h.1,Int.lt_of_le_of_lt h.2 (by decide)⟩
section
end
section
variable {k:Nat} {s:S77} {n:List UInt8}
end
section
variable {k:Nat} {s:S77} {n:List UInt8}
end
section
variable {k:Nat} {s:S77} {n:List UInt8}
theorem aEk {l:List Int} (h:∀ b∈l,0<=b/\b<256):stb (bts l)=l:=by
 induction l with
 | nil=>rfl
 | cons b l ih =>
  have hb:=h b (List.mem_cons_self ..);show ((UInt8.ofNat b.toNat).toNat:Int)::stb (bts l)=_;rw [ih λx hx=>h x (List.mem_cons_of_mem _ hx)];congr 1;rw [UInt8.toNat_ofNat'];omega
end
section
variable {k:Nat} {s:S77} {n:List UInt8}
end
theorem xL (a:Nat):IntKind.u32.wrap (a:Int)=((a % 4294967296:Nat):Int):=by rw [IntKind.wrap_u32];omega
theorem aOn {a b:Nat} (c:a<4294967296) (hb:b<4294967296):aB7 .u32 (a:Int) (b:Int)=((a &&& b:Nat):Int):=by unfold aB7;rw [fP,fP,xL];have h:a &&& b<4294967296:=Nat.lt_of_le_of_lt Nat.and_le_left c;simp only [BitVec.toNat_and,BitVec.toNat_ofNat,show IntKind.u32.bits=32 from rfl];rw [Nat.mod_eq_of_lt (show a<2 ^ 32 by omega),Nat.mod_eq_of_lt (show b<2 ^ 32 by omega),Nat.mod_eq_of_lt h]
theorem aMq {a b:Nat} (c:a<4294967296) (hb:b<4294967296):ior .u32 (a:Int) (b:Int)=((a ||| b:Nat):Int):=by unfold ior;rw [fP,fP,xL];have h:a ||| b<2 ^ 32:=Nat.or_lt_two_pow (show a<2 ^ 32 by omega) (show b<2 ^ 32 by omega);simp only [BitVec.toNat_or,BitVec.toNat_ofNat,show IntKind.u32.bits=32 from rfl];rw [Nat.mod_eq_of_lt (show a<2 ^ 32 by omega),Nat.mod_eq_of_lt (show b<2 ^ 32 by omega),Nat.mod_eq_of_lt (show a ||| b<4294967296 from h)]
theorem aC7 {a b:Nat} (c:a<4294967296) (hb:b<4294967296):aBi .u32 (a:Int) (b:Int)=((a ^^^ b:Nat):Int):=by unfold aBi;rw [fP,fP,xL];have h:a ^^^ b<2 ^ 32:=Nat.xor_lt_two_pow (show a<2 ^ 32 by omega) (show b<2 ^ 32 by omega);simp only [BitVec.toNat_xor,BitVec.toNat_ofNat,show IntKind.u32.bits=32 from rfl];rw [Nat.mod_eq_of_lt (show a<2 ^ 32 by omega),Nat.mod_eq_of_lt (show b<2 ^ 32 by omega),Nat.mod_eq_of_lt (show a ^^^ b<4294967296 from h)]
theorem aJf (a n:Nat) (h:n<=32):xT .u32 (a:Int) (n:Int)=((a * 2 ^ n % 4294967296:Nat):Int):=by unfold xT;rw [Int.toNat_natCast,show min n IntKind.u32.bits=n from Nat.min_eq_left h,aGm, ← Int.natCast_mul,xL]
theorem aBw {a b:Nat} (c:a<4294967296) (hb:b<4294967296):a ^^^ b<4294967296:=Nat.xor_lt_two_pow (n:=32) c hb
def s1 (c:Nat):Nat:=if c % 2=1 then (c / 2) ^^^ 3988292384 else c / 2
theorem aZ0 {c:Nat} (h:c<4294967296):s1 c<4294967296:=by
 unfold s1;split
 ·exact aBw (by omega) (by decide)
 ·omega
theorem bBq (a b:Nat):s1 (a ^^^ b)=s1 a ^^^ s1 b:=by
 unfold s1;have h:=Nat.xor_mod_two_eq_one (a:=a) (b:=b);rw [Nat.xor_div_two];by_cases c:a % 2=1 <;> by_cases hb:b % 2=1
 ·rw [if_neg (by rw [h];simp [c,hb]),if_pos c,if_pos hb];rw [show (a / 2 ^^^ 3988292384) ^^^ (b / 2 ^^^ 3988292384)=(a / 2 ^^^ b / 2) ^^^ (3988292384 ^^^ 3988292384) by
   rw [Nat.xor_assoc, ← Nat.xor_assoc 3988292384,Nat.xor_comm 3988292384 (b / 2),Nat.xor_assoc (b / 2), ← Nat.xor_assoc]]
  simp
 ·rw [if_pos (by rw [h];simp [c,hb]),if_pos c,if_neg hb,Nat.xor_assoc,Nat.xor_comm (b / 2), ← Nat.xor_assoc]
 ·rw [if_pos (by rw [h];simp [c,hb]),if_neg c,if_pos hb,Nat.xor_assoc]
 ·rw [if_neg (by rw [h];simp [c,hb]),if_neg c,if_neg hb]
theorem aX8 (a:Nat):s1 (2 * a)=a:=by unfold s1;rw [if_neg (by omega)];omega
theorem aV9 (a z:Nat):s1 (2 * a ^^^ z)=a ^^^ s1 z:=by rw [bBq,aX8]
def st (x:Nat):Nat->Nat->Nat
 | 0,c=>c
 | k+1,c=>s1 (st x k c ^^^ (x / 2 ^ k % 2))
theorem aZ2 (x:Nat) {c:Nat} (h:c<4294967296):∀ k,st x k c<4294967296
 | 0=>h
 | k+1=>aZ0 (aBw (aZ2 x h k) (by omega))
def tabN:List Nat:=[0,498536548,997073096,651767980,1994146192,1802195444,1303535960,1342533948,3988292384,4027552580,3604390888,3412177804,2607071920,2262029012,2685067896,3183342108]
theorem bBu:bP=tabN.map λn:Nat=>(n:Int):=by decide
def F4 (r m:Nat):Nat:=s1 (s1 (s1 (s1 (r ^^^ m / 1 % 2) ^^^ m / 2 % 2) ^^^ m / 4 % 2) ^^^ m / 8 % 2)
theorem aT0:∀ r<16,∀ m<16,tabN[r ^^^ m]?=some (F4 r m):=by decide +kernel
theorem aX9 (c:Nat):c=(16 * (c / 16)) ^^^ (c % 16):=by
 apply Nat.eq_of_testBit_eq;intro i;rw [Nat.testBit_xor,show 16 * (c / 16)=2 ^ 4 * (c / 2 ^ 4) from rfl,show c % 16=c % 2 ^ 4 from rfl,Nat.testBit_two_pow_mul,Nat.testBit_mod_two_pow,Nat.testBit_div_two_pow];by_cases h:i<4
 ·simp [h,Nat.not_le.2 h]
 ·rw [show i - 4+4=i by omega];simp [h,Nat.le_of_not_lt h]
theorem nib (c m:Nat):s1 (s1 (s1 (s1 (c ^^^ m / 1 % 2) ^^^ m / 2 % 2) ^^^ m / 4 % 2) ^^^ m / 8 % 2)=(c / 16) ^^^ F4 (c % 16) m:=by have h:=aX9 c;obtain⟨q,a⟩:∃ q,q=c / 16:=⟨_,rfl⟩;obtain⟨r,hr⟩:∃ r,r=c % 16:=⟨_,rfl⟩;rw [← a, ← hr] at h ⊢;rw [h];unfold F4;rw [Nat.xor_assoc,show 16 * q=2 * (8 * q) by omega,aV9,Nat.xor_assoc,show 8 * q=2 * (4 * q) by omega,aV9,Nat.xor_assoc,show 4 * q=2 * (2 * q) by omega,aV9,Nat.xor_assoc,aV9]
theorem st8 (x c:Nat) (hx:x<256):st x 8 c=(((c / 16) ^^^ F4 (c % 16) (x % 16)) / 16) ^^^ F4 (((c / 16) ^^^ F4 (c % 16) (x % 16)) % 16) (x / 16):=by
 rw [← nib c (x % 16), ← nib _ (x / 16)];show s1 (s1 (s1 (s1 (s1 (s1 (s1 (s1 (c ^^^ x / 2 ^ 0 % 2) ^^^ x / 2 ^ 1 % 2) ^^^ x / 2 ^ 2 % 2) ^^^ x / 2 ^ 3 % 2) ^^^ x / 2 ^ 4 % 2) ^^^ x / 2 ^ 5 % 2) ^^^ x / 2 ^ 6 % 2) ^^^ x / 2 ^ 7 % 2)=_;rw [show x / 2 ^ 0 % 2=x % 16 / 1 % 2 by omega,show x / 2 ^ 1 % 2=x % 16 / 2 % 2 by omega,show x / 2 ^ 2 % 2=x % 16 / 4 % 2 by omega,show x / 2 ^ 3 % 2=x % 16 / 8 % 2 by omega,
  show x / 2 ^ 4 % 2=x / 16 / 1 % 2 by omega,show x / 2 ^ 5 % 2=x / 16 / 2 % 2 by omega,show x / 2 ^ 6 % 2=x / 16 / 4 % 2 by omega,show x / 2 ^ 7 % 2=x / 16 / 8 % 2 by omega]
def aIw (c:Nat) (xs:List Int):Nat:=xs.foldl (λc x=>st x.toNat 8 c) c
theorem aH5:∀ (xs:List Int) {c:Nat},c<4294967296->aIw c xs<4294967296
 | [],_,h=>h
 | x::xs,c,h=>aH5 xs (aZ2 _ h 8)
theorem aS0 (c:Nat) (xs:List Int) (x:Int):aIw c (xs++[x])=st x.toNat 8 (aIw c xs):=by simp [aIw]
theorem aY0 {r m:Nat} (hr:r<16) (hm:m<16):at_ bP ((r ^^^ m:Nat):Int)=some ((F4 r m:Nat):Int):=by rw [aPt,bBu,List.getElem?_map,aT0 r hr m hm];rfl
theorem bAe (a b:Nat):(a ^^^ b) &&& 15=a % 16 ^^^ b % 16:=by rw [show 15=2 ^ 4 - 1 from rfl,Nat.and_two_pow_sub_one_eq_mod,Nat.xor_mod_two_pow]
theorem aY1 {r m:Nat} (hr:r<16) (hm:m<16):F4 r m<4294967296:=by
 have:=aT0 r hr m hm;have h:∀ x∈tabN,x<4294967296:=by decide
 exact h _ (List.mem_of_getElem? this)
theorem aTf {xs:List Int} (hB:Bs xs) (hl:xs.length<2 ^ 60) {k:Nat} (hk:k<xs.length) {c:Nat} (hc:c<4294967296) :
  oK xs (c:Int) (k:Int)=some (.inl (((st (xs[k]'hk).toNat 8 c:Nat):Int),((k+1:Nat):Int))):=by
 obtain⟨x,hx⟩:∃ x,x=xs[k]'hk:=⟨_,rfl⟩;have f:=hB x (hx▸List.getElem_mem hk);obtain⟨b,rfl⟩:=Int.eq_ofNat_of_zero_le f.1;have hb:b<256:=by omega
 have hg:xs[k]?=some (b:Int):=by rw [hx];exact List.getElem?_eq_getElem hk
 rw [← hx,Int.toNat_natCast,st8 b c hb];unfold oK;simp only [lt_];rw [if_pos (by simp;omega),bA rfl hg];simp only [bHp];have e:(15:Int)=((15:Nat):Int):=rfl;have g:(4:Int)=((4:Nat):Int):=rfl;have hf:F4 (c % 16) (b % 16)<4294967296:=aY1 (by omega) (by omega);have hd:c / 16 ^^^ F4 (c % 16) (b % 16)<4294967296:=aBw (by omega) hf;obtain⟨d,a⟩:∃ d,d=c / 16 ^^^ F4 (c % 16) (b % 16):=⟨_,rfl⟩;rw [← a] at hd ⊢;rw [xL,Nat.mod_eq_of_lt (by omega),aC7 hc (by omega),e,aOn (aBw hc (by omega)) (by decide),bAe,aY0 (by omega) (by omega),g];simp only [bHp];rw [lD _ _ (by decide),lD _ _ (by decide),show c / 2 ^ 4=c / 16 from rfl,show b / 2 ^ 4=b / 16 from rfl,aC7 hf (by omega),Nat.xor_comm _ (c / 16), ← a,aC7 hd (by omega),
  aOn (aBw hd (by omega)) (by decide),bAe,show b / 16 % 16=b / 16 by omega,aY0 (by omega) (by omega)]
 simp only [bHp];rw [lD _ _ (by decide),show d / 2 ^ 4=d / 16 from rfl,aC7 (aY1 (by omega) (by omega)) (by omega),Nat.xor_comm _ (d / 16),w64 (by omega) (by omega)];rfl
theorem aWe (c:Nat) {xs:List Int} {k:Nat} (hk:k<xs.length):aIw c (xs.take (k+1))=st (xs[k]'hk).toNat 8 (aIw c (xs.take k)):=by rw [List.take_add_one,List.getElem?_eq_getElem hk];exact aS0 _ _ _
def crc (xs:List Int):Nat:=aIw 4294967295 xs ^^^ 4294967295
theorem aP0 (xs:List Int):crc xs<4294967296:=aBw (aH5 xs (by decide)) (by decide)
theorem aHq {xs:List Int} (hB:Bs xs) (hl:xs.length<2 ^ 60):aBn xs=some ((crc xs:Nat):Int):=by
 have h:=jJ (b:=λs:Int×Int=>oK xs s.1 s.2) (λk=>(((aIw 4294967295 (xs.take k):Nat):Int),(k:Int))) (t:=((aIw 4294967295 xs:Nat):Int)) xs.length (λk hk=>by
  show oK xs _ _=_;rw [aTf hB hl hk (aH5 _ (by decide)),aWe _ hk]) (by
  show oK xs ((aIw 4294967295 (xs.take xs.length):Nat):Int) (xs.length:Int)=_;unfold oK;rw [if_neg (by simp),List.take_length])
 unfold aBn;rw [show ((4294967295,0):Int×Int)=(((aIw 4294967295 (xs.take 0):Nat):Int),((0:Nat):Int)) from rfl,h];show some (aBi .u32 IntKind.u32.max _)=_;rw [show IntKind.u32.max=((4294967295:Nat):Int) by decide,aC7 (by decide) (aH5 _ (by decide)),Nat.xor_comm];rfl
def aCs (v:List Int):Nat:=(v.getD 0 0).toNat+256 * (v.getD 1 0).toNat+65536 * (v.getD 2 0).toNat+16777216 * (v.getD 3 0).toNat
theorem aRu {v:List Int} (hB:Bs v) (h:4<=v.length):∃ a b c d:Nat,∃ r,v=(a:Int)::b::c::d::r/\a<256/\b<256/\c<256/\d<256:=by
 match v,h with
 | a::b::c::d::r,_ =>
  have e:=hB a (by simp);have hb:=hB b (by simp);have hc:=hB c (by simp);have hd:=hB d (by simp);obtain⟨a,rfl⟩:=Int.eq_ofNat_of_zero_le e.1;obtain⟨b,rfl⟩:=Int.eq_ofNat_of_zero_le hb.1;obtain⟨c,rfl⟩:=Int.eq_ofNat_of_zero_le hc.1;obtain⟨d,rfl⟩:=Int.eq_ofNat_of_zero_le hd.1;exact⟨a,b,c,d,r,rfl,by omega,by omega,by omega,by omega⟩
theorem aMy (a b c d:Nat) (r:List Int):aCs ((a:Int)::b::c::d::r)=a+256 * b+65536 * c+16777216 * d:=by simp [aCs]
theorem aXw {v:List Int} (hB:Bs v) (h:4<=v.length):aCs v<4294967296:=by obtain⟨a,b,c,d,r,rfl,e,f,g,i⟩:=aRu hB h;rw [aMy];omega
theorem at0 {α:Type} (a b c d:α) (r:List α):at_ (a::b::c::d::r) 0=some a/\at_ (a::b::c::d::r) 1=some b/\at_ (a::b::c::d::r) 2=some c/\at_ (a::b::c::d::r) 3=some d :=
 ⟨bA (n:=0) rfl rfl,bA (n:=1) rfl rfl,bA (n:=2) rfl rfl,bA (n:=3) rfl rfl⟩
theorem aDd {v:List Int} (hB:Bs v) (h:4<=v.length):vA v=some (aCs v:Int):=by obtain⟨a,b,c,d,r,rfl,i,j,k,l⟩:=aRu hB h;obtain⟨e0,e,f,g⟩:=at0 (a:Int) (b:Int) (c:Int) (d:Int) r;unfold vA;simp only [lt_,e0,e,f,g,bHp];rw [show (8:Int)=((8:Nat):Int) from rfl,show (16:Int)=((16:Nat):Int) from rfl,show (24:Int)=((24:Nat):Int) from rfl];rw [xL a,xL b,xL c,xL d,Nat.mod_eq_of_lt (show a<4294967296 by omega),Nat.mod_eq_of_lt (show b<4294967296 by omega),Nat.mod_eq_of_lt (show c<4294967296 by omega),Nat.mod_eq_of_lt (show d<4294967296 by omega)];rw [aJf b 8 (by decide),aJf c 16 (by decide),aJf d 24 (by decide),Nat.mod_eq_of_lt (show b * 2 ^ 8<4294967296 by omega),Nat.mod_eq_of_lt (show c * 2 ^ 16<4294967296 by omega),Nat.mod_eq_of_lt (show d * 2 ^ 24<4294967296 by omega)];rw [aMq (by omega) (by omega),aCb (show a<2 ^ 8 by omega),aMq (by omega) (by omega),aCb (show a+b * 2 ^ 8<2 ^ 16 by omega),aMq (by omega) (by omega),aCb (show a+b * 2 ^ 8+c * 2 ^ 16<2 ^ 24 by omega),aMy];congr 2;omega
theorem aHi {l:List Int} (h:l.length<=140737488355328):cK l=some l:=by unfold cK;rw [bH (by simp;omega)];unfold uC;cases l <;> simp
def aBm (b:List Int) (a:Int):Int×List Int×Int×Int:=if a<0\/(b.length:Int)<a then (0,[],0,1) else
 if (b.drop a.toNat).length<9 then (0,[],0,3) else
 if 1048576<aCs (b.drop a.toNat)\/(b.drop a.toNat).length - 9<aCs (b.drop a.toNat) then (0,[],0,3) else
 if crc ((b.drop a.toNat).take (5+aCs (b.drop a.toNat)))=aCs ((b.drop a.toNat).drop (5+aCs (b.drop a.toNat))) then
  ((b.drop a.toNat).getD 4 0,((b.drop a.toNat).take (5+aCs (b.drop a.toNat))).drop 5,a+aCs (b.drop a.toNat)+9,0) else (0,[],0,4)
theorem bD5 {v:List Int} (h:5<=v.length):at_ v 4=some (v.getD 4 0):=by refine bA (n:=4) rfl ?_;rw [List.getD_eq_getElem?_getD,List.getElem?_eq_getElem (by omega)];rfl
theorem aRg {α:Type} {xs:List α} {l:Nat} (h:l<=xs.length):kN xs (l:Int) (xs.length:Int)=some (xs.drop l):=by rw [nY h (Nat.le_refl _),List.take_length]
theorem zF {b:List Int} {a:Int} (hB:Bs b) (hl:b.length<2 ^ 40):tE b a=some (aBm b a):=by
 unfold tE aBm;by_cases h0:a<0
 ·rw [if_pos (by simpa using h0),if_pos (.inl h0)];rfl
 rw [if_neg (by simpa using h0)];by_cases d:(b.length:Int)<a
 ·rw [if_pos (.inr d),show decide ((b.length:Int)<a)=true by simpa using d];rfl
 rw [if_neg (by omega),show decide ((b.length:Int)<a)=false by simpa using d];obtain⟨k,rfl⟩:=Int.eq_ofNat_of_zero_le (show 0<=a by omega);have c:=hB.drop k;have h:(b.drop k).length=b.length - k:=by simp
 have hc:=aRg (xs:=b) (l:=k) (by omega);rw [Int.toNat_natCast];obtain⟨v,i⟩:∃ v,v=b.drop k:=⟨_,rfl⟩;rw [← i] at c h hc ⊢;unfold wJ;rw [if_neg (by simp),hc];simp only [bHp];by_cases e:v.length<9
 ·rw [if_pos (by simp;omega),if_pos e]
 rw [if_neg (by simp;omega),if_neg e,aDd c (by omega)];simp only [bHp];have g:=aXw c (by omega);have j:=aP0 (v.take (5+aCs v));obtain⟨n,hn⟩:∃ n,n=aCs v:=⟨_,rfl⟩;rw [← hn] at g j ⊢;by_cases m:1048576<n
 ·rw [if_pos (by simp;omega),if_pos (.inl m)];rfl
 rw [if_neg (by simp;omega),lt_,lt_,w64 (by omega) (by omega),w64 (by omega) (by omega)];by_cases o:v.length - 9<n
 ·rw [if_pos (.inr o),show decide ((v.length:Int) - 9<(n:Int))=true by simp;omega];rfl
 rw [if_neg (by omega),show decide ((v.length:Int) - 9<(n:Int))=false by simp;omega];unfold wK;rw [if_neg (by simp)];simp only [lt_];rw [w64 (n:=(n:Int)) (by omega) (by omega),w64 (n:=5+(n:Int)) (by omega) (by omega),show (5:Int)+(n:Int)=((5+n:Nat):Int) by omega,
  show kN v 0 ((5+n:Nat):Int)=some ((v.take (5+n)).drop 0) from nY (l:=0) (Nat.zero_le _) (by omega),List.drop_zero]
 simp only [bHp];rw [aRg (by omega)];simp only [bHp];rw [aHq (c.take _) (by simp;omega)];simp only [bHp];rw [aDd (c.drop _) (by simp;omega)];simp only [bHp];by_cases f:crc (v.take (5+n))=aCs (v.drop (5+n))
 ·rw [if_neg (by simp;omega),if_pos f,bD5 (by omega)];simp only [bHp];rw [show kN v 5 ((5+n:Nat):Int)=some ((v.take (5+n)).drop 5) from nY (l:=5) (by omega) (by omega)];simp only [bHp];rw [aHi (by simp;omega)];simp only [bHp];rw [w64 (n:=(k:Int)+((5+n:Nat):Int)) (by omega) (by omega),w64 (by omega) (by omega)];congr 4;omega
 ·rw [if_pos (by simp;omega),if_neg f]
theorem aVt {b:List Int} {a:Int} (hB:Bs b):Bs (aBm b a).2.1/\(aBm b a).2.1.length<=1048576:=by
 unfold aBm
 repeat' split
 all_goals first
  | exact⟨Bs.nil,by simp⟩
  | exact⟨((hB.drop _).take _).drop _,by simp;omega⟩
def pTx:Nat->List Int->Option (List (List UInt8)×List Int)
 | 0,xs=>some ([],xs)
 | n+1,xs=>match pT 1048576 xs with
  | some (t,r)=>match pTx n r with
   | some (ts,r')=>some (t::ts,r')
   | none=>none
  | none=>none
theorem aR5 {most:Int} {xs r:List Int} {t:List UInt8} (h:pT most xs=some (t,r)):t.length<=xs.length:=by
 unfold pT at h;split at h
 ·rename_i n r' he;obtain⟨_,p,hp,_⟩:=uK he;split at h
  ·cases h;rw [hp];simp [bts];omega
  ·cases h
 ·cases h
theorem aVs:∀ (n:Nat) {xs:List Int} {ts:List (List UInt8)} {r:List Int},Bs xs->pTx n xs=some (ts,r)->Bs r/\r.length<=xs.length/\ts.length=n/\∀ t∈ts,t.length<=xs.length
 | 0,xs,ts,r,hB,h=>by cases h;exact⟨hB,Nat.le_refl _,rfl,λt ht=>by cases ht⟩
 | n+1,xs,ts,r,hB,h=>by
  unfold pTx at h;split at h
  ·rename_i t g he;obtain⟨b,i⟩:=aR3 hB he;split at h
   ·rename_i us j c;cases h;obtain⟨d,k,e,f⟩:=aVs n b c;refine⟨d,by omega,by simp [e],λq a=>?_⟩;rcases List.mem_cons.1 a with rfl | a
    ·exact aR5 he
    ·have:=f q a;omega
   ·cases h
  ·cases h
theorem aKs:∀ (m k:Nat) (a:List (List Int)) (xs:List Int),Bs xs->xs.length<1099511627776->k+m=5->a.length=5 ->
  ∃ y,loop (λs:List Int×List (List Int)×Int=>gP s.1 s.2.1 s.2.2) (xs,a,(k:Int))=some y/\match pTx m xs with
   | some (ts,r)=>y=.inl (r,a.take k++ts.map stb)
   | none=>∃ s,y=.inr (.inr s)
 | 0,k,a,xs,hB,hl,hk,ha=>by
  refine⟨.inl (xs,a),bE ?_,?_⟩
  ·show gP xs a (k:Int)=_;unfold gP;rw [if_neg (by simp only [decide_eq_true_eq];omega)]
  ·show _=_;rw [List.take_of_length_le (by omega)];simp
 | m+1,k,a,xs,hB,hl,hk,ha=>by
  unfold pTx;rcases (aL4 1048576 hB (by omega)).cases with ⟨t,r,b,c⟩ | ⟨b,s,c⟩
  ·rw [b];obtain⟨d,g⟩:=aR3 hB b;have h:=aR5 b;obtain⟨y,f,hm⟩:=aKs m (k+1) (a.set k (stb t)) r d (by omega) (by omega) (by simpa using ha);have hx:=List.getElem?_eq_getElem (l:=a) (i:=k) (by omega);refine⟨y,(bZ (s':=(r,a.set k (stb t),((k+1:Nat):Int))) ?_).trans f,?_⟩
   ·show gP xs a (k:Int)=_;unfold gP;rw [if_pos (by simp only [decide_eq_true_eq];omega),c];simp only [bHp,iC];rw [bH (by simp only [maxLen];omega),bA rfl hx];simp only [bHp];rw [lt_,w64 (by omega) (by omega)];rfl
   ·have e:(a.set k (stb t)).take (k+1)=a.take k++[stb t]:=by rw [List.take_add_one,List.getElem?_set_self (by omega),List.take_set_of_le (by omega)];rfl
    dsimp only;cases hq:pTx m r with
    | none=>rw [hq] at hm;exact hm
    | some z =>
     rw [hq] at hm;obtain⟨ts,r'⟩:=z;simp only at hm ⊢;rw [hm,e];simp
  ·rw [b];refine⟨.inr (.inr (s,a)),bE ?_,_,rfl⟩;show gP xs a (k:Int)=_;unfold gP;rw [if_pos (by simp only [decide_eq_true_eq];omega),c];rfl
def qT (x:S61) (k:Int):Bool:=decide (0<=x.f1)&&(decide (x.f1<k)&&(decide (-1099511627776<=x.f2)&&(decide (x.f2<=1099511627776)&&(decide ((x.f3.length:Int)<=32)&&decide (x.f0<1099511627776)))))
theorem aL2 (x:S61) (k:Int):xA x k=some (qT x k):=by unfold xA qT;cases decide (0<=x.f1) <;> cases decide (x.f1<k) <;> cases decide (-1099511627776<=x.f2) <;> cases decide (x.f2<=1099511627776) <;> cases decide ((x.f3.length:Int)<=32) <;> rfl
def aEz (k:Int):List Int->List Int->List Int->List (List UInt8)->List Nat->Option (List S61)
 | a::as_,b::bs,c::cs,d::ds,e::es =>
  if qT ⟨IntKind.u64.wrap a,b,c,d,e⟩ k=true then (aEz k as_ bs cs ds es).map (⟨IntKind.u64.wrap a,b,c,d,e⟩::·) else none
 | _,_,_,_,_=>some []
theorem aLl (s:Int) (A B C:List Int) (D:List (List UInt8)) (F:List Nat) (i j k l m:Int) (hB:B.length=A.length) (hC:C.length=A.length) (f:D.length=A.length) (g:F.length=A.length) (hA:A.length<=4096) :
  ∀ (n q:Nat) (pre:List S61),q+n=A.length->pre.length=q ->
   loop (λz:List S61×Int=>mG s (A,i) (B,j) (C,k) (D,l) (F,m) z.1 z.2) (pre,(q:Int))=some (match aEz s (A.drop q) (B.drop q) (C.drop q) (D.drop q) (F.drop q) with
    | some es=>.inl (pre++es)
    | none=>.inr ([],0,3))
 | 0,q,pre,hq,hp=>by rw [List.drop_of_length_le (show A.length<=q by omega)];refine bE ?_;show mG s (A,i) (B,j) (C,k) (D,l) (F,m) pre (q:Int)=_;unfold mG aEz;rw [if_neg (by simp only [decide_eq_true_eq];omega)];simp
 | n+1,q,pre,hq,hp=>by
  have gA:=List.getElem?_eq_getElem (l:=A) (i:=q) (by omega);have gB:=List.getElem?_eq_getElem (l:=B) (i:=q) (by omega);have gC:=List.getElem?_eq_getElem (l:=C) (i:=q) (by omega);have gD:=List.getElem?_eq_getElem (l:=D) (i:=q) (by omega);have gF:=List.getElem?_eq_getElem (l:=F) (i:=q) (by omega);rw [List.drop_eq_getElem_cons (show q<A.length by omega),List.drop_eq_getElem_cons (show q<B.length by omega),List.drop_eq_getElem_cons (show q<C.length by omega),List.drop_eq_getElem_cons (show q<D.length by omega),List.drop_eq_getElem_cons (show q<F.length by omega)];generalize A[q]=a at *;generalize B[q]=b at *;generalize C[q]=c at *;generalize D[q]=d at *;generalize F[q]=e at *;have hs:mG s (A,i) (B,j) (C,k) (D,l) (F,m) pre (q:Int)=if qT ⟨IntKind.u64.wrap a,b,c,d,e⟩ s=true then some (.inl (pre++[⟨IntKind.u64.wrap a,b,c,d,e⟩],((q+1:Nat):Int))) else some (.inr (.inr ([],0,3))):=by unfold mG;rw [if_pos (by simp only [decide_eq_true_eq];omega),bA rfl gA];simp only [bHp,lt_];rw [bA rfl gB,bA rfl gC,bA rfl gD,bA rfl gF];simp only [bHp,aL2];rw [bH (by simp;omega),w64 (by omega) (by omega)];cases qT ⟨IntKind.u64.wrap a,b,c,d,e⟩ s <;> rfl
  unfold aEz;by_cases hf:qT ⟨IntKind.u64.wrap a,b,c,d,e⟩ s=true
  ·rw [if_pos hf] at hs ⊢;rw [bZ (s':=(pre++[⟨IntKind.u64.wrap a,b,c,d,e⟩],((q+1:Nat):Int))) hs,aLl s A B C D F i j k l m hB hC f g hA n (q+1) (pre++[(⟨IntKind.u64.wrap a,b,c,d,e⟩:S61)]) (by omega) (by simp [hp])];cases aEz s (A.drop (q+1)) (B.drop (q+1)) (C.drop (q+1)) (D.drop (q+1)) (F.drop (q+1)) <;> simp
  ·rw [if_neg hf] at hs ⊢;rw [bE (t:=.inr ([],0,3)) hs]
theorem aI1 (l:List Int) (b:Int) (h:l.length<1099511627776):dK l b=some (decide (b∈l)):=by
 unfold dK fU;have key:∀ (m k:Nat),k+m=l.length->∃ y,loop (λs:Int=>bX l b s) (k:Int)=some y/\if b∈l.drop k then ∃ j:Nat,y=.inr (j:Int) else y=.inl ():=by
  intro m
  induction m with
  | zero =>
   intro k hk;refine⟨.inl (),bE ?_,?_⟩
   ·unfold bX;rw [if_neg (by simp only [decide_eq_true_eq];omega)]
   ·rw [List.drop_of_length_le (by omega),if_neg (by simp)]
  | succ m ih =>
   intro k hk;have c:k<l.length:=by omega
   have hx:=List.getElem?_eq_getElem c;have hd:l.drop k=l[k]::l.drop (k+1):=List.drop_eq_getElem_cons c;rw [hd];by_cases hb:b=l[k]
   ·refine⟨.inr (k:Int),bE ?_,?_⟩
    ·unfold bX;rw [if_pos (by simp only [decide_eq_true_eq];omega),bA rfl hx];simp only [bHp];rw [if_pos (by simpa using hb)]
    ·rw [if_pos (by rw [hb];exact List.mem_cons_self)];exact⟨k,rfl⟩
   ·obtain⟨y,a,hm⟩:=ih (k+1) (by omega);refine⟨y,(bZ (s':=((k+1:Nat):Int)) ?_).trans a,?_⟩
    ·unfold bX;rw [if_pos (by simp only [decide_eq_true_eq];omega),bA rfl hx];simp only [bHp];rw [if_neg (by simpa using hb),lt_,w64 (by omega) (by omega)];rfl
    ·have he:(b∈l[k]::l.drop (k+1))=(b∈l.drop (k+1)):=propext ⟨λh=>(List.mem_cons.1 h).resolve_left hb,λh=>List.mem_cons_of_mem _ h⟩;simpa only [he] using hm
 obtain⟨y,a,hm⟩:=key l.length 0 (by omega);rw [show ((0:Nat):Int)=0 from rfl] at a;rw [a,List.drop_zero] at *;by_cases hb:b∈l
 ·rw [if_pos hb] at hm;obtain⟨j,rfl⟩:=hm;simp only [bHp];rw [show decide (0<=(j:Int))=true by simp,show decide (b∈l)=true by simpa using hb]
 ·rw [if_neg hb] at hm;subst hm;rw [show decide (b∈l)=false by simpa using hb];rfl
def evL (s:Int) (t0 f t2 t3 t4:List UInt8):Option (List S61):=match wO (stb t0),wO (stb f),wO (stb t2),aLi (stb t3),aO7 (stb t4) with
 | some a,some b,some c,some d,some e=>if b.length=a.length/\c.length=a.length/\d.length=a.length/\e.length=a.length then aEz s a b c d e else none
 | _,_,_,_,_=>none
def evR (b:List Int) (a s:Int):List S61×Int×Int:=if (aBm b a).2.2.2≠0 then ([],0,(aBm b a).2.2.2) else
 if (aBm b a).1≠101 then ([],0,3) else
 match pTx 5 (aBm b a).2.1 with
 | some ([t0,t1,t2,t3,t4],[])=>match evL s t0 t1 t2 t3 t4 with
  | some l=>(l,(aBm b a).2.2.1,0)
  | none=>([],0,3)
 | _=>([],0,3)
theorem aIe (t:List UInt8):Bs (stb t):=λb hb=>by unfold stb at hb;obtain⟨c,_,rfl⟩:=List.mem_map.1 hb;have:=c.toNat_lt;omega
theorem zG (t:List UInt8):(stb t).length=t.length:=by simp [stb]
theorem aP7 (s:Int) (y:Int×List Int×Int×Int) (t0 a t2 t3 t4:List UInt8) (h0:t0.length<1099511627776) (g:a.length<1099511627776) (h:t2.length<1099511627776) (i:t3.length<1099511627776) (j:t4.length<1099511627776) :
  oQ s y [stb t0,stb a,stb t2,stb t3,stb t4] true=some (match evL s t0 a t2 t3 t4 with | some l=>(l,y.2.2.1,0) | none=>([],0,3)):=by
 unfold oQ evL;rw [if_neg (by simp)];rw [show at_ [stb t0,stb a,stb t2,stb t3,stb t4] 0=some (stb t0) from rfl,show at_ [stb t0,stb a,stb t2,stb t3,stb t4] 1=some (stb a) from rfl,show at_ [stb t0,stb a,stb t2,stb t3,stb t4] 2=some (stb t2) from rfl,show at_ [stb t0,stb a,stb t2,stb t3,stb t4] 3=some (stb t3) from rfl,show at_ [stb t0,stb a,stb t2,stb t3,stb t4] 4=some (stb t4) from rfl];simp only [bHp];rw [yR (aIe t0) (by rw [zG];omega)];simp only [bHp];rw [yR (aIe a) (by rw [zG];omega)];simp only [bHp];rw [yR (aIe t2) (by rw [zG];omega)];simp only [bHp];rw [aKf (aIe t3) (by rw [zG];omega)];simp only [bHp];rw [aKe (aIe t4) (by rw [zG];omega),show (wO (stb t4)).bind aG7=aO7 (stb t4) from rfl];simp only [bHp];rw [aI1 _ _ (by simp)];simp only [bHp];cases ha:wO (stb t0) with
 | none=>simp [fO]
 | some A =>
 cases hb:wO (stb a) with
 | none=>simp [fO]
 | some B =>
 cases hc:wO (stb t2) with
 | none=>simp [fO]
 | some C =>
 cases hd:aLi (stb t3) with
 | none=>simp [fO]
 | some D =>
 cases he:aO7 (stb t4) with
 | none=>simp [fO]
 | some F =>
 have f:=aLh ha;simp only;rw [if_neg (by simp)];by_cases b:B.length=A.length
 ·rw [if_neg (by simp [b])];by_cases c:C.length=A.length
  ·rw [if_neg (by simp [c])];by_cases d:D.length=A.length
   ·rw [if_neg (by simp [d])];by_cases e:F.length=A.length
    ·rw [if_pos ⟨b,c,d,e⟩,show ((F.length:Int) != (A.length:Int))=false by simp [e]];unfold fO;rw [if_neg (by simp),show ((0:Int))=((0:Nat):Int) from rfl,aLl s A B C D F _ _ _ _ _ b c d e f A.length 0 [] (by omega) rfl];simp only [List.drop_zero,List.nil_append];cases aEz s A B C D F <;> rfl
    ·rw [if_neg (by simp [e]),show ((F.length:Int) != (A.length:Int))=true by simp;omega];rfl
   ·rw [if_pos (by simp;omega),if_neg (by simp [d])];rfl
  ·rw [if_pos (by simp;omega),if_neg (by simp [c])];rfl
 ·rw [if_pos (by simp;omega),if_neg (by simp [b])];rfl
theorem aKi {b:List Int} {a s:Int} (hB:Bs b) (hl:b.length<2 ^ 40):zY b a s=some (evR b a s):=by
 unfold zY evR;rw [zF hB hl];simp only [bHp];obtain⟨hp,j⟩:=aVt (a:=a) hB;generalize aBm b a=y at *;obtain⟨c,g,i,d⟩:=y;simp only at hp j ⊢;by_cases h:d=0
 ·rw [if_neg (show ¬ ((d != 0)=true) by simp [h]),if_neg (show ¬ (d≠0) by simp [h])];by_cases h0:c=101
  ·rw [if_pos (show (c==101)=true by simp [h0]),if_neg (show ¬ (c≠101) by simp [h0])];unfold wQ zB;obtain⟨z,hz,hm⟩:=aKs 5 0 [[],[],[],[],[]] g hp (by omega) rfl rfl;rw [show ((0:Nat):Int)=0 from rfl] at hz;simp only;rw [hz];simp only [bHp];cases hq:pTx 5 g with
   | none =>
    rw [hq] at hm;obtain⟨e,rfl⟩:=hm;rfl
   | some w =>
    obtain⟨ts,r⟩:=w;obtain⟨l,m,k,f⟩:=aVs 5 hp hq;rw [hq] at hm;simp only at hm;subst hm
    match ts,k,f with
    | [t0,t1,t2,t3,t4],_,f =>
     have hc:=aP7 s (c,g,i,d) t0 t1 t2 t3 t4 (by have:=f t0 (by simp);omega) (by have:=f t1 (by simp);omega) (by have:=f t2 (by simp);omega) (by have:=f t3 (by simp);omega) (by have:=f t4 (by simp);omega);cases r with
     | nil=>exact hc
     | cons x r =>
      show oQ s (c,g,i,d) [stb t0,stb t1,stb t2,stb t3,stb t4] ((((x::r).length:Nat):Int)==0)=_;rw [show ((((x::r).length:Nat):Int)==0)=false by simp;omega];rfl
  ·rw [if_neg (show ¬ ((c==101)=true) by simp [h0]),if_pos (show c≠101 by simp [h0])];rfl
 ·rw [if_pos (show (d != 0)=true by simp [h]),if_pos (show d≠0 by simp [h])]
def Up (l:List (List UInt8)):Prop:=l.Pairwise λa b=>Op.bytesLess a b=true
theorem Up.get {l:List (List UInt8)} (h:Up l) {i j:Nat} {a b:List UInt8} (c:l[i]?=some a) (hb:l[j]?=some b) (d:i<j):Op.bytesLess a b=true:=by obtain⟨hi,rfl⟩:=List.getElem?_eq_some_iff.1 c;obtain⟨e,rfl⟩:=List.getElem?_eq_some_iff.1 hb;exact List.pairwise_iff_getElem.1 h i j hi e d
theorem Up.nodup {l:List (List UInt8)} (h:Up l) {i j:Nat} {a:List UInt8} (c:l[i]?=some a) (hb:l[j]?=some a):i=j:=by
 rcases Nat.lt_trichotomy i j with b | b | b
 ·have:=h.get c hb b;rw [zR] at this;cases this
 ·exact b
 ·have:=h.get hb c b;rw [zR] at this;cases this
theorem Up.ext:∀ {l m:List (List UInt8)},Up l->Up m->(∀ x,x∈l↔x∈m)->l=m
 | [],[],_,_,_=>rfl
 | [],b::m,_,_,h=>absurd ((h b).2 List.mem_cons_self) (by simp)
 | a::l,[],_,_,h=>absurd ((h a).1 List.mem_cons_self) (by simp)
 | a::l,b::m,hl,hm,h=>by
  have d:=List.pairwise_cons.1 hl;have f:=List.pairwise_cons.1 hm;have i:a=b:=by
   rcases List.mem_cons.1 ((h a).1 List.mem_cons_self) with e | c
   ·exact e
   ·rcases List.mem_cons.1 ((h b).2 List.mem_cons_self) with e | j
    ·exact e.symm
    ·have k:=f.1 a c;have g:=d.1 b j;rw [aH3 k] at g;cases g
  subst i;rw [Up.ext d.2 f.2 λx=>⟨λhx=>by
   rcases List.mem_cons.1 ((h x).1 (List.mem_cons_of_mem _ hx)) with e | c
   ·have:=d.1 x hx;rw [e,zR] at this;cases this
   ·exact c,λhx=>by
   rcases List.mem_cons.1 ((h x).2 (List.mem_cons_of_mem _ hx)) with e | c
   ·have:=f.1 x hx;rw [e,zR] at this;cases this
   ·exact c⟩]
theorem bD9 (x y:List UInt8):decide (x<=y) = !Op.bytesLess y x:=by
 rw [bytesLess_eq];by_cases h:y<x
 ·rw [decide_eq_true h,decide_eq_false (λa=>absurd h (List.not_lt.2 a))];rfl
 ·rw [decide_eq_false h,decide_eq_true (List.not_lt.1 h)];rfl
def uq (l:List (List UInt8)):List (List UInt8):=Lib.compact (l.mergeSort λx y=>decide (x<=y))
theorem aLq (l:List (List UInt8)):(l.mergeSort λx y=>decide (x<=y)).Pairwise λa b=>Op.bytesLess b a=false:=by
 have h:=List.pairwise_mergeSort (le:=λx y:List UInt8=>decide (x<=y)) (λa b c d e=>by
  simp only [decide_eq_true_eq] at d e ⊢;exact List.le_trans d e) (λa b=>by
  simp only [Bool.or_eq_true,decide_eq_true_eq];exact List.le_total a b) l
 exact h.imp λ{a b} hab=>by rw [bD9] at hab;simpa using hab
theorem aE5 (s:List (List UInt8)) (hs:s.Pairwise λa b=>Op.bytesLess b a=false):∀ m,m<=s.length->Up (Lib.compactUpTo s.toArray m)/\∀ x,x∈Lib.compactUpTo s.toArray m↔x∈s.take m
 | 0,_=>by have e:Lib.compactUpTo s.toArray 0=[]:=rfl;rw [e];exact⟨List.Pairwise.nil,λx=>by simp⟩
 | m+1,hm=>by
  obtain⟨f,c⟩:=aE5 s hs m (by omega);have hg:s[m]?=some (s[m]'(by omega)):=List.getElem?_eq_getElem (by omega);have hd:s.toArray[m]! = s[m]'(by omega):=by rw [getElem!_pos _ m (by simp;omega)];rfl
  have ht:s.take (m+1)=s.take m++[s[m]'(by omega)]:=by rw [List.take_add_one,hg];rfl
  rw [Lib.compactUpTo_succ,ht,hd];by_cases hk:Lib.keeps s.toArray m=true
  ·rw [if_pos hk];refine⟨List.pairwise_append.2 ⟨f,List.pairwise_singleton _ _,λa j b hb=>?_⟩,λx=>by rw [List.mem_append,List.mem_append,c x]⟩;rw [List.mem_singleton] at hb;subst hb;obtain⟨i,hi,rfl⟩:=List.mem_iff_getElem.1 ((c a).1 j);have p:i<m:=by simp at hi;omega
   have g:s.toArray[m]! ≠ s.toArray[m - 1]! := by
    unfold Lib.keeps at hk;simp only [decide_eq_true_eq] at hk;rcases hk with h0 | h0
    ·omega
    ·exact h0
   rw [hd,getElem!_pos _ (m - 1) (by simp;omega)] at g;have k:s[m]'(by omega)≠s[m - 1]'(by omega):=g;have l:Op.bytesLess (s[m]'(by omega)) (s[m - 1]'(by omega))=false:=List.pairwise_iff_getElem.1 hs (m - 1) m (by omega) (by omega) (by omega);have d:Op.bytesLess (s[m - 1]'(by omega)) (s[m]'(by omega))=true:=by
    cases hq:Op.bytesLess (s[m - 1]'(by omega)) (s[m]'(by omega)) with
    | true=>rfl
    | false=>exact absurd (aL6 l hq) k
   simp only [List.getElem_take];rcases Nat.lt_or_ge i (m - 1) with h | h
   ·have n:Op.bytesLess (s[m - 1]'(by omega)) (s[i]'(by omega))=false:=List.pairwise_iff_getElem.1 hs i (m - 1) (by omega) (by omega) h;cases hq:Op.bytesLess (s[i]'(by omega)) (s[m - 1]'(by omega)) with
    | true=>exact aFv hq d
    | false=>rw [aL6 hq n];exact d
   ·have:i=m - 1:=by omega
    subst this;exact d
  ·rw [if_neg hk,List.append_nil];refine⟨f,λx=>?_⟩;have h0:0<m:=by
    rcases Nat.eq_zero_or_pos m with e | e
    ·subst e;exact absurd (Lib.keeps_lt_one s.toArray 0 (by omega)) hk
    ·exact e
   have he:s.toArray[m]! = s.toArray[m - 1]! := by
    rcases Decidable.em (s.toArray[m]! = s.toArray[m - 1]!) with e | e
    ·exact e
    ·exact absurd (Lib.keeps_pos e) hk
   rw [hd,getElem!_pos _ (m - 1) (by simp;omega)] at he;have o:s[m]'(by omega)=s[m - 1]'(by omega):=he;rw [c x,List.mem_append,List.mem_singleton,o];exact⟨.inl,λh=>h.elim id λe=>by
    rw [e];exact List.mem_iff_getElem.2 ⟨m - 1,by simp;omega,by simp⟩⟩
theorem aZ6 (l:List (List UInt8)):Up (uq l):=by have:=(aE5 _ (aLq l) _ (Nat.le_refl _)).1;exact this
theorem aDo (l:List (List UInt8)) (x:List UInt8):x∈uq l↔x∈l:=by have:=(aE5 _ (aLq l) _ (Nat.le_refl _)).2 x;rw [List.take_length,List.mem_mergeSort] at this;exact this
theorem aNf (l:List (List UInt8)):(uq l).length<=l.length:=by have h:=aHj (l.mergeSort λx y=>decide (x<=y));rw [List.length_mergeSort] at h;exact h
def ix:List (List UInt8)->List UInt8->Nat
 | [],_=>0
 | a::as_,s=>if a=s then 0 else ix as_ s+1
theorem aJg:∀ {l:List (List UInt8)} {s:List UInt8},s∈l->l[ix l s]?=some s
 | a::l,s,h=>by
  unfold ix;by_cases e:a=s
  ·rw [if_pos e,e];rfl
  ·rw [if_neg e,List.getElem?_cons_succ];exact aJg ((List.mem_cons.1 h).resolve_left λq=>e q.symm)
theorem aW4 (x y:List UInt8):qR x y=some (Op.bytesLess x y):=by unfold qR pC;simp
theorem bAp {U:List (List UInt8)} (a:Up U) (hlen:U.length<1099511627776) {s:List UInt8} {k:Nat} (hk:U[k]?=some s):dS U s=some ((k:Int),true):=by
 have r:=(List.getElem?_eq_some_iff.1 hk).1;unfold dS;obtain⟨y,c,hm⟩:=aEa (b:=λq:Int×Int=>bS U s q.1 q.2) (s:=(0,(U.length:Int)))
  (λq=>∃ i j:Nat,q=((i:Int),(j:Int))/\i<=k/\k<=j/\j<=U.length) (λq=>(q.2 - q.1).toNat) (λt=>t=(k:Int)) ⟨0,U.length,rfl,Nat.zero_le _,by omega,Nat.le_refl _⟩ (by
  rintro q ⟨i,j,rfl,d,f,g⟩;show (∃ s',bS U s (i:Int) (j:Int)=some (.inl s')/\_)\/∃ t,bS U s (i:Int) (j:Int)=some (.inr t)/\_;unfold bS;by_cases u:i<j
  ·have hx:=List.getElem?_eq_getElem (l:=U) (i:=(i+j) / 2) (by omega);have m:oG .u64 (((i+j:Nat)):Int) 1=(((i+j) / 2:Nat):Int):=lD (k:=.u64) (i+j) 1 (by decide);rw [if_pos (by simp only [decide_eq_true_eq];omega)];simp only [lt_];rw [w64 (n:=(i:Int)+(j:Int)) (by omega) (by omega),nD (by omega) (by omega),show (i:Int)+(j:Int)=((i+j:Nat):Int) by omega,m,w64 (by omega) (by omega),bA rfl hx];simp only [bHp];rw [aW4];simp only [bHp];unfold dH;by_cases o:(i+j) / 2<k
   ·have hb:=a.get hx hk o;rw [if_pos hb,w64 (by omega) (by omega)];exact .inl ⟨_,rfl,⟨(i+j) / 2+1,j,rfl,by omega,f,g⟩,by simp only;omega⟩
   ·have hb:Op.bytesLess (U[(i+j) / 2]'(by omega)) s=false:=by
     rcases Nat.lt_or_ge k ((i+j) / 2) with h | h
     ·exact aH3 (a.get hk hx h)
     ·have e:(i+j) / 2=k:=by omega
      have p:U[(i+j) / 2]'(by omega)=s:=by
       have:U[(i+j) / 2]?=some s:=by rw [e];exact hk
       rw [hx] at this;exact Option.some.inj this
      rw [p,zR]
    rw [if_neg (by rw [hb];simp)];exact .inl ⟨_,rfl,⟨i,(i+j) / 2,rfl,d,by omega,by omega⟩,by simp only;omega⟩
  ·rw [if_neg (by simp only [decide_eq_true_eq];omega)];exact .inr ⟨_,rfl,by rw [show i=k by omega]⟩)
 rw [c,hm];simp only [bHp];unfold dY eR;rw [if_pos (by simp only [decide_eq_true_eq];omega),bA rfl hk];simp
def sC (U:List (List UInt8)):List Int:=(U.map λs=>uv s.length++stb s).flatten
theorem aQc (U:List (List UInt8)) (s:List UInt8):sC (U++[s])=sC U++(uv s.length++stb s):=by simp [sC]
theorem aD1:∀ (U:List (List UInt8)),(∀ s∈U,s.length<=32)->(sC U).length<=42 * U.length
 | [],_=>by simp [sC]
 | s::U,h=>by have a:=aD1 U λx hx=>h x (List.mem_cons_of_mem _ hx);have b:=h s List.mem_cons_self;have c:=aP (n:=s.length) (by omega);have e:sC (s::U)=(uv s.length++stb s)++sC U:=rfl;rw [e];simp only [List.length_append,List.length_cons,zG];omega
def tJ (U l:List (List UInt8)):List Int:=l.map λs=>((ix U s:Nat):Int)
def uR (l:List (List UInt8)):List Int:=uv (uq l).length++sC (uq l)++gO (tJ (uq l) l)
theorem aQr (U l:List (List UInt8)) (s:List UInt8):tJ U (l++[s])=tJ U l++[((ix U s:Nat):Int)]:=by simp [tJ]
theorem zJ (U l:List (List UInt8)):(tJ U l).length=l.length:=by simp [tJ]
theorem aZm {U:List (List UInt8)} {s:List UInt8} (h:s∈U):ix U s<U.length:=(List.getElem?_eq_some_iff.1 (aJg h)).1
theorem aEi {U l:List (List UInt8)} (hs:∀ s∈l,s∈U) (a:U.length<=4096):I64 (tJ U l):=λx hx=>by unfold tJ at hx;obtain⟨s,hm,rfl⟩:=List.mem_map.1 hx;have:=aZm (hs s hm);unfold i64;omega
section
variable {l:List (List UInt8)} (hl:l.length<=4096) (h32:∀ s∈l,s.length<=32)
theorem aTa {m:List Int} (h:m.length<=4096) (hi:I64 m):(gO m).length<=1048576:=by obtain⟨w,hw,e⟩:=aJd m;rw [e];exact bBc hw h hi
include hl h32
theorem aUn {U:List (List UInt8)} (a:Up U) (hs:∀ s∈l,s∈U) (c:U.length<=4096) {p:List Int} (hp:p.length<=1000000):qS l U p=some (p++gO (tJ U l)):=by
 have h:=jJ (b:=λs:List Int×Int=>jQ l U s.1 s.2) (λk=>(tJ U (l.take k),(k:Int))) (t:=tJ U l) l.length (λk hk=>by
  have hx:=List.getElem?_eq_getElem hk;have hm:=hs _ (List.getElem_mem hk);show jQ l U (tJ U (l.take k)) (k:Int)=_;unfold jQ;rw [if_pos (by simp only [decide_eq_true_eq];omega),bA rfl hx];simp only [bHp];rw [bAp a (by omega) (aJg hm)];simp only [bHp];rw [bH (by rw [zJ];simp;omega),lt_,w64 (by omega) (by omega),List.take_add_one,hx];simp only [Option.toList_some];rw [aQr];rfl) (by
  show jQ l U (tJ U (l.take l.length)) (l.length:Int)=_;unfold jQ;rw [if_neg (by simp),List.take_length])
 unfold qS;rw [show (([],0):List Int×Int)=(tJ U (l.take 0),((0:Nat):Int)) from rfl,h];simp only [bHp];unfold rP uH;have hi:=aEi hs c;rw [aC2 (by rw [zJ];omega) hi];simp only [bHp];have:=aTa (m:=tJ U l) (by rw [zJ];omega) hi;rw [bH (by omega)]
theorem aSu:vS l=some (uR l):=by
 have e:=aNf l;have c:∀ s∈uq l,s.length<=32:=λs hs=>h32 s ((aDo l s).1 hs);unfold vS sJ slices_Compact_string;rw [bH (by omega)];simp only [bHp];rw [show Lib.compact (l.mergeSort λx y=>decide (x<=y))=uq l from rfl,lt_,nD (by omega) (by omega),tV _ [] (by omega) (by have:=aP (n:=(uq l).length) (by omega);simp;omega)];simp only [bHp,List.nil_append];have hu:=aP (n:=(uq l).length) (by omega);obtain⟨a,d⟩:∃ a,a=uv (uq l).length:=⟨_,rfl⟩;rw [← d] at hu ⊢;have h:=jJ (b:=λs:List Int×Int=>jR (uq l) s.1 s.2) (λk=>(a++sC ((uq l).take k),(k:Int))) (t:=a++sC (uq l)) (uq l).length (λk hk=>by
  have hx:=List.getElem?_eq_getElem hk;have hs:=c _ (List.getElem_mem hk);have hf:=aD1 ((uq l).take k) λs hs=>c s (List.mem_of_mem_take hs);have f:(sC ((uq l).take k)).length<=42 * k:=by simp at hf;omega
  show jR (uq l) (a++sC ((uq l).take k)) (k:Int)=_;unfold jR;rw [if_pos (by simp only [decide_eq_true_eq];omega),bA rfl hx];simp only [bHp];rw [aFt _ _ (by omega) (by simp;omega)];simp only [bHp];rw [lt_,w64 (by omega) (by omega),List.take_add_one,hx];simp only [Option.toList_some];rw [aQc];simp) (by
  show jR (uq l) (a++sC ((uq l).take (uq l).length)) ((uq l).length:Int)=_;unfold jR;rw [if_neg (by simp),List.take_length])
 have e0:a++sC ((uq l).take 0)=a:=by simp [sC]
 rw [show ((a,0):List Int×Int)=(a++sC ((uq l).take 0),((0:Nat):Int)) by rw [e0];rfl,h];simp only [bHp];unfold rQ;have g:=aD1 (uq l) c;rw [aUn hl h32 (aZ6 l) (λs hs=>(aDo l s).2 hs) (by omega) (by simp;omega)];unfold uR;rw [d]
end
section
variable {l:List (List UInt8)} (hl:l.length<=4096)
include hl
end
theorem aR4 {s:List UInt8} (h:s.length<=32) (r:List Int):pT 32 (uv s.length++(stb s++r))=some (s,r):=by unfold pT;rw [show IntKind.u64.wrap 32=32 from nD (by omega) (by omega),aJs (by omega) _ (by omega)];simp only;rw [if_pos (by simp only [List.length_append,zG];omega),Int.toNat_natCast,List.take_left' (zG s),List.drop_left' (zG s),aW1]
theorem aJp:∀ (D acc:List (List UInt8)) (r:List Int),Up (acc++D)->(∀ s∈D,s.length<=32)->aEw acc D.length (sC D++r)=some (acc++D,r)
 | [],acc,r,_,_=>by simp [aEw,sC]
 | s::D,acc,r,hU,h32=>by
  have e:sC (s::D)++r=uv s.length++(stb s++(sC D++r)):=by show (uv s.length++stb s)++sC D++r=_;simp
  rw [e];show (match pT 32 (uv s.length++(stb s++(sC D++r))) with
   | some (t,q)=>if aJz acc t=true then aEw (acc++[t]) D.length q else none
   | none=>none)=_
  rw [aR4 (h32 s List.mem_cons_self)];have hr:aJz acc s=true:=by
   unfold aJz;cases hx:acc[acc.length - 1]? with
   | none=>rfl
   | some y=>exact hU.get (i:=acc.length - 1) (j:=acc.length) (by rw [List.getElem?_append_left (by have:=(List.getElem?_eq_some_iff.1 hx).1;omega),hx]) (by rw [List.getElem?_append_right (Nat.le_refl _),Nat.sub_self];rfl) (by have:=(List.getElem?_eq_some_iff.1 hx).1;omega)
  simp only [hr,if_true];rw [aJp D (acc++[s]) r (by simpa using hU) λx hx=>h32 x (List.mem_cons_of_mem _ hx)];simp
theorem aQs {l:List (List UInt8)} (hl:l.length<=4096) (h32:∀ s∈l,s.length<=32):aLi (uR l)=some l:=by
 have f:=aNf l;have b:=aZ6 l;have c:∀ s∈uq l,s.length<=32:=λs hs=>h32 s ((aDo l s).1 hs);have hs:∀ s∈l,s∈uq l:=λs hs=>(aDo l s).2 hs;have hi:=aEi hs (by omega);have hr:=aBt (l:=tJ (uq l) l) (by rw [zJ];omega) hi;have hp:aHp (gO (tJ (uq l) l))=some (tJ (uq l) l,[]):=by
  unfold wO at hr;split at hr
  ·rename_i m he;cases hr;exact he
  ·cases hr
 unfold aLi aJr uR;rw [List.append_assoc,aJs (by omega) _ (by omega)];simp only [Int.toNat_natCast];rw [aJp (uq l) [] _ (by simpa using b) c];simp only [List.nil_append,hp];rw [if_pos]
 ·simp only [Option.some.injEq];unfold tx tJ;rw [List.map_map];have key:∀ (m:List (List UInt8)),(∀ s∈m,s∈uq l)->m.map ((λi:Int=>(uq l).getD i.toNat []) ∘ λs=>((ix (uq l) s:Nat):Int))=m:=by
   intro m hm
   induction m with
   | nil=>rfl
   | cons s m ih =>
    rw [List.map_cons,ih λx hx=>hm x (List.mem_cons_of_mem _ hx)];congr 1;show (uq l).getD ((ix (uq l) s:Nat):Int).toNat []=s;rw [Int.toNat_natCast,List.getD_eq_getElem?_getD,aJg (hm s List.mem_cons_self)];rfl
  exact key l hs
 ·refine⟨?_,?_⟩
  ·unfold okI;rw [List.all_eq_true];intro x hx;unfold tJ at hx;obtain⟨s,hm,rfl⟩:=List.mem_map.1 hx;have:=aZm (hs s hm);simp only [decide_eq_true_eq];omega
  ·unfold usd;intro hf;obtain⟨j,d,e⟩:=List.mem_map.1 hf;have a:j<(uq l).length:=List.mem_range.1 d;refine absurd ?_ (of_decide_eq_false e);unfold tJ;have hm:(uq l)[j]'a∈l:=(aDo l _).1 (List.getElem_mem a);have hg:=aJg (hs _ hm);have:=b.nodup hg (List.getElem?_eq_getElem a);exact List.mem_map.2 ⟨_,hm,by rw [this]⟩
theorem aCt {m:List Int} (hi:I64 m):Bs (gO m):=by obtain⟨w,hw,e⟩:=aJd m;rw [e];exact bCc hw hi
theorem aNk:∀ U:List (List UInt8),Bs (sC U)
 | []=>Bs.nil
 | s::U=>((Bs.uv _).app (Bs.stb s)).app (aNk U)
theorem aTs {l:List (List UInt8)} (hl:l.length<=4096):Bs (uR l) :=
 ((Bs.uv _).app (aNk _)).app (aCt (aEi (λs hs=>(aDo l s).2 hs) (by have:=aNf l;omega)))
def qA (s:Nat):List Int:=[((s % 256:Nat):Int),((s / 256 % 256:Nat):Int),((s / 65536 % 256:Nat):Int),((s / 16777216 % 256:Nat):Int)]
theorem aF5 (s:Nat):Bs (qA s):=λx hx=>by simp [qA] at hx;omega
theorem rC (s:Nat):(qA s).length=4:=rfl
theorem aK6 {s:Nat} (h:s<4294967296) (r:List Int):aCs (qA s++r)=s:=by show aCs (((s % 256:Nat):Int)::((s / 256 % 256:Nat):Int)::((s / 65536 % 256:Nat):Int)::((s / 16777216 % 256:Nat):Int)::r)=s;rw [aMy];omega
def aAa (kind:Int) (b:List Int):List Int:=qA b.length++[kind]++b
def kC (kind:Int) (b:List Int):List Int:=aAa kind b++qA (crc (aAa kind b))
theorem aGy (kind:Int) (b:List Int):(aAa kind b).length=5+b.length:=by simp [aAa,rC];omega
theorem tD (kind:Int) (b:List Int):(kC kind b).length=9+b.length:=by simp [kC,aGy,rC];omega
theorem aOm {kind:Int} {b:List Int} (hk:0<=kind/\kind<256) (hB:Bs b):Bs (aAa kind b):=((aF5 _).app (Bs.mk hk Bs.nil)).app hB
theorem aDa {kind:Int} {b:List Int} (hk:0<=kind/\kind<256) (hB:Bs b):Bs (kC kind b):=(aOm hk hB).app (aF5 _)
theorem aGa {s:Nat} (hs:s<4294967296):zI (s:Int)=some (qA s):=by
 unfold zI qA;simp only [lt_];rw [show (8:Int)=((8:Nat):Int) from rfl,show (16:Int)=((16:Nat):Int) from rfl,show (24:Int)=((24:Nat):Int) from rfl,
  lD _ _ (by decide),lD _ _ (by decide),lD _ _ (by decide),yM,yM,yM,yM]
theorem aAt {p b:List Int} {kind:Int} (hk:0<=kind/\kind<256) (hB:Bs b) (hb:b.length<4294967000) (hp:p.length<1099511627776):xW p kind b=some (p++kC kind b):=by unfold xW;rw [lt_,xL,Nat.mod_eq_of_lt (by omega),aGa (by omega)];simp only [bHp];rw [show qA b.length++[kind]++b=aAa kind b from rfl];have hl:=aGy kind b;have a:=rC (crc (aAa kind b));rw [bH (by simp [rC]),bH (by simp [rC];omega),bH (by omega),aHq (aOm hk hB) (by omega)];simp only [bHp];rw [aGa (aP0 _)];simp only [bHp];rw [bH (by simp only [List.length_append];omega),List.append_assoc];rfl
theorem aCc {p b q:List Int} {kind:Int} (hb:b.length<=1048576):aBm (p++kC kind b++q) (p.length:Int)=(kind,b,((p.length+(kC kind b).length:Nat):Int),0):=by
 have a:(p++kC kind b++q).drop p.length=kC kind b++q:=by rw [List.append_assoc,List.drop_left]
 have hl:=aGy kind b;have c:=tD kind b;have hn:aCs (kC kind b++q)=b.length:=by show aCs (qA b.length++[kind]++b++qA (crc (aAa kind b))++q)=_;rw [List.append_assoc,List.append_assoc,List.append_assoc,aK6 (by omega)]
 have ht:(kC kind b++q).take (5+b.length)=aAa kind b:=by show (aAa kind b++qA (crc (aAa kind b))++q).take (5+b.length)=_;rw [List.append_assoc,List.take_left' hl]
 have hd:(kC kind b++q).drop (5+b.length)=qA (crc (aAa kind b))++q:=by show (aAa kind b++qA (crc (aAa kind b))++q).drop (5+b.length)=_;rw [List.append_assoc,List.drop_left' hl]
 unfold aBm;rw [if_neg (by simp only [List.length_append];omega),Int.toNat_natCast,a,hn,ht,hd,aK6 (aP0 _),if_neg (by simp only [List.length_append];omega),if_neg (by simp only [List.length_append];omega),if_pos rfl];refine Prod.ext ?_ (Prod.ext ?_ (Prod.ext ?_ rfl))
 ·rfl
 ·show (aAa kind b).drop 5=b;rfl
 ·show (p.length:Int)+(b.length:Int)+9=((p.length+(kC kind b).length:Nat):Int);rw [c];omega
def oT (l:List S61):List Int:=l.map λe=>IntKind.i64.wrap e.f0
def jS (l:List S61):List Int:=l.map λe=>e.f1
def jT (l:List S61):List Int:=l.map λe=>e.f2
def oH (l:List S61):List (List UInt8):=l.map λe=>e.f3
def nE (l:List S61):List Nat:=l.map λe=>e.f4
def tO (c:List Int):List Int:=uv c.length++c
def zS (l:List S61):List Int:=tO (gO (oT l))++(tO (gO (jS l))++(tO (gO (jT l))++(tO (uR (oH l))++tO (gO (rl (nE l))))))
def aSq (l:List S61):Prop:=∀ e∈l,(0<=e.f0/\e.f0<18446744073709551616)/\i64 e.f1/\i64 e.f2/\e.f3.length<=32/\e.f4<18446744073709551616
section
variable {l:List S61} (hl:l.length<=4096) (hL:aSq l)
theorem aF7:I64 (oT l):=λx hx=>by obtain⟨e,_,rfl⟩:=List.mem_map.1 hx;exact aC6 _
include hL
theorem aEf:I64 (jS l):=λx hx=>by obtain⟨e,he,rfl⟩:=List.mem_map.1 hx;exact (hL e he).2.1
theorem aEm:I64 (jT l):=λx hx=>by obtain⟨e,he,rfl⟩:=List.mem_map.1 hx;exact (hL e he).2.2.1
theorem aMr:∀ s∈oH l,s.length<=32:=λs hs=>by obtain⟨e,he,rfl⟩:=List.mem_map.1 hs;exact (hL e he).2.2.2.1
theorem aYi:∀ x∈nE l,x<18446744073709551616:=λx hx=>by obtain⟨e,he,rfl⟩:=List.mem_map.1 hx;exact (hL e he).2.2.2.2
omit hL
theorem xS {m:List Int} (hm:m.length<=4096) (hi:I64 m):(gO m).length<=11+10 * m.length:=by
 have a:=aU9 m (w:=0) (by decide);have b:=aMt hi;have c:=aP (n:=m.length) (by omega);have e:(asL 0 m).length=1+(uv m.length).length+(b0 m).length:=by show ((0:Int)::(uv m.length++b0 m)).length=_;simp;omega
 omega
theorem aNe {m:List (List UInt8)} (hm:m.length<=4096) (h32:∀ s∈m,s.length<=32):(uR m).length<=21+52 * m.length:=by have b:=aNf m;have c:=aD1 (uq m) λs hs=>h32 s ((aDo m s).1 hs);have d:=aP (n:=(uq m).length) (by omega);have a:=xS (m:=tJ (uq m) m) (by rw [zJ];omega) (aEi (λs hs=>(aDo m s).2 hs) (by omega));rw [zJ] at a;unfold uR;simp only [List.length_append];omega
theorem aBl {c:List Int} (h:c.length<18446744073709551616):(tO c).length<=10+c.length:=by have:=aP h;unfold tO;simp;omega
theorem xK {c:List Int} (h:Bs c):Bs (tO c):=(Bs.uv _).app h
include hl hL
theorem aIv:(gO (oT l)).length<=11+10 * l.length/\(gO (jS l)).length<=11+10 * l.length/\(gO (jT l)).length<=11+10 * l.length/\(uR (oH l)).length<=21+52 * l.length/\(gO (rl (nE l))).length<=11+10 * l.length:=by
 have e0:(oT l).length=l.length:=by simp [oT]
 have e:(jS l).length=l.length:=by simp [jS]
 have f:(jT l).length=l.length:=by simp [jT]
 have g:(oH l).length=l.length:=by simp [oH]
 have h:(rl (nE l)).length=l.length:=by rw [aEj];simp [nE]
 have h0:=xS (m:=oT l) (by omega) aF7;have a:=xS (m:=jS l) (by omega) (aEf hL);have b:=xS (m:=jT l) (by omega) (aEm hL);have c:=aNe (m:=oH l) (by omega) (aMr hL);have d:=xS (m:=rl (nE l)) (by omega) (aM7 _);rw [e0] at h0;rw [e] at a;rw [f] at b;rw [g] at c;rw [h] at d;exact⟨h0,a,b,c,d⟩
theorem aH4:Bs (gO (oT l))/\Bs (gO (jS l))/\Bs (gO (jT l))/\Bs (uR (oH l))/\Bs (gO (rl (nE l))) :=
 ⟨aCt aF7,aCt (aEf hL),aCt (aEm hL),aTs (by simp [oH];omega),aCt (aM7 _)⟩
theorem aGr:(zS l).length<=115+92 * l.length:=by obtain⟨h0,a,b,d,e⟩:=aIv hl hL;have f:=aBl (c:=gO (oT l)) (by omega);have g:=aBl (c:=gO (jS l)) (by omega);have h:=aBl (c:=gO (jT l)) (by omega);have i:=aBl (c:=uR (oH l)) (by omega);have j:=aBl (c:=gO (rl (nE l))) (by omega);unfold zS;simp only [List.length_append];omega
theorem aUg:Bs (zS l):=by obtain⟨h0,a,b,c,d⟩:=aH4 hl hL;exact (xK h0).app ((xK a).app ((xK b).app ((xK c).app (xK d))))
theorem aJq {c:List Int} (hB:Bs c) (h:c.length<=1048576) (r:List Int):pT 1048576 (tO c++r)=some (bts c,r):=by unfold pT tO;rw [show IntKind.u64.wrap 1048576=1048576 from nD (by omega) (by omega),List.append_assoc,aJs (by omega) _ (by omega)];simp only;rw [if_pos (by simp only [List.length_append];omega),Int.toNat_natCast,List.take_left' rfl,List.drop_left' rfl]
theorem aVr:pTx 5 (zS l)=some ([bts (gO (oT l)),bts (gO (jS l)),bts (gO (jT l)),bts (uR (oH l)),bts (gO (rl (nE l)))],[]):=by obtain⟨h0,d,e,f,g⟩:=aIv hl hL;obtain⟨b0,b1,b2,b,c⟩:=aH4 hl hL;unfold zS;have a:=aJq hl hL c (by omega) [];rw [List.append_nil] at a;simp only [pTx,aJq hl hL b0 (by omega),aJq hl hL b1 (by omega),aJq hl hL b2 (by omega),aJq hl hL b (by omega),a]
end
def dE (e:S61):S61:=⟨e.f0,e.f1,e.f2,e.f3,kU e.f4⟩
theorem aLk (s:Int):∀ (l:List S61),(∀ e∈l,0<=e.f0/\e.f0<18446744073709551616) ->
  aEz s (oT l) (jS l) (jT l) (oH l) ((nE l).map kU)=if l.all (λe=>qT e s)=true then some (l.map dE) else none
 | [],_=>rfl
 | e::l,h=>by
  have ih:=aLk s l λx hx=>h x (List.mem_cons_of_mem _ hx);have h0:=h e List.mem_cons_self;have hw:IntKind.u64.wrap (IntKind.i64.wrap e.f0)=e.f0:=by rw [IntKind.wrap_u64,IntWalk.i64_left];unfold wrap64;omega
  show aEz s (IntKind.i64.wrap e.f0::oT l) (e.f1::jS l) (e.f2::jT l) (e.f3::oH l) (kU e.f4::(nE l).map kU)=_;unfold aEz;rw [hw,ih,show (⟨e.f0,e.f1,e.f2,e.f3,kU e.f4⟩:S61)=dE e from rfl,show qT (dE e) s=qT e s from rfl,List.all_cons];cases qT e s with
  | false=>rfl
  | true =>
   rw [if_pos rfl,Bool.true_and];cases l.all λe=>qT e s <;> rfl
theorem aUz {l:List S61} (hl:l.length<=4096) (hL:aSq l) (s:Int) :
  evL s (bts (gO (oT l))) (bts (gO (jS l))) (bts (gO (jT l))) (bts (uR (oH l))) (bts (gO (rl (nE l))))=if l.all (λe=>qT e s)=true then some (l.map dE) else none:=by
 obtain⟨b0,b1,b2,a,b⟩:=aH4 hl hL;unfold evL;rw [aEk b0,aEk b1,aEk b2,aEk a,aEk b,aBt (by simp [oT];omega) aF7,aBt (by simp [jS];omega) (aEf hL),aBt (by simp [jT];omega) (aEm hL),
  aQs (by simp [oH];omega) (aMr hL),show aO7 (gO (rl (nE l)))=some ((nE l).map kU) by
   unfold aO7;rw [aBt (by rw [aEj];simp [nE];omega) (aM7 _)];exact aQt (aYi hL)]
 simp only;rw [if_pos (by simp [oT,jS,jT,oH,nE]),aLk s l λe he=>(hL e he).1]
theorem aU1 {l:List S61} (hl:l.length<=4096) (hL:aSq l) (s:Int) (p q:List Int) :
  evR (p++kC 101 (zS l)++q) (p.length:Int) s=if l.all (λe=>qT e s)=true then (l.map dE,((p.length+(kC 101 (zS l)).length:Nat):Int),0) else ([],0,3):=by
 have hb:=aGr hl hL;unfold evR;rw [aCc (by omega)];simp only;rw [if_neg (by simp),if_neg (by simp),aVr hl hL];simp only;rw [aUz hl hL s];cases l.all λe=>qT e s <;> rfl
theorem aNq {l:List S61} (hl:l.length<=4096):∀ (m k:Nat),k+m=l.length ->
  loop (λs:List Int×List Int×List Int×List (List UInt8)×List Nat×Int=>oA l s.1 s.2.1 s.2.2.1 s.2.2.2.1 s.2.2.2.2.1 s.2.2.2.2.2) (oT (l.take k),jS (l.take k),jT (l.take k),oH (l.take k),nE (l.take k),(k:Int))=some (oT l,jS l,jT l,oH l,nE l)
 | 0,k,hk=>by rw [List.take_of_length_le (by omega)];refine bE ?_;show oA l (oT l) (jS l) (jT l) (oH l) (nE l) (k:Int)=_;unfold oA;rw [if_neg (by simp only [decide_eq_true_eq];omega)]
 | m+1,k,hk=>by
  have hx:=List.getElem?_eq_getElem (l:=l) (i:=k) (by omega);have ht:l.take (k+1)=l.take k++[l[k]'(by omega)]:=by rw [List.take_add_one,hx];rfl
  have ih:=aNq hl m (k+1) (by omega);rw [ht] at ih;have e0:(oT (l.take k)).length=k:=by simp [oT];omega
  have a:(jS (l.take k)).length=k:=by simp [jS];omega
  have b:(jT (l.take k)).length=k:=by simp [jT];omega
  have c:(oH (l.take k)).length=k:=by simp [oH];omega
  have d:(nE (l.take k)).length=k:=by simp [nE];omega
  refine (bZ ?_).trans ih;show oA l (oT (l.take k)) (jS (l.take k)) (jT (l.take k)) (oH (l.take k)) (nE (l.take k)) (k:Int)=_;unfold oA zA yZ;rw [if_pos (by simp only [decide_eq_true_eq];omega),bA rfl hx];simp only [bHp,lt_];rw [bH (by simp;omega),bH (by simp;omega),bH (by simp;omega),bH (by simp;omega),bH (by simp;omega),w64 (n:=(k:Int)+1) (by omega) (by omega)];simp only [oT,jS,jT,oH,nE,List.map_append,List.map_cons,List.map_nil];rfl
theorem aT5 {c p:List Int} (hB:Bs c) (hc:c.length<=1048576) (hp:p.length<=100000000):nW p (bts c)=some (p++tO c):=by
 have a:(bts c).length=c.length:=by simp [bts]
 rw [aFt _ _ (by omega) (by omega),aEk hB,a,List.append_assoc];rfl
theorem aMd {l:List S61} (hl:l.length<=4096) (hL:aSq l) {p:List Int} (hp:p.length<1099511627776):aBg p l=some (p++kC 101 (zS l)):=by
 obtain⟨h0,i,j,m,n⟩:=aIv hl hL;obtain⟨b0,b1,b2,a,b⟩:=aH4 hl hL;have hb:=aGr hl hL;unfold aBg;have hc:=aNq hl l.length 0 (by omega);rw [show ((0:Nat):Int)=0 from rfl] at hc;rw [show (([],[],[],[],[],0):List Int×List Int×List Int×List (List UInt8)×List Nat×Int)=(oT (l.take 0),jS (l.take 0),jT (l.take 0),oH (l.take 0),nE (l.take 0),0) from rfl,hc];simp only [bHp];unfold vY yX;rw [aC2 (by simp [oT];omega) aF7];simp only [bHp];rw [aC2 (by simp [jS];omega) (aEf hL)];simp only [bHp];rw [aC2 (by simp [jT];omega) (aEm hL)];simp only [bHp];rw [aSu (by simp [oH];omega) (aMr hL)];simp only [bHp];rw [aSr (by simp [nE];omega)];simp only [bHp];have eb:zS l=tO (gO (oT l))++(tO (gO (jS l))++(tO (gO (jT l))++(tO (uR (oH l))++tO (gO (rl (nE l)))))):=rfl;rw [eb];clear eb hc hb;generalize gO (oT l)=c0 at *;generalize gO (jS l)=c1 at *;generalize gO (jT l)=c2 at *;generalize uR (oH l)=c3 at *;generalize gO (rl (nE l))=c4 at *;have st:∀ (k:Nat) (c acc:List Int),([c0,c1,c2,c3,c4]:List (List Int))[k]?=some c->Bs c->c.length<=1048576->acc.length<=100000000->nZ c0 c1 c2 c3 c4 acc (k:Int)=some (.inl (acc++tO c,((k+1:Nat):Int))):=by
  intro k c acc hg hB d e;have o:k<5:=by have:=(List.getElem?_eq_some_iff.1 hg).1;simpa using this
  unfold nZ;rw [if_pos (by simp only [decide_eq_true_eq,List.length_cons,List.length_nil];omega),bA rfl hg];simp only [bHp];rw [aT5 hB d e];simp only [bHp];rw [lt_,w64 (by omega) (by omega)];rfl
 have ol:∀ c:List Int,c.length<=1048576->(tO c).length<=1048586:=λc h=>by have:=aBl (c:=c) (by omega);omega
 have q:=ol c0 (by omega);have r:=ol c1 (by omega);have t:=ol c2 (by omega);have u:=ol c3 (by omega);have f:loop (λs:List Int×Int=>nZ c0 c1 c2 c3 c4 s.1 s.2) ([],0)=some (((([]++tO c0)++tO c1)++tO c2)++tO c3++tO c4):=by refine (bZ (st 0 c0 [] rfl b0 (by omega) (by simp))).trans ?_;refine (bZ (st 1 c1 _ rfl b1 (by omega) (by simp;omega))).trans ?_;refine (bZ (st 2 c2 _ rfl b2 (by omega) (by simp;omega))).trans ?_;refine (bZ (st 3 c3 _ rfl a (by omega) (by simp;omega))).trans ?_;refine (bZ (st 4 c4 _ rfl b (by omega) (by simp;omega))).trans ?_;refine bE ?_;show nZ c0 c1 c2 c3 c4 _ ((4+1:Nat):Int)=_;unfold nZ;rw [if_neg (by simp)]
 rw [f];simp only [bHp];unfold vX yY;have g:((([]++tO c0)++tO c1)++tO c2)++tO c3++tO c4=tO c0++(tO c1++(tO c2++(tO c3++tO c4))):=by simp
 rw [g];have v:=ol c4 (by omega);rw [aAt (by decide) ((xK b0).app ((xK b1).app ((xK b2).app ((xK a).app (xK b))))) (by simp only [List.length_append];omega) hp];rfl
theorem aVx (x:S61) (k:Int):aGe x k=some (qT x k):=aL2 x k
theorem aSs (e:S61):aDh (dE e) e=some true:=by unfold aDh dE;simp only [beq_self_eq_true,if_true];rw [aVy,xR];simp
theorem aL3 (l:List S61) (h:l.length<2 ^ 62):xZ (l.map dE) l=some true:=by
 unfold xZ;rw [if_neg (by simp)];have:=jJ (b:=λs=>pS (l.map dE) l s) (λk=>(k:Int)) (t:=.inl ()) l.length (λk hk=>by
  have hx:l[k]?=some (l[k]'hk):=List.getElem?_eq_getElem hk;have a:(l.map dE)[k]?=some (dE (l[k]'hk)):=by rw [List.getElem?_map,hx];rfl
  unfold pS;rw [if_pos (by simp;omega),bA rfl a,bA rfl hx];simp only [bHp,aSs];rw [if_neg (by simp),w64 (by omega) (by omega)];rfl) (by
  unfold pS;rw [if_neg (by simp)])
 rw [show (0:Int)=((0:Nat):Int) from rfl,this];rfl
def ckF (c:S90) (e:S61):S90:=⟨c.f0,c.f1,if e.f0<c.f2 then e.f0 else c.f2,if c.f3<e.f0 then e.f0 else c.f3,if e.f2<c.f4 then e.f2 else c.f4,if c.f5<e.f2 then e.f2 else c.f5,
  if Op.bytesLess c.f6 e.f3||c.f6==e.f3 then c.f6 else e.f3,if Op.bytesLess c.f7 e.f3=true then e.f3 else c.f7⟩
def ck0 (l:List S61) (a:Int) (e:S61):S90:=⟨(l.length:Int),a,e.f0,e.f0,e.f2,e.f2,e.f3,e.f3⟩
def ckL (l:List S61) (a:Int):S90:=match l with
 | []=>⟨0,a,0,0,0,0,[],[]⟩
 | e::_=>l.foldl ckF (ck0 l a e)
theorem aUj (l:List S61) (c:S90):(l.foldl ckF c).f0=c.f0/\(l.foldl ckF c).f1=c.f1:=by
 induction l generalizing c with
 | nil=>exact⟨rfl,rfl⟩
 | cons e l ih=>exact ih (ckF c e)
theorem aPx (l:List S61) (a:Int):(ckL l a).f0=(l.length:Int)/\(ckL l a).f1=a:=by
 unfold ckL;cases l with
 | nil=>exact⟨rfl,rfl⟩
 | cons e l=>exact aUj _ _
theorem aFa {α β:Type} (f:β->α->β) (b:β) {l:List α} {k:Nat} {x:α} (h:l[k]?=some x):(l.take (k+1)).foldl f b=f ((l.take k).foldl f b) x:=by rw [List.take_add_one,h,List.foldl_append];rfl
theorem aN2 {l:List S61} (h:0<l.length) (hl:l.length<4611686018427387904) (a:Int):rE l a=some (ckL l a):=by
 cases l with
 | nil=>simp at h
 | cons e r =>
  obtain⟨m,hm⟩:∃ m,m=e::r:=⟨_,rfl⟩;rw [← hm] at hl ⊢;have h0:at_ m 0=some e:=by subst hm;rfl
  unfold rE;rw [h0];simp only [bHp];have hk:=jJ (b:=λs:Int×Int×Int×Int×List UInt8×List UInt8×Int=>iO m s.1 s.2.1 s.2.2.1 s.2.2.2.1 s.2.2.2.2.1 s.2.2.2.2.2.1 s.2.2.2.2.2.2)
   (λk=>(((m.take k).foldl ckF (ck0 m a e)).f2,((m.take k).foldl ckF (ck0 m a e)).f3,((m.take k).foldl ckF (ck0 m a e)).f4,((m.take k).foldl ckF (ck0 m a e)).f5,((m.take k).foldl ckF (ck0 m a e)).f6,((m.take k).foldl ckF (ck0 m a e)).f7,(k:Int)))
   (t:=((m.foldl ckF (ck0 m a e)).f2,(m.foldl ckF (ck0 m a e)).f3,(m.foldl ckF (ck0 m a e)).f4,(m.foldl ckF (ck0 m a e)).f5,(m.foldl ckF (ck0 m a e)).f6,(m.foldl ckF (ck0 m a e)).f7)) m.length (λk hk=>by
    have hx:=List.getElem?_eq_getElem (l:=m) (i:=k) hk;show iO m _ _ _ _ _ _ (k:Int)=_;unfold iO;rw [if_pos (by simp only [decide_eq_true_eq];omega),bA rfl hx];simp only [bHp,lt_];rw [w64 (by omega) (by omega),aFa ckF _ hx];rfl) (by
    show iO m _ _ _ _ _ _ ((m.length:Nat):Int)=_;unfold iO;rw [if_neg (by simp only [decide_eq_true_eq];omega),List.take_length])
  have e0:ckL m a=m.foldl ckF (ck0 m a e):=by subst hm;rfl
  refine (congrArg (λo:Option (Int×Int×Int×Int×List UInt8×List UInt8)=>o.bind λt=>mR m a t.1 t.2.1 t.2.2.1 t.2.2.2.1 t.2.2.2.2.1 t.2.2.2.2.2) hk).trans ?_;unfold mR tH;simp only [bHp];obtain⟨d,f⟩:=aUj m (ck0 m a e);rw [e0];generalize m.foldl ckF (ck0 m a e)=c at d f ⊢;obtain⟨g,c1,c2,c3,j,n,p,q⟩:=c;simp only [ck0] at d f;subst d;subst f;rfl
def ckB (c:S90):List Int:=uv c.f0.toNat++(uv c.f1.toNat++(uv c.f2.toNat++(uv c.f3.toNat++(uv (zz c.f4)++(uv (zz c.f5)++(uv c.f6.length++(stb c.f6++(uv c.f7.length++stb c.f7))))))))
def pgL (c:List S61):List Int:=kC 101 (zS c)
def bV (cs:List (List S61)):List Int:=cs.flatMap pgL
def fT:List (List S61)->Nat->List S90
 | [],_=>[]
 | c::r,a=>ckL c (a:Int)::fT r (a+(pgL c).length)
def wC (k:Nat) (cs:List S90):List Int:=uv k++(uv cs.length++cs.flatMap ckB)
def yL (l:List S61) (k:Nat):List Int:=bV (pcs 64 l)++kC 102 (wC k (fT (pcs 64 l) 0))++kC 116 (qA (bV (pcs 64 l)).length)
def Gd (e:S61):Prop:=(0<=e.f0/\e.f0<18446744073709551616)/\e.f4<18446744073709551616
theorem bD4 {l:List S61} (h:gL 48 g61 l):∀ e∈l,Gd e:=λe he=>by obtain⟨a,c,d,f,b⟩:=h.2 e he;unfold gI Lit.wf at a;simp only [Bool.and_eq_true,decide_eq_true_eq] at a;refine⟨⟨a.1,Int.lt_of_le_of_lt a.2 (by decide)⟩,?_⟩;unfold gF Lit.wf at b;simpa using b
structure Run (k a:Int) (l:List S61):Prop where
 fm:∀ e∈l,qT e k=true
 gd:∀ e∈l,Gd e
 of:∀ (i:Nat) (x:S61),l[i]?=some x->x.f0=a+i
theorem xJ {e:S61} {k:Int} (h:qT e k=true):0<=e.f1/\e.f1<k /\ -1099511627776<=e.f2/\e.f2<=1099511627776/\e.f3.length<=32/\e.f0<1099511627776:=by unfold qT at h;simp only [Bool.and_eq_true,decide_eq_true_eq] at h;omega
section
variable {k a:Int} {l:List S61}
theorem Run.laid (h:Run k a l) (hk:k<=8):aSq l:=λe he=>by have d:=xJ (h.fm e he);obtain⟨b,c⟩:=h.gd e he;unfold i64;exact⟨b,by omega,by omega,by omega,c⟩
theorem Run.drop (h:Run k a l) (n:Nat):Run k (a+n) (l.drop n) :=
 ⟨λe he=>h.fm e (List.mem_of_mem_drop he),λe he=>h.gd e (List.mem_of_mem_drop he),λi x hx=>by
  rw [List.getElem?_drop] at hx;have:=h.of _ x hx;omega⟩
theorem Run.take (h:Run k a l) (n:Nat):Run k a (l.take n) :=
 ⟨λe he=>h.fm e (List.mem_of_mem_take he),λe he=>h.gd e (List.mem_of_mem_take he),λi x hx=>by
  rw [List.getElem?_take] at hx;split at hx
  ·exact h.of _ x hx
  ·cases hx⟩
end
def flt (k a:Int):List S61->Nat->Option Int
 | [],_=>none
 | e::r,i=>if qT e k=true then (if e.f0=a+i then flt k a r (i+1) else some 8) else some 3
theorem aRs {k a:Int}:∀ {l:List S61} {i:Nat},flt k a l i=none->(∀ e∈l,Gd e)->Run k (a+i) l
 | [],i,_,_=>⟨λe he=>(by cases he),λe he=>(by cases he),λi x hx=>(by simp at hx)⟩
 | e::r,i,h,hg=>by
  unfold flt at h;split at h
  ·rename_i hf;split at h
   ·rename_i h0;have ih:=aRs h λx hx=>hg x (List.mem_cons_of_mem _ hx);refine⟨λx hx=>?_,hg,λj x hx=>?_⟩
    ·rcases List.mem_cons.1 hx with rfl | hx
     ·exact hf
     ·exact ih.fm x hx
    ·cases j with
     | zero=>simp at hx;subst hx;simpa using h0
     | succ j =>
      have:=ih.of j x (by simpa using hx);omega
   ·cases h
  ·cases h
theorem aOk {k a:Int}:∀ {l:List S61} {i:Nat},Run k (a+i) l->flt k a l i=none
 | [],i,_=>rfl
 | e::r,i,h=>by unfold flt;have h0:=h.of 0 e rfl;rw [if_pos (h.fm e List.mem_cons_self),if_pos (by simpa using h0)];refine aOk ⟨λx hx=>h.fm x (List.mem_cons_of_mem _ hx),λx hx=>h.gd x (List.mem_cons_of_mem _ hx),λj x hx=>?_⟩;have:=h.of (j+1) x (by simpa using hx);omega
section
variable {k:Int} {l:List S61} {e0:S61} (hg:∀ e∈l,Gd e) (h0:l[0]?=some e0) (hlen:l.length<=1024)
include hg h0 hlen
theorem aSg:∀ (m i:Nat),i+m=l.length->(i=0\/e0.f0<1099511627776) ->
  loop (λs:Int=>iN l k s) (i:Int)=some (match flt k e0.f0 (l.drop i) i with | none=>.inl () | some c=>.inr ([],c))
 | 0,i,hi,_=>by rw [List.drop_of_length_le (by omega)];refine bE ?_;show iN l k (i:Int)=_;unfold iN;rw [if_neg (by simp only [decide_eq_true_eq];omega)];rfl
 | m+1,i,hi,hs=>by
  have a:i<l.length:=by omega
  have hx:=List.getElem?_eq_getElem (l:=l) (i:=i) a;obtain⟨⟨b,d⟩,e⟩:=hg _ (List.getElem_mem a);obtain⟨⟨f,g⟩,j⟩:=hg e0 (List.mem_of_getElem? h0);rw [List.drop_eq_getElem_cons a];have hl:iN l k (i:Int)=if qT l[i] k=true then (if l[i].f0=e0.f0+i then some (.inl ((i+1:Nat):Int)) else some (.inr (.inr ([],8)))) else some (.inr (.inr ([],3))):=by
   unfold iN;rw [if_pos (by simp only [decide_eq_true_eq];omega),bA rfl hx];simp only [bHp,lt_];rw [aL2];simp only [bHp];cases hf:qT l[i] k with
   | false=>rfl
   | true =>
    have o:=xJ hf;rw [if_neg (by simp),show at_ l 0=some e0 from h0];simp only [bHp];have hw:IntKind.u64.wrap (e0.f0+IntKind.u64.wrap (i:Int))=e0.f0+i\/i=0:=by
     rcases hs with h | h
     ·exact .inr h
     ·left;rw [nD (n:=(i:Int)) (by omega) (by omega),nD (by omega) (by omega)]
    have hw:IntKind.u64.wrap (e0.f0+IntKind.u64.wrap (i:Int))=e0.f0+i:=by
     rcases hw with h | h
     ·exact h
     ·subst h;rw [nD (n:=((0:Nat):Int)) (by omega) (by omega),nD (by omega) (by omega)]
    rw [hw];by_cases he:l[i].f0=e0.f0+i
    ·rw [if_neg (by simpa using he),if_pos trivial,if_pos he,w64 (by omega) (by omega)];rfl
    ·rw [if_pos (by simpa using he),if_pos trivial,if_neg he]
  unfold flt;by_cases hf:qT l[i] k=true
  ·rw [if_pos hf] at hl ⊢;by_cases he:l[i].f0=e0.f0+i
   ·rw [if_pos he] at hl ⊢;refine (bZ hl).trans (aSg m (i+1) (by omega) ?_);have:=xJ hf;right;omega
   ·rw [if_neg he] at hl ⊢;exact bE hl
  ·rw [if_neg hf] at hl ⊢;exact bE hl
end
theorem bBl {α:Type} {q:Nat} (a:1<=q) (xs:List α) (k:Nat):(pcs q xs)[k]?=if k * q<xs.length then some ((xs.drop (k * q)).take q) else none:=by
 split
 ·rename_i h;exact aIb a h
 ·rename_i h;rw [List.getElem?_eq_none];rw [aCd];have:=(aBo (m:=xs.length) (k:=k) a);omega
structure Cut (k:Int) (c:List S61):Prop where
 ps:0<c.length
 le:c.length<=64
 run:∃ a:Int,0<=a/\a+c.length<=1099511627776/\Run k a c
theorem Run.cut {k a:Int} {l:List S61} (h:Run k a l) (d:0<=a/\(0<l.length->a+l.length<=1099511627776)):∀ c∈pcs 64 l,Cut k c:=by
 intro c hc;obtain⟨j,b⟩:=List.getElem?_of_mem hc;rw [bBl (by decide)] at b;split at b
 ·rename_i e;cases b;have hr:=(h.drop (j * 64)).take 64;have:=d.2 (by omega);exact⟨by simp;omega,by simp;omega,a+(j * 64:Nat),by omega,by simp only [List.length_take,List.length_drop];omega,hr⟩
 ·cases b
theorem aMn:∀ (l:List S61) (c:S90),((l.foldl ckF c).f2<=c.f2/\∀ e∈l,(l.foldl ckF c).f2<=e.f0)/\(c.f3<=(l.foldl ckF c).f3/\∀ e∈l,e.f0<=(l.foldl ckF c).f3)/\((l.foldl ckF c).f4<=c.f4/\∀ e∈l,(l.foldl ckF c).f4<=e.f2)/\(c.f5<=(l.foldl ckF c).f5/\∀ e∈l,e.f2<=(l.foldl ckF c).f5)
 | [],c=>by simp
 | x::l,c=>by
  obtain⟨⟨b,a2⟩,⟨b1,b2⟩,⟨c1,c2⟩,d,a⟩:=aMn l (ckF c x);simp only [List.foldl_cons];generalize l.foldl ckF (ckF c x)=z at *;have f:(ckF c x).f2<=c.f2/\(ckF c x).f2<=x.f0:=by show (if x.f0<c.f2 then x.f0 else c.f2)<=_/\(if x.f0<c.f2 then x.f0 else c.f2)<=_;split <;> omega
  have g:c.f3<=(ckF c x).f3/\x.f0<=(ckF c x).f3:=by show _<=(if c.f3<x.f0 then x.f0 else c.f3)/\_<=(if c.f3<x.f0 then x.f0 else c.f3);split <;> omega
  have h:(ckF c x).f4<=c.f4/\(ckF c x).f4<=x.f2:=by show (if x.f2<c.f4 then x.f2 else c.f4)<=_/\(if x.f2<c.f4 then x.f2 else c.f4)<=_;split <;> omega
  have i:c.f5<=(ckF c x).f5/\x.f2<=(ckF c x).f5:=by show _<=(if c.f5<x.f2 then x.f2 else c.f5)/\_<=(if c.f5<x.f2 then x.f2 else c.f5);split <;> omega
  refine⟨⟨by omega,λe he=>?_⟩,⟨by omega,λe he=>?_⟩,⟨by omega,λe he=>?_⟩,by omega,λe he=>?_⟩ <;> rcases List.mem_cons.1 he with rfl | he
  ·omega
  ·exact a2 e he
  ·omega
  ·exact b2 e he
  ·omega
  ·exact c2 e he
  ·omega
  ·exact a e he
theorem aIa (p2 a:Int->Prop) (b:List UInt8->Prop):∀ (l:List S61) (c:S90),(p2 c.f2/\p2 c.f3)/\(a c.f4/\a c.f5)/\(b c.f6/\b c.f7)->(∀ e∈l,p2 e.f0/\a e.f2/\b e.f3) ->
  (p2 (l.foldl ckF c).f2/\p2 (l.foldl ckF c).f3)/\(a (l.foldl ckF c).f4/\a (l.foldl ckF c).f5)/\(b (l.foldl ckF c).f6/\b (l.foldl ckF c).f7)
 | [],c,h,_=>h
 | x::l,c,h,hl=>by
  obtain⟨d,f,g⟩:=hl x List.mem_cons_self;refine aIa p2 a b l (ckF c x) ?_ λe he=>hl e (List.mem_cons_of_mem _ he);obtain⟨⟨i,j⟩,⟨k,m⟩,n,o⟩:=h;refine⟨⟨?_,?_⟩,⟨?_,?_⟩,?_,?_⟩
  ·show p2 (if x.f0<c.f2 then x.f0 else c.f2);split <;> assumption
  ·show p2 (if c.f3<x.f0 then x.f0 else c.f3);split <;> assumption
  ·show a (if x.f2<c.f4 then x.f2 else c.f4);split <;> assumption
  ·show a (if c.f5<x.f2 then x.f2 else c.f5);split <;> assumption
  ·show b (if (Op.bytesLess c.f6 x.f3||c.f6==x.f3)=true then c.f6 else x.f3);split <;> assumption
  ·show b (if Op.bytesLess c.f7 x.f3=true then x.f3 else c.f7);split <;> assumption
structure CkOk (c:S90):Prop where
 r0:0<c.f0/\c.f0<=64
 r1:0<=c.f1
 r2:0<=c.f2/\c.f2<=c.f3/\c.f3<1099511627776/\c.f3 - c.f2=c.f0 - 1
 r4:(-1099511627776<=c.f4/\c.f4<=1099511627776)/\(-1099511627776<=c.f5/\c.f5<=1099511627776)
 r6:c.f6.length<=32/\c.f7.length<=32
theorem aJ1 {k a:Int} {c:List S61} (h:Run k a c) (hc:0<c.length):∃ x y,c[0]?=some x/\c[c.length - 1]?=some y/\x.f0=a/\y.f0=a+c.length - 1/\x∈c/\y∈c:=by have hx:=List.getElem?_eq_getElem (l:=c) (i:=0) hc;have b:=List.getElem?_eq_getElem (l:=c) (i:=c.length - 1) (by omega);have d:=h.of 0 _ hx;have e:=h.of _ _ b;exact⟨_,_,hx,b,by omega,by omega,List.getElem_mem _,List.getElem_mem _⟩
theorem aL9 {k a:Int} {c:List S61} (h:Run k a c) (hc:0<c.length) (p:Int):(ckL c p).f2=a/\(ckL c p).f3=a+c.length - 1:=by
 obtain⟨x,y,hx,b,ex,ey,mx,my⟩:=aJ1 h hc;have e:ckL c p=c.foldl ckF (ck0 c p x):=by
  cases c with
  | nil=>simp at hc
  | cons z c=>simp at hx;subst hx;rfl
 rw [e];obtain⟨⟨d,a2⟩,⟨b1,b2⟩,_⟩:=aMn c (ck0 c p x);have hi:=aIa (λv=>a<=v/\v<=a+c.length - 1) (λ_=>True) (λ_=>True) c (ck0 c p x) ⟨⟨by show a<=x.f0/\x.f0<=a+c.length - 1;omega,by show a<=x.f0/\x.f0<=a+c.length - 1;omega⟩,⟨trivial,trivial⟩,trivial,trivial⟩ λe he=>⟨by
  obtain⟨i,hi⟩:=List.getElem?_of_mem he;have:=h.of i e hi;have:=(List.getElem?_eq_some_iff.1 hi).1;omega,trivial,trivial⟩
 have f:=a2 x mx;have g:=b2 y my;omega
theorem Cut.ok {k:Int} {c:List S61} (h:Cut k c) {p:Int} (hp:0<=p):CkOk (ckL c p):=by
 obtain⟨a,h0,d,hr⟩:=h.run;have b:=h.ps;have hle:=h.le;obtain⟨f,g⟩:=aL9 hr h.ps p;obtain⟨e0,i⟩:=aPx c p;obtain⟨x,y,hx,j,ex,ey,mx,my⟩:=aJ1 hr h.ps;have e:ckL c p=c.foldl ckF (ck0 c p x):=by
  cases c with
  | nil=>simp at b
  | cons z c=>simp at hx;subst hx;rfl
 have hf:∀ e∈c,(-1099511627776<=e.f2/\e.f2<=1099511627776)/\e.f3.length<=32:=λe he=>by have:=xJ (hr.fm e he);omega
 have hi:=aIa (λ_=>True) (λv => -1099511627776<=v/\v<=1099511627776) (λs=>s.length<=32) c (ck0 c p x) ⟨⟨trivial,trivial⟩,⟨(hf x mx).1,(hf x mx).1⟩,(hf x mx).2,(hf x mx).2⟩ λe he=>⟨trivial,(hf e he).1,(hf e he).2⟩;rw [← e] at hi;exact⟨by omega,by omega,by omega,hi.2.1,hi.2.2⟩
theorem CkOk.len {c:S90} (h:CkOk c) (a:c.f1<18446744073709551616):(ckB c).length<=144:=by
 obtain⟨a0,b,a2,a4,d⟩:=h;have e:=aP (n:=c.f0.toNat) (by omega);have f:=aP (n:=c.f1.toNat) (by omega);have g:=aP (n:=c.f2.toNat) (by omega);have i:=aP (n:=c.f3.toNat) (by omega);have j:=aP (n:=zz c.f4) (yD (by unfold i64;omega));have k:=aP (n:=zz c.f5) (yD (by unfold i64;omega));have l:=aP (n:=c.f6.length) (by omega);have m:=aP (n:=c.f7.length) (by omega);have o:(stb c.f6).length=c.f6.length:=by simp [stb]
 have p:(stb c.f7).length=c.f7.length:=by simp [stb]
 unfold ckB;simp only [List.length_append];omega
theorem Cut.pg {k:Int} {c:List S61} (h:Cut k c) (hk:k<=8):aSq c/\(pgL c).length<=6100/\9<=(pgL c).length/\Bs (pgL c):=by obtain⟨a,h0,b,hr⟩:=h.run;have hle:=h.le;have hL:=hr.laid hk;have hb:=aGr (by omega) hL;have e:=tD 101 (zS c);exact⟨hL,by unfold pgL;omega,by unfold pgL;omega,aDa (by decide) (aUg (by omega) hL)⟩
theorem aFd (cs ds:List (List S61)):bV (cs++ds)=bV cs++bV ds:=by simp [bV]
theorem aBd:∀ (cs:List (List S61)) (a:Nat),(fT cs a).length=cs.length
 | [],_=>rfl
 | c::cs,a=>by simp [fT,aBd cs]
theorem aEe {k:Int} (hk:k<=8):∀ {cs:List (List S61)},(∀ c∈cs,Cut k c)->(bV cs).length<=6100 * cs.length/\9 * cs.length<=(bV cs).length/\Bs (bV cs)
 | [],_=>⟨by simp [bV],by simp [bV],Bs.nil⟩
 | c::cs,h=>by obtain⟨a,b,d⟩:=aEe hk λx hx=>h x (List.mem_cons_of_mem _ hx);obtain⟨_,f,g,e⟩:=(h c List.mem_cons_self).pg hk;rw [show bV (c::cs)=pgL c++bV cs from rfl];exact⟨by simp;omega,by simp;omega,e.app d⟩
theorem aPy {k:Int} (hk:k<=8):∀ {cs:List (List S61)} {a:Nat},(∀ c∈cs,Cut k c)->∀ x∈fT cs a,CkOk x/\x.f1<=((a+(bV cs).length:Nat):Int)/\(0<cs.length->x.f1<((a+(bV cs).length:Nat):Int))
 | [],a,_,x,hx=>by cases hx
 | c::cs,a,h,x,hx=>by
  have hc:=h c List.mem_cons_self;obtain⟨_,d,f,g⟩:=hc.pg hk;rw [show bV (c::cs)=pgL c++bV cs from rfl,List.length_append];rcases List.mem_cons.1 hx with rfl | hx
  ·have e:=(aPx c (a:Int)).2;exact⟨hc.ok (by omega),by rw [e];omega,λ_=>by rw [e];omega⟩
  ·obtain⟨b,i,i3⟩:=aPy hk (λx hx=>h x (List.mem_cons_of_mem _ hx)) x hx;refine⟨b,by omega,λ_=>?_⟩;have:0<cs.length:=by rw [← aBd cs (a+(pgL c).length)];exact List.length_pos_of_mem hx
   have:=i3 this;omega
theorem aPg {ns:List Nat} (h:∀ n∈ns,n<18446744073709551616) (p:List Int) (hl:p.length+10 * ns.length<=140737488355000):rF p (ns.map λn:Nat=>(n:Int))=some (p++ns.flatMap uv):=by
 have hb:∀ m,m<=ns.length->((ns.take m).flatMap uv).length<=10 * m:=by
  intro m
  induction m with
  | zero=>intro _;simp
  | succ m ih =>
   intro hm;have hx:=List.getElem?_eq_getElem (l:=ns) (i:=m) (by omega);have:=aP (h _ (List.getElem_mem (l:=ns) (n:=m) (by omega)));rw [List.take_add_one,hx,List.flatMap_append,List.length_append];have:=ih (by omega);simp only [Option.toList_some,List.flatMap_cons,List.flatMap_nil,List.append_nil];omega
 unfold rF;have hk:=jJ (b:=λs:List Int×Int=>iP (ns.map λn:Nat=>(n:Int)) s.1 s.2) (λk=>(p++(ns.take k).flatMap uv,(k:Int))) (t:=p++ns.flatMap uv) ns.length (λk hk=>by
  have hx:=List.getElem?_eq_getElem (l:=ns) (i:=k) hk;have a:(ns.map λn:Nat=>(n:Int))[k]?=some ((ns[k]:Nat):Int):=by rw [List.getElem?_map,hx];rfl
  show iP _ _ (k:Int)=_;unfold iP;have c:=hb k (by omega);have d:=aP (h _ (List.getElem_mem hk));rw [if_pos (by simp only [decide_eq_true_eq,List.length_map];omega),bA rfl a];simp only [bHp];rw [tV _ _ (h _ (List.getElem_mem hk)) (by simp only [List.length_append];omega)];simp only [bHp,lt_];rw [w64 (by omega) (by omega),List.take_add_one,hx,List.flatMap_append];simp only [Option.toList_some,List.flatMap_cons,List.flatMap_nil,List.append_nil,List.append_assoc];rfl) (by
  show iP _ _ ((ns.length:Nat):Int)=_;unfold iP;rw [if_neg (by simp),List.take_length])
 rw [show (p,(0:Int))=(p++(ns.take 0).flatMap uv,((0:Nat):Int)) by simp,hk];rfl
def WL (k:Int) (l:List S61):List Int×Int:=if l.length=0\/k<1\/8<k then ([],1) else if 1024<l.length then ([],2) else
 match flt k (l.head?.map (·.f0) |>.getD 0) l 0 with
 | some c=>([],c)
 | none=>(yL l k.toNat,0)
section
variable {k:Int} (hk:k<=8)
include hk
theorem aLw:∀ (cs:List (List S61)) (p:List Int) (ch:List S90),(∀ c∈cs,Cut k c)->p.length+6100 * cs.length<=1000000->ch.length+cs.length<=100000 ->
  cs.foldlM (λ(s:List Int×List S90) l=>mL s.1 s.2 l) (p,ch)=some (p++bV cs,ch++fT cs p.length)
 | [],p,ch,_,_,_=>by simp [bV,fT]
 | c::cs,p,ch,h,hp,hch=>by
  have hc:=h c List.mem_cons_self;obtain⟨hL,a,b,d⟩:=hc.pg hk;have hle:=hc.le;simp only [List.length_cons] at hp hch;rw [List.foldlM_cons];have e:mL p ch c=some (p++pgL c,ch++[ckL c (p.length:Int)]):=by unfold mL;rw [aN2 hc.ps (by omega)];simp only [bHp];rw [bH (by simp;omega),aMd (by omega) hL (by omega)];rfl
  simp only [e,Option.bind_eq_bind,bHp];rw [aLw cs _ _ (λx hx=>h x (List.mem_cons_of_mem _ hx)) (by simp only [List.length_append];omega) (by simp;omega)];simp [bV,fT]
end
theorem aYk {k:Int} (l:List S90) (h:∀ c∈l,CkOk c/\c.f1<1099511627776) (hl:l.length<=1000) (p:List Int) (hp:p.length<=100) :
  loop (λs:List Int×Int=>gW l s.1 s.2) (p,0)=some (p++l.flatMap ckB):=by
 have hb:∀ m,m<=l.length->((l.take m).flatMap ckB).length<=144 * m:=by
  intro m
  induction m with
  | zero=>intro _;simp
  | succ m ih =>
   intro hm;have hx:=List.getElem?_eq_getElem (l:=l) (i:=m) (by omega);obtain⟨a,d⟩:=h _ (List.getElem_mem (l:=l) (n:=m) (by omega));have:=a.len (by omega);rw [List.take_add_one,hx,List.flatMap_append,List.length_append];have:=ih (by omega);simp only [Option.toList_some,List.flatMap_cons,List.flatMap_nil,List.append_nil];omega
 have hk:=jJ (b:=λs:List Int×Int=>gW l s.1 s.2) (λk=>(p++(l.take k).flatMap ckB,(k:Int))) (t:=p++l.flatMap ckB) l.length (λk hk=>by
  have hx:=List.getElem?_eq_getElem (l:=l) (i:=k) hk;obtain⟨a,d⟩:=h _ (List.getElem_mem hk);have e:=hb k (by omega);show gW l _ (k:Int)=_;unfold gW;rw [if_pos (by simp only [decide_eq_true_eq];omega),bA rfl hx];simp only [bHp,lt_];generalize l[k]=c at a d hx;obtain⟨a0,f,a2,a4,g⟩:=a;rw [nD (n:=c.f0) (by omega) (by omega),nD (n:=c.f1) (by omega) (by omega)];have hu:=aPg (ns:=[c.f0.toNat,c.f1.toNat,c.f2.toNat,c.f3.toNat]) (by simp;omega) (p++(l.take k).flatMap ckB) (by simp only [List.length_append,List.length_cons,List.length_nil];omega);simp only [List.map_cons,List.map_nil] at hu;rw [show ((c.f0.toNat:Nat):Int)=c.f0 by omega,show ((c.f1.toNat:Nat):Int)=c.f1 by omega,show ((c.f2.toNat:Nat):Int)=c.f2 by omega,show ((c.f3.toNat:Nat):Int)=c.f3 by omega] at hu;rw [hu];simp only [bHp];have j:=aP (n:=c.f0.toNat) (by omega);have o:=aP (n:=c.f1.toNat) (by omega);have q:=aP (n:=c.f2.toNat) (by omega);have r:=aP (n:=c.f3.toNat) (by omega);have i4:i64 c.f4:=by unfold i64;omega
  have i5:i64 c.f5:=by unfold i64;omega
  have u:=aP (n:=zz c.f4) (yD i4);have v:=aP (n:=zz c.f5) (yD i5);have w:=aP (n:=c.f6.length) (by omega);have x:(stb c.f6).length=c.f6.length:=by simp [stb]
  rw [aAq i4 _ (by simp only [List.length_append,List.flatMap_cons,List.flatMap_nil,List.length_nil];omega)];simp only [bHp];rw [aAq i5 _ (by simp only [List.length_append,List.flatMap_cons,List.flatMap_nil,List.length_nil];omega)];simp only [bHp];rw [aFt _ _ (by omega) (by simp only [List.length_append,List.flatMap_cons,List.flatMap_nil,List.length_nil];omega)];simp only [bHp];rw [aFt _ _ (by omega) (by simp only [List.length_append,List.flatMap_cons,List.flatMap_nil,List.length_nil];omega)];simp only [bHp];rw [w64 (by omega) (by omega),List.take_add_one,hx,List.flatMap_append];simp only [Option.toList_some,List.flatMap_cons,List.flatMap_nil,List.append_nil,List.append_assoc,ckB];rfl) (by
  show gW l _ ((l.length:Nat):Int)=_;unfold gW;rw [if_neg (by simp),List.take_length])
 rw [show (p,(0:Int))=(p++(l.take 0).flatMap ckB,((0:Nat):Int)) by simp,hk]
theorem aU4 {k:Nat} (hk:k<=8) {l:List S90} (h:∀ c∈l,CkOk c/\c.f1<1099511627776) (hl:l.length<=1000):(wC k l).length<=20+144 * l.length/\Bs (wC k l):=by
 have e:=aP (n:=k) (by omega);have f:=aP (n:=l.length) (by omega);have key:∀ l:List S90,(∀ c∈l,CkOk c/\c.f1<1099511627776)->(l.flatMap ckB).length<=144 * l.length/\Bs (l.flatMap ckB):=by
  intro l
  induction l with
  | nil=>intro _;exact⟨by simp,Bs.nil⟩
  | cons c l ih =>
   intro h;obtain⟨g,a⟩:=ih λx hx=>h x (List.mem_cons_of_mem _ hx);obtain⟨b,i⟩:=h c List.mem_cons_self;have:=b.len (by omega);rw [List.flatMap_cons];refine⟨by simp only [List.length_append,List.length_cons];omega,Bs.app ?_ a⟩;exact (Bs.uv _).app ((Bs.uv _).app ((Bs.uv _).app ((Bs.uv _).app ((Bs.uv _).app ((Bs.uv _).app ((Bs.uv _).app ((Bs.stb _).app ((Bs.uv _).app (Bs.stb _)))))))))
 obtain⟨j,d⟩:=key l h;unfold wC;exact⟨by simp only [List.length_append];omega,(Bs.uv _).app ((Bs.uv _).app d)⟩
theorem aXo {n:Nat} (h:n<1099511627776):[IntKind.u8.wrap (n:Int),IntKind.u8.wrap (oG .i64 (n:Int) 8),IntKind.u8.wrap (oG .i64 (n:Int) 16),IntKind.u8.wrap (oG .i64 (n:Int) 24)]=qA n:=by have a:oG .i64 (n:Int) 8=((n / 256:Nat):Int):=lD (k:=.i64) n 8 (by decide);have b:oG .i64 (n:Int) 16=((n / 65536:Nat):Int):=lD (k:=.i64) n 16 (by decide);have c:oG .i64 (n:Int) 24=((n / 16777216:Nat):Int):=lD (k:=.i64) n 24 (by decide);rw [a,b,c,yM,yM,yM,yM];rfl
structure Seg (k:Int) (l:List S61):Prop where
 k1:1<=k
 k8:k<=8
 ps:0<l.length
 le:l.length<=1024
 run:∃ a:Int,0<=a/\a+l.length<=1099511627776/\Run k a l
section
variable {k:Int} {l:List S61} (h:Seg k l)
include h
theorem Seg.cut:∀ c∈pcs 64 l,Cut k c:=by obtain⟨a,h0,b,hr⟩:=h.run;exact hr.cut ⟨h0,λ_=>b⟩
theorem Seg.num:(pcs 64 l).length<=16/\0<(pcs 64 l).length:=by have a:=h.le;have b:=h.ps;rw [aCd];omega
theorem Seg.cks:(∀ x∈fT (pcs 64 l) 0,CkOk x/\x.f1<1099511627776)/\(fT (pcs 64 l) 0).length<=16/\(bV (pcs 64 l)).length<=97600/\9<=(bV (pcs 64 l)).length/\Bs (bV (pcs 64 l)):=by obtain⟨n1,n2⟩:=h.num;obtain⟨p1,p2,p3⟩:=aEe h.k8 h.cut;refine⟨λx hx=>?_,by rw [aBd];exact n1,by omega,by omega,p3⟩;obtain⟨c1,c2,_⟩:=aPy h.k8 h.cut x hx;exact⟨c1,by omega⟩
theorem Seg.foot:(wC k.toNat (fT (pcs 64 l) 0)).length<=2400/\Bs (wC k.toNat (fT (pcs 64 l) 0)):=by obtain⟨c1,c2,_⟩:=h.cks;have:=h.k8;obtain⟨f1,f2⟩:=aU4 (k:=k.toNat) (by omega) c1 (by omega);exact⟨by omega,f2⟩
theorem bE1:pZ l k=some (yL l k.toNat,0):=by
 obtain⟨n1,n2⟩:=h.num;obtain⟨c1,c2,c3,a,b⟩:=h.cks;obtain⟨f1,f2⟩:=h.foot;have c:=h.k1;have d:=h.k8;have hle:=h.le;unfold pZ;rw [bH (by omega),aLw h.k8 _ _ _ h.cut (by simp;omega) (by simp;omega)];simp only [bHp,List.nil_append,List.length_nil];unfold rT;simp only [lt_];rw [nD (n:=k) (by omega) (by omega),nD (by omega) (by omega)];have hu:=aPg (ns:=[k.toNat,(fT (pcs 64 l) 0).length]) (by simp;omega) [] (by simp);simp only [List.map_cons,List.map_nil,List.nil_append] at hu;rw [show ((k.toNat:Nat):Int)=k by omega] at hu;rw [hu];simp only [bHp];have e:=aP (n:=k.toNat) (by omega);have f:=aP (n:=(fT (pcs 64 l) 0).length) (by omega);rw [aYk (k:=k) _ c1 (by omega) _ (by simp;omega)];simp only [bHp];unfold qP tG;have ef:([k.toNat,(fT (pcs 64 l) 0).length].flatMap uv++(fT (pcs 64 l) 0).flatMap ckB)=wC k.toNat (fT (pcs 64 l) 0):=by simp [wC]
 rw [ef,aAt (by decide) f2 (by omega) (by omega)];simp only [bHp,lt_];rw [aXo (by omega)];have g:=tD 102 (wC k.toNat (fT (pcs 64 l) 0));rw [aAt (by decide) (aF5 _) (by simp [rC]) (by simp only [List.length_append];omega)];rfl
end
theorem aNu {l:List S61} (hg:∀ e∈l,Gd e) (k:Int) (hl:l.length<4611686018427387904):uF l k=some (WL k l):=by
 unfold uF WL;have d:kQ l k true=some ([],1):=rfl;by_cases h0:l.length=0
 ·rw [if_pos (by simp [h0]),d,if_pos (.inl h0)]
 rw [if_neg (by simp;intro e;simp [e] at h0)];by_cases a:k<1
 ·rw [if_pos (by simpa using a),d,if_pos (.inr (.inl a))]
 rw [if_neg (by simpa using a)];by_cases b:8<k
 ·rw [show decide (8<k)=true by simpa using b,d,if_pos (.inr (.inr b))]
 rw [show decide (8<k)=false by simpa using b,if_neg (by rintro (h | h | h);exact h0 h;exact a h;exact b h)];unfold kQ;rw [if_neg (by simp)];by_cases hn:1024<l.length
 ·rw [if_pos (by simp only [decide_eq_true_eq];omega),if_pos hn]
 rw [if_neg (by simp only [decide_eq_true_eq];omega),if_neg hn];obtain⟨e0,f⟩:∃ e,l[0]?=some e:=⟨_,List.getElem?_eq_getElem (by omega)⟩;have g:(l.head?.map (·.f0) |>.getD 0)=e0.f0:=by rw [List.head?_eq_getElem?,f];rfl
 have:=aSg (k:=k) hg f (by omega) l.length 0 (by omega) (.inl rfl);rw [g,show (0:Int)=((0:Nat):Int) from rfl,this,List.drop_zero];simp only [bHp];cases hf:flt k e0.f0 l 0 with
 | some c=>rfl
 | none =>
  have hr:=aRs hf hg;have i:=aJ1 hr (by omega);obtain⟨x,y,hx,m,ex,ey,mx,my⟩:=i;have f1:=xJ (hr.fm y my);have j:=hr.gd x mx;exact bE1 (l:=l) (k:=k) ⟨by omega,by omega,by omega,by omega,_,by have:=j.1;omega,by omega,hr⟩
theorem rdU {m:Nat} {most:Int} {r:List Int} (h:m<18446744073709551616) (hm:(m:Int)<=most) (hB:Bs (uv m++r)):bF ⟨uv m++r⟩ most=some (.inl ((m:Int),⟨r⟩)):=by have:=aDv most hB;rw [aJs h r hm] at this;exact this
theorem rdI {x:Int} {r:List Int} (h:i64 x) (hB:Bs (uv (zz x)++r)):cU ⟨uv (zz x)++r⟩=some (.inl (x,⟨r⟩)):=by have:=aIl hB;rw [aOz h r] at this;exact this
theorem rdT {s:List UInt8} {r:List Int} (h:s.length<=32) (hB:Bs (uv s.length++(stb s++r))) (hl:(uv s.length++(stb s++r)).length<9223372036854775808):fI ⟨uv s.length++(stb s++r)⟩ 32=some (.inl (s,⟨r⟩)):=by have:=aL4 32 hB hl;rw [aR4 h r] at this;exact this
theorem aS8 {a0:S128} {x:Int} {y:Int×S140} {ch:List S90} {c:S90} {r:List Int} {i:Nat} (hc:CkOk c) (o:c.f1<=(a0.f0.length:Int)) (q:a0.f0.length<=1000000) (hr:r.length<=1000000)
  (hB:Bs (ckB c++r)) (hi:(i:Int)<y.1) (hi':i<=1024) (s:ch.length=i) (h0:i=0->c.f1=0) (hp:0<i->∃ p,ch[i - 1]?=some p/\c.f2=p.f3+1/\p.f1<c.f1) :
  cY a0 x y ch (ckB c++r) (i:Int)=some (.inl (ch++[c],r,((i+1:Nat):Int))):=by
 obtain⟨t,u,v,w,b⟩:=hc;have z:=aP (n:=c.f2.toNat) (by omega);have i4:i64 c.f4:=by unfold i64;omega
 have i5:i64 c.f5:=by unfold i64;omega
 have A:=aP (n:=c.f6.length) (by omega);have B:=aP (n:=c.f7.length) (by omega);have C:(stb c.f6).length=c.f6.length:=by simp [stb]
 have D:(stb c.f7).length=c.f7.length:=by simp [stb]
 have e:ckB c++r=uv c.f0.toNat++(uv c.f1.toNat++(uv c.f2.toNat++(uv c.f3.toNat++(uv (zz c.f4)++(uv (zz c.f5)++(uv c.f6.length++(stb c.f6++(uv c.f7.length++(stb c.f7++r))))))))):=by simp only [ckB,List.append_assoc]
 rw [e] at hB ⊢;have b1:=hB.r;have b2:=b1.r;have d:=b2.r;have f:=d.r;have g:=f.r;have h:=g.r;have j:=h.r.r;unfold cY;rw [if_pos (by simpa using hi)];simp only [lt_];rw [nD (n:=(a0.f0.length:Int)) (by omega) (by omega),rdU (by omega) (by omega) hB];simp only [bHp,iC,lt_];rw [rdU (by omega) (by omega) b1];simp only [bHp,iC,lt_];rw [show ((c.f0.toNat:Nat):Int)=c.f0 by omega,show ((c.f1.toNat:Nat):Int)=c.f1 by omega,w64 (n:=c.f0) (by omega) (by omega),w64 (n:=c.f1) (by omega) (by omega)];unfold lO;rw [rdU (by omega) (by omega) b2];simp only [bHp,iC];rw [rdU (by omega) (by omega) d];simp only [bHp,iC];rw [rdI i4 f];simp only [bHp,iC];rw [rdI i5 g];simp only [bHp,iC];rw [rdT b.1 h (by simp only [List.length_append];omega)];simp only [bHp,iC];rw [rdT b.2 j (by simp only [List.length_append];omega)];simp only [bHp,iC,lt_];rw [show ((c.f2.toNat:Nat):Int)=c.f2 by omega,show ((c.f3.toNat:Nat):Int)=c.f3 by omega];rw [if_pos (by simp only [decide_eq_true_eq];omega),nD (n:=c.f3 - c.f2) (by omega) (by omega),w64 (n:=c.f0 - 1) (by omega) (by omega),nD (n:=c.f0 - 1) (by omega) (by omega),if_pos (by simp only [beq_iff_eq];omega),
  show decide (c.f2<=c.f3)=true by simp only [decide_eq_true_eq];omega,mV]
 simp only [bHp,iC];have a:eX ch (i:Int) c.f0 c.f1 (c.f2,⟨uv c.f3.toNat++(uv (zz c.f4)++(uv (zz c.f5)++(uv c.f6.length++(stb c.f6++(uv c.f7.length++(stb c.f7++r))))))⟩) (c.f3,⟨uv (zz c.f4)++(uv (zz c.f5)++(uv c.f6.length++(stb c.f6++(uv c.f7.length++(stb c.f7++r)))))⟩)
   (c.f4,⟨uv (zz c.f5)++(uv c.f6.length++(stb c.f6++(uv c.f7.length++(stb c.f7++r))))⟩) (c.f5,⟨uv c.f6.length++(stb c.f6++(uv c.f7.length++(stb c.f7++r)))⟩) (c.f6,⟨uv c.f7.length++(stb c.f7++r)⟩) (c.f7,⟨r⟩) r=some (.inl (ch++[c],r,((i+1:Nat):Int))):=by
  unfold eX;simp only [lt_];rw [bH (by simp only [List.length_cons,List.length_nil];omega),nD (by omega) (by omega)];rfl
 unfold gG;by_cases hz:i=0
 ·rw [if_neg (by simp only [decide_eq_true_eq];omega),h0 hz,show ((0:Int)==0)=true from rfl,mV];simp only [bHp,iC];rw [h0 hz] at a;exact a
 ·obtain⟨p,k,l,m⟩:=hp (by omega);rw [if_pos (by simp only [decide_eq_true_eq];omega)];simp only [lt_];rw [nD (n:=(i:Int) - 1) (by omega) (by omega),bA (n:=i - 1) (by omega) k];simp only [bHp,lt_];rw [nD (n:=p.f3+1) (by omega) (by omega),if_pos (by simp only [beq_iff_eq];exact l),show decide (p.f1<c.f1)=true by simpa using m,mV];simp only [bHp,iC];exact a
theorem aRf:∀ (cs:List (List S61)) (a i:Nat),(fT cs a)[i]?=(cs[i]?).map λc=>ckL c ((a+(bV (cs.take i)).length:Nat):Int)
 | [],a,i=>by simp [fT]
 | c::cs,a,0=>by simp [fT,bV]
 | c::cs,a,i+1=>by show (fT cs (a+(pgL c).length))[i]?=_;rw [aRf cs];simp only [List.getElem?_cons_succ,List.take_succ_cons];rw [show bV (c::cs.take i)=pgL c++bV (cs.take i) from rfl,List.length_append,Nat.add_assoc]
section
variable {k:Int} {l:List S61} (h:Seg k l)
include h
theorem Seg.at_ {i:Nat} {x:S90} (hx:(fT (pcs 64 l) 0)[i]?=some x):∃ a:Int,0<=a/\Run k a l/\x=ckL ((l.drop (i * 64)).take 64) (((bV ((pcs 64 l).take i)).length:Nat):Int)/\i * 64<l.length/\x.f1=(((bV ((pcs 64 l).take i)).length:Nat):Int)/\x.f2=a+(i * 64:Nat)/\x.f3=a+(min l.length (i * 64+64):Nat) - 1/\x.f0=((min 64 (l.length - i * 64):Nat):Int):=by
 obtain⟨a,d,m,hr⟩:=h.run;rw [aRf,Nat.zero_add] at hx;obtain⟨c,hc,rfl⟩:=Option.map_eq_some_iff.1 hx;have b:i * 64<l.length:=by have:=(List.getElem?_eq_some_iff.1 hc).1;rw [aCd] at this;exact (aBo (by decide)).2 this
 rw [aIb (by decide) b] at hc;cases hc;have e:=(hr.drop (i * 64)).take 64;have hl:((l.drop (i * 64)).take 64).length=min 64 (l.length - i * 64):=by simp
 obtain⟨f,g⟩:=aL9 e (by omega) (((bV ((pcs 64 l).take i)).length:Nat):Int);obtain⟨e0,j⟩:=aPx ((l.drop (i * 64)).take 64) (((bV ((pcs 64 l).take i)).length:Nat):Int);exact⟨a,d,hr,rfl,b,j,f,by rw [g,hl];omega,by rw [e0,hl]⟩
theorem Seg.page_lt {i j:Nat} (a:i<j) (b:j<=(pcs 64 l).length):(bV ((pcs 64 l).take i)).length<(bV ((pcs 64 l).take j)).length:=by
 have e:(pcs 64 l).take j=(pcs 64 l).take i++((pcs 64 l).take j).drop i:=by have:=List.take_append_drop i ((pcs 64 l).take j);rw [List.take_take,Nat.min_eq_left (by omega)] at this;exact this.symm
 rw [e,aFd,List.length_append];have hc:∀ c∈((pcs 64 l).take j).drop i,Cut k c:=λc hc=>h.cut c (List.mem_of_mem_take (List.mem_of_mem_drop hc));obtain⟨p1,p2,p3⟩:=aEe h.k8 hc;have:((pcs 64 l).take j).drop i≠[]:=by intro e;have:=congrArg List.length e;simp at this;omega
 have:=List.length_pos_iff.2 this;omega
theorem aXn {Pg:List Int} (D:Pg.length=(bV (pcs 64 l)).length):lH ⟨Pg,0,[]⟩ ⟨wC k.toNat (fT (pcs 64 l) 0)⟩=some (.inl (⟨Pg,k,fT (pcs 64 l) 0⟩,⟨[]⟩)):=by
 obtain⟨n1,n2⟩:=h.num;obtain⟨c1,c2,c3,E,F⟩:=h.cks;obtain⟨f1,f2⟩:=h.foot;have G:=h.k1;have g:=h.k8;have hn:=aBd (pcs 64 l) 0;unfold wC at f2 f1 ⊢;unfold lH;rw [rdU (by omega) (by omega) f2];simp only [bHp,iC,lt_];rw [show ((k.toNat:Nat):Int)=k by omega,w64 (n:=k) (by omega) (by omega),rdU (by omega) (by omega) f2.r];simp only [bHp,iC];rw [if_pos (by simp only [decide_eq_true_eq];omega),show decide (0<(((fT (pcs 64 l) 0).length:Nat):Int))=true by simp only [decide_eq_true_eq];omega,mV];simp only [bHp,iC];have hB:=f2.r.r;have m:((fT (pcs 64 l) 0).flatMap ckB).length<=2400:=by simp only [List.length_append] at f1;omega
 have o:∀ x∈fT (pcs 64 l) 0,x.f1<=(Pg.length:Int):=λx hx=>by have:=(aPy g h.cut x hx).2.1;omega
 have c:=λ{i x}=>h.at_ (i:=i) (x:=x);have p:=λ{i j}=>h.page_lt (i:=i) (j:=j);generalize q:(((((fT (pcs 64 l) 0).length:Nat):Int)),(⟨(fT (pcs 64 l) 0).flatMap ckB⟩:S140))=Y;have u:Y.1=(((fT (pcs 64 l) 0).length:Nat):Int):=by rw [← q]
 unfold iM;generalize fT (pcs 64 l) 0=cks at *;have hk:=jJ (b:=λs:List S90×List Int×Int=>cY ⟨Pg,0,[]⟩ k Y s.1 s.2.1 s.2.2) (λi=>(cks.take i,(cks.drop i).flatMap ckB,(i:Int)))
  (t:=.inl (cks,[])) cks.length (λi hi=>by
   have hx:=List.getElem?_eq_getElem (l:=cks) (i:=i) hi;obtain⟨a,H,v,I,J,d,w,K,L⟩:=c hx;have hd:cks.drop i=cks[i]::cks.drop (i+1):=List.drop_eq_getElem_cons hi;have y:(cks.flatMap ckB)=(cks.take i).flatMap ckB++(ckB cks[i]++(cks.drop (i+1)).flatMap ckB):=by rw [← List.flatMap_cons, ← hd, ← List.flatMap_append,List.take_append_drop]
   have f:=m;rw [y] at hB f;simp only [List.length_append] at f;have hm:=List.getElem_mem hi;show cY _ k Y (cks.take i) ((cks.drop i).flatMap ckB) (i:Int)=_;rw [hd,List.flatMap_cons];rw [aS8 (c1 _ hm).1 (o _ hm) (by show Pg.length<=_;omega) (by omega) hB.r (by rw [u];omega) (by omega) (by simp;omega) (λe=>by subst e;rw [d];simp [bV]) (λM=>by
    have hp:=List.getElem?_eq_getElem (l:=cks) (i:=i - 1) (by omega);obtain⟨b,N,z,O,P,A,Q,B,R⟩:=c hp;have C:a=b:=by have S:=v.of 0 _ (List.getElem?_eq_getElem (by omega));have T:=z.of 0 _ (List.getElem?_eq_getElem (by omega));omega
    refine⟨_,by rw [List.getElem?_take,if_pos (by omega)];exact hp,by rw [w,B,C];omega,?_⟩;rw [d,A];have:=p (i:=i - 1) (j:=i) (by omega) (by omega);omega),List.take_add_one,hx]
   rfl) (by
   show cY _ k Y _ _ ((cks.length:Nat):Int)=_;unfold cY;rw [if_neg (by simp only [decide_eq_true_eq];omega),List.take_length,List.drop_length];rfl)
 rw [show (([]:List S90),cks.flatMap ckB,(0:Int))=(cks.take 0,(cks.drop 0).flatMap ckB,((0:Nat):Int)) by simp,hk];rfl
end
theorem aMp {a b:Nat} (c:a<4294967296) (hb:b<4294967296):ior .i64 (a:Int) (b:Int)=((a ||| b:Nat):Int):=by unfold ior;rw [fP,fP];have h:a ||| b<2 ^ 32:=Nat.or_lt_two_pow (show a<2 ^ 32 by omega) (show b<2 ^ 32 by omega);simp only [BitVec.toNat_or,BitVec.toNat_ofNat,show IntKind.i64.bits=64 from rfl];rw [Nat.mod_eq_of_lt (show a<2 ^ 64 by omega),Nat.mod_eq_of_lt (show b<2 ^ 64 by omega),w64 (by omega) (by omega)]
theorem aJe {a n:Nat} (hn:n<=24) (c:a<256):xT .i64 (a:Int) (n:Int)=((a * 2 ^ n:Nat):Int):=by have b:2 ^ n<=2 ^ 24:=Nat.pow_le_pow_right (by decide) hn;have d:a * 2 ^ n<=255 * 2 ^ 24:=Nat.mul_le_mul (by omega) b;unfold xT;rw [show min ((n:Int).toNat) IntKind.i64.bits=n from by rw [Int.toNat_natCast,show IntKind.i64.bits=64 from rfl];omega,aGm];rw [show (a:Int) * ((2 ^ n:Nat):Int)=((a * 2 ^ n:Nat):Int) from rfl,w64 (by omega) (by omega)]
theorem aYd {n:Nat} (h:n<4294967296):ior .i64 (ior .i64 (ior .i64 ((n % 256:Nat):Int) (xT .i64 ((n / 256 % 256:Nat):Int) 8)) (xT .i64 ((n / 65536 % 256:Nat):Int) 16)) (xT .i64 ((n / 16777216 % 256:Nat):Int) 24)=(n:Int):=by have b:=aJe (a:=n / 256 % 256) (n:=8) (by decide) (by omega);have c:=aJe (a:=n / 65536 % 256) (n:=16) (by decide) (by omega);have d:=aJe (a:=n / 16777216 % 256) (n:=24) (by decide) (by omega);rw [show ((8:Nat):Int)=8 from rfl] at b;rw [show ((16:Nat):Int)=16 from rfl] at c;rw [show ((24:Nat):Int)=24 from rfl] at d;have k:(2:Nat) ^ 8=256:=rfl;have i:(2:Nat) ^ 16=65536:=rfl;have j:(2:Nat) ^ 24=16777216:=rfl;have e:n % 256 ||| n / 256 % 256 * 2 ^ 8=n % 256+n / 256 % 256 * 2 ^ 8:=aCb (by omega) _;rw [b,c,d,aMp (by omega) (by omega),e];have f:n % 256+n / 256 % 256 * 2 ^ 8 ||| n / 65536 % 256 * 2 ^ 16=n % 256+n / 256 % 256 * 2 ^ 8+n / 65536 % 256 * 2 ^ 16:=aCb (by omega) _;rw [aMp (by omega) (by omega),f];have g:n % 256+n / 256 % 256 * 2 ^ 8+n / 65536 % 256 * 2 ^ 16 ||| n / 16777216 % 256 * 2 ^ 24=n % 256+n / 256 % 256 * 2 ^ 8+n / 65536 % 256 * 2 ^ 16+n / 16777216 % 256 * 2 ^ 24:=aCb (by omega) _;rw [aMp (by omega) (by omega),g];omega
def aAe (l:List S61) (k:Int):S128:=⟨bV (pcs 64 l),k,fT (pcs 64 l) 0⟩
section
variable {k:Int} {l:List S61} (h:Seg k l)
include h
theorem Seg.bytes:Bs (yL l k.toNat)/\(yL l k.toNat).length=(bV (pcs 64 l)).length+(wC k.toNat (fT (pcs 64 l) 0)).length+22:=by obtain⟨c1,c2,c3,c,a⟩:=h.cks;obtain⟨f1,f2⟩:=h.foot;have d:=tD 102 (wC k.toNat (fT (pcs 64 l) 0));have b:=tD 116 (qA (bV (pcs 64 l)).length);rw [rC] at b;unfold yL;exact⟨(a.app (aDa (by decide) f2)).app (aDa (by decide) (aF5 _)),by simp only [List.length_append];omega⟩
theorem aQ8:tF (yL l k.toNat)=some (some (aAe l k),0):=by
 obtain⟨c1,c2,c3,i,j⟩:=h.cks;obtain⟨f1,f2⟩:=h.foot;obtain⟨b1,b2⟩:=h.bytes;have m:=tD 102 (wC k.toNat (fT (pcs 64 l) 0));have e:=tD 116 (qA (bV (pcs 64 l)).length);rw [rC] at e;have a:=aCc (p:=bV (pcs 64 l)++kC 102 (wC k.toNat (fT (pcs 64 l) 0))) (b:=qA (bV (pcs 64 l)).length) (q:=[]) (kind:=116) (by simp [rC]);have c:=aCc (p:=bV (pcs 64 l)) (b:=wC k.toNat (fT (pcs 64 l) 0)) (q:=kC 116 (qA (bV (pcs 64 l)).length)) (kind:=102) (by omega);rw [List.append_nil,show bV (pcs 64 l)++kC 102 (wC k.toNat (fT (pcs 64 l) 0))++kC 116 (qA (bV (pcs 64 l)).length)=yL l k.toNat from rfl] at a;rw [show bV (pcs 64 l)++kC 102 (wC k.toNat (fT (pcs 64 l) 0))++kC 116 (qA (bV (pcs 64 l)).length)=yL l k.toNat from rfl] at c;have f:=aXn h (Pg:=bV (pcs 64 l)) rfl;have g:(yL l k.toNat).take (bV (pcs 64 l)).length=bV (pcs 64 l):=by unfold yL;rw [List.append_assoc,List.take_left' rfl]
 unfold aAe;rw [List.length_append] at a;generalize yL l k.toNat=B at *;generalize wC k.toNat (fT (pcs 64 l) 0)=Ft at *;generalize fT (pcs 64 l) 0=cks at *;generalize bV (pcs 64 l)=Pg at *;unfold tF;rw [if_neg (by simp only [decide_eq_true_eq];omega)];simp only [lt_];rw [w64 (n:=(B.length:Int) - 13) (by omega) (by omega),show (B.length:Int) - 13=((Pg.length+(kC 102 Ft).length:Nat):Int) by omega,zF b1 (by omega),a];simp only [bHp];rw [if_neg (by simp),if_neg (by simp),if_neg (by rw [rC];simp)];unfold nQ;rw [if_neg (by simp only [bne_iff_ne,ne_eq,Decidable.not_not];omega)];simp only [show at_ (qA Pg.length) 0=some ((Pg.length % 256:Nat):Int) from rfl,show at_ (qA Pg.length) 1=some ((Pg.length / 256 % 256:Nat):Int) from rfl,show at_ (qA Pg.length) 2=some ((Pg.length / 65536 % 256:Nat):Int) from rfl,show at_ (qA Pg.length) 3=some ((Pg.length / 16777216 % 256:Nat):Int) from rfl,bHp,lt_];rw [w64 (n:=((Pg.length % 256:Nat):Int)) (by omega) (by omega),w64 (n:=((Pg.length / 256 % 256:Nat):Int)) (by omega) (by omega),w64 (n:=((Pg.length / 65536 % 256:Nat):Int)) (by omega) (by omega),w64 (n:=((Pg.length / 16777216 % 256:Nat):Int)) (by omega) (by omega),aYd (by omega)];rw [w64 (n:=(B.length:Int) - 13) (by omega) (by omega),if_neg (by simp only [decide_eq_true_eq];omega),zF b1 (by omega),c];simp only [bHp];have d:=nY (xs:=B) (l:=0) (u:=Pg.length) (by omega) (by omega);rw [g,List.drop_zero,show ((0:Nat):Int)=0 from rfl] at d;rw [if_neg (by simp),d];simp only [bHp];rw [aHi (by omega)];simp only [bHp];rw [if_neg (by simp),if_neg (by simp only [bne_iff_ne,ne_eq,Decidable.not_not];omega)];unfold oO;rw [f];rfl
theorem bCg:WL k l=(yL l k.toNat,0):=by
 obtain⟨a,b,c,hr⟩:=h.run;have d:=h.k1;have f:=h.k8;have g:=h.ps;have j:=h.le;unfold WL;rw [if_neg (by omega),if_neg (by omega)];have hx:=List.getElem?_eq_getElem (l:=l) (i:=0) (by omega);have e:(l.head?.map (·.f0) |>.getD 0)=a:=by rw [List.head?_eq_getElem?,hx];have:=hr.of 0 _ hx;simp at this ⊢;exact this
 rw [e,aOk (by simpa using hr)]
end
def aDs (n:Nat):List S61:=(List.range n).map λi:Nat=>⟨(i:Int),0,(i:Int),[],0⟩
theorem aJ8 {n i:Nat} {x:S61} (h:(aDs n)[i]?=some x):x=⟨(i:Int),0,(i:Int),[],0⟩/\i<n:=by unfold aDs at h;rw [List.getElem?_map] at h;obtain⟨j,a,rfl⟩:=Option.map_eq_some_iff.1 h;obtain⟨b,rfl⟩:=List.getElem?_eq_some_iff.1 a;rw [List.getElem_range];exact⟨rfl,by simpa using b⟩
end Go.Proofs.YtdkpjpoajlmmfaaGreatDoor.P
