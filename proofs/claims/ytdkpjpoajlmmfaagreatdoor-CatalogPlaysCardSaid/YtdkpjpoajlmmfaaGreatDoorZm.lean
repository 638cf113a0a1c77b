/- Texts of the claim, joined: what it uses of Rf, Rj, Rh, Rk, Rp, Rm, Rn, Ro, Rq, Sa, Sb, Sc, Sd, Se, Sf, Sg, Sh, Si, Sj, Sk, Sl, Sm, Sn, So, Sp, Sq, Sr, Ss, St, Ta, Tb, Tc, Tg, Ua, Wa. -/
import Derived.Test.YtdkpjpoajlmmfaaGreatDoorZl
import Derived.Sort.Walk0
import Derived.Lib.SlicesCompact
import Derived.Lib.ParseIntB
namespace Go.Proofs.YtdkpjpoajlmmfaaGreatDoor.P
open Go Go.RowKit Go.Proofs.YtdkpjpoajlmmfaaGreatDoor.E Go.Proofs.YtdkpjpoajlmmfaaGreatDoor.M
set_option linter.unusedVariables false
set_option linter.unusedSectionVars false
section
variable {k:Nat} {s:S77} {n:List UInt8}
def aCh (s:S77) (n:List UInt8) (f:S98->List S98):Int×S77:=if uB s n=0 then
  match get s.f0 n with
  | none=>(5,s)
  | some x=>if (step s).f3=true then (9,step s) else (0,{ step s with f0:=f x })
 else (uB s n,s)
def aD5 (s:S77) (n:List UInt8):Int×S77:=aCh s n λx=>put s.f0 ⟨x.f0,x.f1,x.f1.length⟩
def uJ (s:S77) (n:List UInt8):Int×S77:=aCh s n λx=>del s.f0 n
def aPt (s:S77) (a b:List UInt8):Int×S77:=if tB a=true then if uB s b=0 then aCh s a λx=>put (del s.f0 a) ⟨b,x.f1,x.f2⟩ else (uB s b,s) else (1,s)
theorem SI.Sync (h:SI k s) (hk:k<4611686018427387904) (hn:n.length<4611686018427387904):oR (some s) n=some ((aD5 s n).1,some (aD5 s n).2):=by
 show (nO n s).bind _=_;unfold nO aD5 aCh;rw [aDl s hn];simp only [bGi];by_cases c:uB s n=0
 ·rw [if_neg (by simpa using c),if_pos c,h.find];simp only [bGi];have hb:=h.begin hk;have hr:=h.rise;rcases aB0 hr n with ⟨P,x,D,e,hx⟩ | ⟨P,D,e,d,f⟩
  ·rw [e] at hr;have a:has s.f0 n=true:=by rw [e];exact aDi hx hr
   have g:pos s.f0 n=P.length:=by rw [e];exact aBr hx hr
   have b:get s.f0 n=some x:=by rw [e];exact vE hx hr
   rw [a,g,b,if_neg (by simp),hb];simp only [bGi];cases c3:(step s).f3 with
   | true=>rfl
   | false =>
    unfold pQ;rw [if_neg (by simp),if_neg (by simp),bB rfl (show (step s).f0[P.length]?=some x by rw [show (step s).f0=P++x::D from e];simp)];simp only [bGi];rw [e,aBs (x:=x) (y:=⟨x.f0,x.f1,x.f1.length⟩) rfl hr,show (step s).f0=P++x::D from e,Int.toNat_natCast,
     show (P++x::D).set P.length (⟨x.f0,x.f1,x.f1.length⟩:S98)=P++⟨x.f0,x.f1,x.f1.length⟩::D by simp, ← c3]
  ·rw [e] at hr;have a:has s.f0 n=false:=by rw [e];exact aDh d f
   have b:get s.f0 n=none:=by rw [e];exact yD d f
   rw [a,b,if_pos (by simp)];rfl
 ·rw [if_pos (by simpa using c),if_neg c];rfl
theorem SI.Delete (h:SI k s) (hk:k<4611686018427387904) (hn:n.length<4611686018427387904):pN (some s) n=some ((uJ s n).1,some (uJ s n).2):=by
 show (lF n s).bind _=_;unfold lF uJ aCh;rw [aDl s hn];simp only [bGi];by_cases c:uB s n=0
 ·rw [if_neg (by simpa using c),if_pos c,h.find];simp only [bGi];have hb:=h.begin hk;have hr:=h.rise;have hlen:=h.len;rcases aB0 hr n with ⟨P,x,D,e,hx⟩ | ⟨P,D,e,d,f⟩
  ·rw [e] at hr;have a:has s.f0 n=true:=by rw [e];exact aDi hx hr
   have g:pos s.f0 n=P.length:=by rw [e];exact aBr hx hr
   have b:get s.f0 n=some x:=by rw [e];exact vE hx hr
   have hl:s.f0.length=P.length+(D.length+1):=by rw [e];simp
   rw [a,g,b,if_neg (by simp),hb];simp only [bGi];cases c3:(step s).f3 with
   | true=>rfl
   | false =>
    unfold nL aV6;rw [if_neg (by simp),if_neg (by simp),lt_,w64 (by omega) (by omega),if_pos ⟨by omega,by show (P.length:Int)<(s.f0.length:Int);omega,rfl⟩];simp only [bGi];rw [e,aHd hx hr,show (step s).f0=P++x::D from e,Int.toNat_natCast,List.eraseIdx_append_of_length_le (Nat.le_refl _),Nat.sub_self,List.eraseIdx_cons_zero, ← c3]
  ·rw [e] at hr;have a:has s.f0 n=false:=by rw [e];exact aDh d f
   have b:get s.f0 n=none:=by rw [e];exact yD d f
   rw [a,b,if_pos (by simp)];rfl
 ·rw [if_pos (by simpa using c),if_neg c];rfl
theorem SI.Rename (h:SI k s) (hk:k<4611686018427387904) {a b:List UInt8} (p:a.length<4611686018427387904) (hn:b.length<4611686018427387904):pO (some s) a b=some ((aPt s a b).1,some (aPt s a b).2):=by
 show (rI a).bind _=_;unfold aPt;rw [aP3 a p];simp only [bGi];cases cf:tB a with
 | false=>rfl
 | true =>
  rw [if_neg (by simp),if_pos rfl,aDl s hn];simp only [bGi];by_cases i:uB s b=0
  ·rw [if_neg (by simpa using i),if_pos i];unfold oH aCh;rw [aDl s p];simp only [bGi];by_cases c:uB s a=0
   ·rw [if_neg (by simpa using c),if_pos c,h.find];simp only [bGi];have hb:=h.begin hk;have hr:=h.rise;have hlen:=h.len;rcases aB0 hr a with ⟨P,x,D,e,hx⟩ | ⟨P,D,e,q,r⟩
    ·rw [e] at hr;have j:has s.f0 a=true:=by rw [e];exact aDi hx hr
     have u:pos s.f0 a=P.length:=by rw [e];exact aBr hx hr
     have l:get s.f0 a=some x:=by rw [e];exact vE hx hr
     have hl:s.f0.length=P.length+(D.length+1):=by rw [e];simp
     have t:(step s).f0=P++x::D:=e;rw [j,u,l,if_neg (by simp),hb];simp only [bGi];cases c3:(step s).f3 with
     | true=>rfl
     | false =>
      unfold nM;rw [if_neg (by simp),if_neg (by simp),bB rfl (show (step s).f0[P.length]?=some x by rw [t];simp)];simp only [bGi];have v:(step s).f0.eraseIdx (P.length:Int).toNat=P++D:=by rw [t,Int.toNat_natCast,List.eraseIdx_append_of_length_le (Nat.le_refl _),Nat.sub_self,List.eraseIdx_cons_zero]
      have w:del s.f0 a=P++D:=by rw [e];exact aHd hx hr
      have f:lX (P++D):=aSc hr;rw [lt_,w64 (by omega) (by omega),bJ rfl,v,w,aQl _ f (by show (P++D).length<_;rw [List.length_append];omega)];simp only [bGi];rcases aB0 f b with ⟨d,x',g,e',m⟩ | ⟨d,g,e',n,o⟩
      ·rw [e'] at f ⊢;rw [aDi m f,aBr m f,if_pos rfl,bB rfl (show (d++x'::g)[d.length]?=some x' by simp)];simp only [bGi];rw [aBs (y:=⟨b,x.f1,x.f2⟩) m f,Int.toNat_natCast,show (d++x'::g).set d.length (⟨b,x.f1,x.f2⟩:S98)=d++⟨b,x.f1,x.f2⟩::g by simp, ← c3]
      ·have z:P.length+D.length=d.length+g.length:=by rw [← List.length_append,e',List.length_append]
       rw [e'];rw [aDh n o,aL5 n o,if_neg (by simp)];unfold aPf;rw [if_pos ⟨by omega,by rw [List.length_append];omega,by simp,by rw [List.length_append];simp only [List.length_singleton];omega⟩];simp only [bGi];rw [aDt (y:=⟨b,x.f1,x.f2⟩) n o,Int.toNat_natCast,List.take_left,List.drop_left, ← c3];simp
    ·rw [e] at hr;have j:has s.f0 a=false:=by rw [e];exact aDh q r
     have l:get s.f0 a=none:=by rw [e];exact yD q r
     rw [j,l,if_pos (by simp)];rfl
   ·rw [if_pos (by simpa using c),if_neg c];rfl
  ·rw [if_pos (by simpa using i),if_neg i]
theorem aYl (h:uB s n=0):tB n=true/\s.f3=false:=by
 unfold uB at h;split at h
 ·split at h
  ·cases h
  ·exact⟨by assumption,by simpa using (by assumption:¬ s.f3=true)⟩
 ·cases h
theorem SI.app (h:SI k s) {p:List Int} (hp:∀ b∈p,0<=b/\b<256):SI (k+1) (rB s n p).2:=by
 unfold rB;split
 ·rename_i c;split
  ·exact h.mono (Nat.le_succ k)
  ·rename_i c1;have hs:=h.stepped;have hu:=aC3 h.rise ⟨n,((get s.f0 n).getD ⟨n,[],0⟩).f1++p,((get s.f0 n).getD ⟨n,[],0⟩).f2⟩;have hl:=aFd h.rise ⟨n,((get s.f0 n).getD ⟨n,[],0⟩).f1++p,((get s.f0 n).getD ⟨n,[],0⟩).f2⟩;have d:∀ y,y=(get s.f0 n).getD ⟨n,[],0⟩->(0<=y.f2/\y.f2<=y.f1.length)/\∀ b∈y.f1,0<=b/\b<256:=by
    intro y a;cases hg:get s.f0 n with
    | none=>rw [hg] at a;subst a;simp
    | some x=>rw [hg] at a;subst a;exact⟨h.sure _ (yE hg).1,h.byt _ (yE hg).1⟩
   obtain⟨f,e⟩:=d _ rfl;have hlen:=h.len;have g:=h.use;have i:=h.room;refine⟨aN1 h.rise _,λx hx=>?_,?_,hs.room,?_,λx hx=>?_,λx hx=>?_,hs.armed,hs.ops⟩
   ·rcases aHi hx with rfl | hx
    ·exact (aYl c).1
    ·exact h.form x hx
   ·show (put s.f0 _).length<=500;rw [hl];split
    ·exact hlen
    ·rename_i hi;have hi':get s.f0 n=none:=by simpa using hi
     have:¬ 500<=s.f0.length:=λq=>c1 (.inr ⟨by rw [hi'];rfl,q⟩);omega
   ·show ((used (put s.f0 _):Nat):Int)<=s.f1;simp only [List.length_append] at hu;have:¬ s.f1 - used s.f0<p.length:=λq=>c1 (.inl q);omega
   ·rcases aHi hx with rfl | hx
    ·simp only [List.length_append];omega
    ·exact h.sure x hx
   ·rcases aHi hx with rfl | hx
    ·intro b hb;rcases List.mem_append.1 hb with hb | hb
     ·exact e b hb
     ·exact hp b hb
    ·exact h.byt x hx
 ·exact h.mono (Nat.le_succ k)
theorem SI.putS (h:SI k s) {l:List S98} (hl:lX l) (hs:∀ x∈l,x∈s.f0) (y:S98) (hf:tB y.f0=true) (hn:(put l y).length<=500) (hu:(used (put l y):Int)<=s.f1) (c:0<=y.f2/\y.f2<=y.f1.length) (hb:∀ b∈y.f1,0<=b/\b<256) {a:Int} (d:0<=a/\a<=9223372036854775807) {f:Bool} {o:Int} (e:0<=o/\o<=(k+1:Nat)) :
  SI (k+1) ⟨put l y,s.f1,a,f,o⟩:=by
 refine⟨aN1 hl _,λx hx=>?_,hn,h.room,hu,λx hx=>?_,λx hx=>?_,d,e⟩
 all_goals rcases aHi hx with rfl | hx
 ·exact hf
 ·exact h.form x (hs x hx)
 ·exact c
 ·exact h.sure x (hs x hx)
 ·exact hb
 ·exact h.byt x (hs x hx)
theorem SI.chg (h:SI k s) {f:S98->List S98} (hf:∀ x,get s.f0 n=some x->SI (k+1) { step s with f0:=f x }):SI (k+1) (aCh s n f).2:=by
 unfold aCh;split
 ·split
  ·exact h.mono (Nat.le_succ k)
  ·rename_i x hx;split
   ·exact h.stepped
   ·exact hf x hx
 ·exact h.mono (Nat.le_succ k)
theorem SI.syn (h:SI k s):SI (k+1) (aD5 s n).2:=by refine h.chg λx hx=>?_;obtain⟨hm,hn⟩:=yE hx;have hl:=aFd h.rise ⟨x.f0,x.f1,x.f1.length⟩;have hu:=aC3 h.rise ⟨x.f0,x.f1,x.f1.length⟩;subst hn;simp only at hl hu;rw [hx] at hl hu;simp only [Option.isSome_some,if_true,Option.getD_some] at hl hu;exact h.putS h.rise (λ_ h=>h) ⟨x.f0,x.f1,x.f1.length⟩ (h.form x hm) (by rw [hl];exact h.len) (by have:=h.use;omega) ⟨by simp,by simp⟩ (h.byt x hm) h.stepped.armed h.stepped.ops
theorem SI.del (h:SI k s):SI (k+1) (uJ s n).2:=by refine h.chg λx hx=>?_;have hl:=aLw h.rise n;have hu:=aJd h.rise n;exact⟨zA h.rise n,λy a=>h.form y (aHc a),by show (P.del s.f0 n).length<=500;have:=h.len;omega,h.room,by show (used (P.del s.f0 n):Int)<=s.f1;have:=h.use;omega,λy a=>h.sure y (aHc a),λy a=>h.byt y (aHc a),h.stepped.armed,h.stepped.ops⟩
theorem SI.ren (h:SI k s) {a b:List UInt8}:SI (k+1) (aPt s a b).2:=by
 unfold aPt;split
 ·split
  ·rename_i c;refine h.chg λx hx=>?_;obtain⟨hm,hn⟩:=yE hx;have hl:=aLw h.rise a;have hu:=aJd h.rise a;have d:=aFd (zA h.rise a) ⟨b,x.f1,x.f2⟩;have e:=aC3 (zA h.rise a) ⟨b,x.f1,x.f2⟩;rw [hx] at hl hu;simp only [Option.isSome_some,if_true,Option.getD_some] at hl hu d e;have g:=h.len;have i:=h.use;exact h.putS (zA h.rise a) (λy f=>aHc f) ⟨b,x.f1,x.f2⟩ (aYl c).1 (by rw [d];split <;> omega) (by omega) (h.sure x hm) (h.byt x hm) h.stepped.armed h.stepped.ops
  ·exact h.mono (Nat.le_succ k)
 ·exact h.mono (Nat.le_succ k)
end
def onS (l:List S98) (room ops:Int):S77:=⟨l,room,0,false,ops⟩
theorem aP2 {r:Int} (h:1<=r) (a:r<=16777216):yI r=some (some (onS [] r 0),0):=by unfold yI;rw [if_neg (by simp;omega)];unfold vC;rw [if_neg (by simp;omega)];rfl
theorem aZf {r:Int} (h:1<=r) (a:r<=16777216):SI 0 (onS [] r 0) :=
 ⟨List.Pairwise.nil,λx hx=>(by cases hx),Nat.zero_le _,⟨h,a⟩,by show ((0:Nat):Int)<=r;omega,λx hx=>(by cases hx),λx hx=>(by cases hx),⟨Int.le_refl 0,by show (0:Int)<=9223372036854775807;decide⟩,⟨Int.le_refl 0,Int.le_refl 0⟩⟩
structure AI (k i:Nat) (s:S77):Prop where
 si:SI i s
 room:s.f1=5000
 left:s.f2=(k:Int)+1 - i
 off:s.f3=decide (i=k+1)
 one:∃ p t,s.f0=[⟨[97],p,t⟩]/\p.length<=i
structure RI (n:Int) (i:Nat) (l:List S98) (ops:Int):Prop where
 si:SI (2 * i) (onS l n ops)
 len:l.length<=i
theorem bDm {x:Int} (h:gI .u8 x):0<=x/\x<256:=by unfold gI Lit.wf at h;simp only [Bool.and_eq_true,decide_eq_true_eq] at h;exact⟨h.1,Int.lt_of_le_of_lt h.2 (by decide)⟩
section
end
section
variable {k:Nat} {s:S77} {n:List UInt8}
end
section
variable {k:Nat} {s:S77} {n:List UInt8}
end
section
variable {k:Nat} {s:S77} {n:List UInt8}
theorem aDx {l:List Int} (h:∀ b∈l,0<=b/\b<256):stb (bts l)=l:=by
 induction l with
 | nil=>rfl
 | cons b l ih =>
  have hb:=h b (List.mem_cons_self ..);show ((UInt8.ofNat b.toNat).toNat:Int)::stb (bts l)=_;rw [ih λx hx=>h x (List.mem_cons_of_mem _ hx)];congr 1;rw [UInt8.toNat_ofNat'];omega
end
section
variable {k:Nat} {s:S77} {n:List UInt8}
end
theorem wL (a:Nat):IntKind.u32.wrap (a:Int)=((a % 4294967296:Nat):Int):=by rw [IntKind.wrap_u32];omega
theorem aNn {a b:Nat} (c:a<4294967296) (hb:b<4294967296):aBk .u32 (a:Int) (b:Int)=((a &&& b:Nat):Int):=by unfold aBk;rw [fH,fH,wL];have h:a &&& b<4294967296:=Nat.lt_of_le_of_lt Nat.and_le_left c;simp only [BitVec.toNat_and,BitVec.toNat_ofNat,show IntKind.u32.bits=32 from rfl];rw [Nat.mod_eq_of_lt (show a<2 ^ 32 by omega),Nat.mod_eq_of_lt (show b<2 ^ 32 by omega),Nat.mod_eq_of_lt h]
theorem aLs {a b:Nat} (c:a<4294967296) (hb:b<4294967296):ior .u32 (a:Int) (b:Int)=((a ||| b:Nat):Int):=by unfold ior;rw [fH,fH,wL];have h:a ||| b<2 ^ 32:=Nat.or_lt_two_pow (show a<2 ^ 32 by omega) (show b<2 ^ 32 by omega);simp only [BitVec.toNat_or,BitVec.toNat_ofNat,show IntKind.u32.bits=32 from rfl];rw [Nat.mod_eq_of_lt (show a<2 ^ 32 by omega),Nat.mod_eq_of_lt (show b<2 ^ 32 by omega),Nat.mod_eq_of_lt (show a ||| b<4294967296 from h)]
theorem aCk {a b:Nat} (c:a<4294967296) (hb:b<4294967296):aAx .u32 (a:Int) (b:Int)=((a ^^^ b:Nat):Int):=by unfold aAx;rw [fH,fH,wL];have h:a ^^^ b<2 ^ 32:=Nat.xor_lt_two_pow (show a<2 ^ 32 by omega) (show b<2 ^ 32 by omega);simp only [BitVec.toNat_xor,BitVec.toNat_ofNat,show IntKind.u32.bits=32 from rfl];rw [Nat.mod_eq_of_lt (show a<2 ^ 32 by omega),Nat.mod_eq_of_lt (show b<2 ^ 32 by omega),Nat.mod_eq_of_lt (show a ^^^ b<4294967296 from h)]
theorem aIl (a n:Nat) (h:n<=32):wT .u32 (a:Int) (n:Int)=((a * 2 ^ n % 4294967296:Nat):Int):=by unfold wT;rw [Int.toNat_natCast,show min n IntKind.u32.bits=n from Nat.min_eq_left h,aFv, ← Int.natCast_mul,wL]
theorem aBa {a b:Nat} (c:a<4294967296) (hb:b<4294967296):a ^^^ b<4294967296:=Nat.xor_lt_two_pow (n:=32) c hb
def s1 (c:Nat):Nat:=if c % 2=1 then (c / 2) ^^^ 3988292384 else c / 2
theorem bDh {c:Nat} (h:c<4294967296):s1 c<4294967296:=by
 unfold s1;split
 ·exact aBa (by omega) (by decide)
 ·omega
theorem bAi (a b:Nat):s1 (a ^^^ b)=s1 a ^^^ s1 b:=by
 unfold s1;have h:=Nat.xor_mod_two_eq_one (a:=a) (b:=b);rw [Nat.xor_div_two];by_cases c:a % 2=1 <;> by_cases hb:b % 2=1
 ·rw [if_neg (by rw [h];simp [c,hb]),if_pos c,if_pos hb];rw [show (a / 2 ^^^ 3988292384) ^^^ (b / 2 ^^^ 3988292384)=(a / 2 ^^^ b / 2) ^^^ (3988292384 ^^^ 3988292384) by
   rw [Nat.xor_assoc, ← Nat.xor_assoc 3988292384,Nat.xor_comm 3988292384 (b / 2),Nat.xor_assoc (b / 2), ← Nat.xor_assoc]]
  simp
 ·rw [if_pos (by rw [h];simp [c,hb]),if_pos c,if_neg hb,Nat.xor_assoc,Nat.xor_comm (b / 2), ← Nat.xor_assoc]
 ·rw [if_pos (by rw [h];simp [c,hb]),if_neg c,if_pos hb,Nat.xor_assoc]
 ·rw [if_neg (by rw [h];simp [c,hb]),if_neg c,if_neg hb]
theorem aW4 (a:Nat):s1 (2 * a)=a:=by unfold s1;rw [if_neg (by omega)];omega
theorem aW3 (a z:Nat):s1 (2 * a ^^^ z)=a ^^^ s1 z:=by rw [bAi,aW4]
def st (x:Nat):Nat->Nat->Nat
 | 0,c=>c
 | k+1,c=>s1 (st x k c ^^^ (x / 2 ^ k % 2))
theorem aYx (x:Nat) {c:Nat} (h:c<4294967296):∀ k,st x k c<4294967296
 | 0=>h
 | k+1=>bDh (aBa (aYx x h k) (by omega))
def tabN:List Nat:=[0,498536548,997073096,651767980,1994146192,1802195444,1303535960,1342533948,3988292384,4027552580,3604390888,3412177804,2607071920,2262029012,2685067896,3183342108]
theorem bAm:bQ=tabN.map λn:Nat=>(n:Int):=by decide
def F4 (r m:Nat):Nat:=s1 (s1 (s1 (s1 (r ^^^ m / 1 % 2) ^^^ m / 2 % 2) ^^^ m / 4 % 2) ^^^ m / 8 % 2)
theorem aSr:∀ r<16,∀ m<16,tabN[r ^^^ m]?=some (F4 r m):=by decide +kernel
theorem aW6 (c:Nat):c=(16 * (c / 16)) ^^^ (c % 16):=by
 apply Nat.eq_of_testBit_eq;intro i;rw [Nat.testBit_xor,show 16 * (c / 16)=2 ^ 4 * (c / 2 ^ 4) from rfl,show c % 16=c % 2 ^ 4 from rfl,Nat.testBit_two_pow_mul,Nat.testBit_mod_two_pow,Nat.testBit_div_two_pow];by_cases h:i<4
 ·simp [h,Nat.not_le.2 h]
 ·rw [show i - 4+4=i by omega];simp [h,Nat.le_of_not_lt h]
theorem nib (c m:Nat):s1 (s1 (s1 (s1 (c ^^^ m / 1 % 2) ^^^ m / 2 % 2) ^^^ m / 4 % 2) ^^^ m / 8 % 2)=(c / 16) ^^^ F4 (c % 16) m:=by have h:=aW6 c;obtain⟨q,a⟩:∃ q,q=c / 16:=⟨_,rfl⟩;obtain⟨r,hr⟩:∃ r,r=c % 16:=⟨_,rfl⟩;rw [← a, ← hr] at h ⊢;rw [h];unfold F4;rw [Nat.xor_assoc,show 16 * q=2 * (8 * q) by omega,aW3,Nat.xor_assoc,show 8 * q=2 * (4 * q) by omega,aW3,Nat.xor_assoc,show 4 * q=2 * (2 * q) by omega,aW3,Nat.xor_assoc,aW3]
theorem st8 (x c:Nat) (hx:x<256):st x 8 c=(((c / 16) ^^^ F4 (c % 16) (x % 16)) / 16) ^^^ F4 (((c / 16) ^^^ F4 (c % 16) (x % 16)) % 16) (x / 16):=by
 rw [← nib c (x % 16), ← nib _ (x / 16)];show s1 (s1 (s1 (s1 (s1 (s1 (s1 (s1 (c ^^^ x / 2 ^ 0 % 2) ^^^ x / 2 ^ 1 % 2) ^^^ x / 2 ^ 2 % 2) ^^^ x / 2 ^ 3 % 2) ^^^ x / 2 ^ 4 % 2) ^^^ x / 2 ^ 5 % 2) ^^^ x / 2 ^ 6 % 2) ^^^ x / 2 ^ 7 % 2)=_;rw [show x / 2 ^ 0 % 2=x % 16 / 1 % 2 by omega,show x / 2 ^ 1 % 2=x % 16 / 2 % 2 by omega,show x / 2 ^ 2 % 2=x % 16 / 4 % 2 by omega,show x / 2 ^ 3 % 2=x % 16 / 8 % 2 by omega,
  show x / 2 ^ 4 % 2=x / 16 / 1 % 2 by omega,show x / 2 ^ 5 % 2=x / 16 / 2 % 2 by omega,show x / 2 ^ 6 % 2=x / 16 / 4 % 2 by omega,show x / 2 ^ 7 % 2=x / 16 / 8 % 2 by omega]
def aH1 (c:Nat) (xs:List Int):Nat:=xs.foldl (λc x=>st x.toNat 8 c) c
theorem aHb:∀ (xs:List Int) {c:Nat},c<4294967296->aH1 c xs<4294967296
 | [],_,h=>h
 | x::xs,c,h=>aHb xs (aYx _ h 8)
theorem aRu (c:Nat) (xs:List Int) (x:Int):aH1 c (xs++[x])=st x.toNat 8 (aH1 c xs):=by simp [aH1]
theorem aXx {r m:Nat} (hr:r<16) (hm:m<16):at_ bQ ((r ^^^ m:Nat):Int)=some ((F4 r m:Nat):Int):=by rw [aOr,bAm,List.getElem?_map,aSr r hr m hm];rfl
theorem aY8 (a b:Nat):(a ^^^ b) &&& 15=a % 16 ^^^ b % 16:=by rw [show 15=2 ^ 4 - 1 from rfl,Nat.and_two_pow_sub_one_eq_mod,Nat.xor_mod_two_pow]
theorem aXy {r m:Nat} (hr:r<16) (hm:m<16):F4 r m<4294967296:=by
 have:=aSr r hr m hm;have h:∀ x∈tabN,x<4294967296:=by decide
 exact h _ (List.mem_of_getElem? this)
theorem aR7 {xs:List Int} (hB:Bs xs) (hl:xs.length<2 ^ 60) {k:Nat} (hk:k<xs.length) {c:Nat} (hc:c<4294967296) :
  nR xs (c:Int) (k:Int)=some (.inl (((st (xs[k]'hk).toNat 8 c:Nat):Int),((k+1:Nat):Int))):=by
 obtain⟨x,hx⟩:∃ x,x=xs[k]'hk:=⟨_,rfl⟩;have f:=hB x (hx▸List.getElem_mem hk);obtain⟨b,rfl⟩:=Int.eq_ofNat_of_zero_le f.1;have hb:b<256:=by omega
 have hg:xs[k]?=some (b:Int):=by rw [hx];exact List.getElem?_eq_getElem hk
 rw [← hx,Int.toNat_natCast,st8 b c hb];unfold nR;simp only [lt_];rw [if_pos (by simp;omega),bB rfl hg];simp only [bGi];have e:(15:Int)=((15:Nat):Int):=rfl;have g:(4:Int)=((4:Nat):Int):=rfl;have hf:F4 (c % 16) (b % 16)<4294967296:=aXy (by omega) (by omega);have hd:c / 16 ^^^ F4 (c % 16) (b % 16)<4294967296:=aBa (by omega) hf;obtain⟨d,a⟩:∃ d,d=c / 16 ^^^ F4 (c % 16) (b % 16):=⟨_,rfl⟩;rw [← a] at hd ⊢;rw [wL,Nat.mod_eq_of_lt (by omega),aCk hc (by omega),e,aNn (aBa hc (by omega)) (by decide),aY8,aXx (by omega) (by omega),g];simp only [bGi];rw [lG _ _ (by decide),lG _ _ (by decide),show c / 2 ^ 4=c / 16 from rfl,show b / 2 ^ 4=b / 16 from rfl,aCk hf (by omega),Nat.xor_comm _ (c / 16), ← a,aCk hd (by omega),
  aNn (aBa hd (by omega)) (by decide),aY8,show b / 16 % 16=b / 16 by omega,aXx (by omega) (by omega)]
 simp only [bGi];rw [lG _ _ (by decide),show d / 2 ^ 4=d / 16 from rfl,aCk (aXy (by omega) (by omega)) (by omega),Nat.xor_comm _ (d / 16),w64 (by omega) (by omega)];rfl
theorem aU9 (c:Nat) {xs:List Int} {k:Nat} (hk:k<xs.length):aH1 c (xs.take (k+1))=st (xs[k]'hk).toNat 8 (aH1 c (xs.take k)):=by rw [List.take_add_one,List.getElem?_eq_getElem hk];exact aRu _ _ _
def crc (xs:List Int):Nat:=aH1 4294967295 xs ^^^ 4294967295
theorem aOx (xs:List Int):crc xs<4294967296:=aBa (aHb xs (by decide)) (by decide)
theorem aGw {xs:List Int} (hB:Bs xs) (hl:xs.length<2 ^ 60):aA2 xs=some ((crc xs:Nat):Int):=by
 have h:=iY (b:=λs:Int×Int=>nR xs s.1 s.2) (λk=>(((aH1 4294967295 (xs.take k):Nat):Int),(k:Int))) (t:=((aH1 4294967295 xs:Nat):Int)) xs.length (λk hk=>by
  show nR xs _ _=_;rw [aR7 hB hl hk (aHb _ (by decide)),aU9 _ hk]) (by
  show nR xs ((aH1 4294967295 (xs.take xs.length):Nat):Int) (xs.length:Int)=_;unfold nR;rw [if_neg (by simp),List.take_length])
 unfold aA2;rw [show ((4294967295,0):Int×Int)=(((aH1 4294967295 (xs.take 0):Nat):Int),((0:Nat):Int)) from rfl,h];show some (aAx .u32 IntKind.u32.max _)=_;rw [show IntKind.u32.max=((4294967295:Nat):Int) by decide,aCk (by decide) (aHb _ (by decide)),Nat.xor_comm];rfl
def aB5 (v:List Int):Nat:=(v.getD 0 0).toNat+256 * (v.getD 1 0).toNat+65536 * (v.getD 2 0).toNat+16777216 * (v.getD 3 0).toNat
theorem aQo {v:List Int} (hB:Bs v) (h:4<=v.length):∃ a b c d:Nat,∃ r,v=(a:Int)::b::c::d::r/\a<256/\b<256/\c<256/\d<256:=by
 match v,h with
 | a::b::c::d::r,_ =>
  have e:=hB a (by simp);have hb:=hB b (by simp);have hc:=hB c (by simp);have hd:=hB d (by simp);obtain⟨a,rfl⟩:=Int.eq_ofNat_of_zero_le e.1;obtain⟨b,rfl⟩:=Int.eq_ofNat_of_zero_le hb.1;obtain⟨c,rfl⟩:=Int.eq_ofNat_of_zero_le hc.1;obtain⟨d,rfl⟩:=Int.eq_ofNat_of_zero_le hd.1;exact⟨a,b,c,d,r,rfl,by omega,by omega,by omega,by omega⟩
theorem aL0 (a b c d:Nat) (r:List Int):aB5 ((a:Int)::b::c::d::r)=a+256 * b+65536 * c+16777216 * d:=by simp [aB5]
theorem aWs {v:List Int} (hB:Bs v) (h:4<=v.length):aB5 v<4294967296:=by obtain⟨a,b,c,d,r,rfl,e,f,g,i⟩:=aQo hB h;rw [aL0];omega
theorem at0 {α:Type} (a b c d:α) (r:List α):at_ (a::b::c::d::r) 0=some a/\at_ (a::b::c::d::r) 1=some b/\at_ (a::b::c::d::r) 2=some c/\at_ (a::b::c::d::r) 3=some d :=
 ⟨bB (n:=0) rfl rfl,bB (n:=1) rfl rfl,bB (n:=2) rfl rfl,bB (n:=3) rfl rfl⟩
theorem aCq {v:List Int} (hB:Bs v) (h:4<=v.length):uE v=some (aB5 v:Int):=by obtain⟨a,b,c,d,r,rfl,i,j,k,l⟩:=aQo hB h;obtain⟨e0,e,f,g⟩:=at0 (a:Int) (b:Int) (c:Int) (d:Int) r;unfold uE;simp only [lt_,e0,e,f,g,bGi];rw [show (8:Int)=((8:Nat):Int) from rfl,show (16:Int)=((16:Nat):Int) from rfl,show (24:Int)=((24:Nat):Int) from rfl];rw [wL a,wL b,wL c,wL d,Nat.mod_eq_of_lt (show a<4294967296 by omega),Nat.mod_eq_of_lt (show b<4294967296 by omega),Nat.mod_eq_of_lt (show c<4294967296 by omega),Nat.mod_eq_of_lt (show d<4294967296 by omega)];rw [aIl b 8 (by decide),aIl c 16 (by decide),aIl d 24 (by decide),Nat.mod_eq_of_lt (show b * 2 ^ 8<4294967296 by omega),Nat.mod_eq_of_lt (show c * 2 ^ 16<4294967296 by omega),Nat.mod_eq_of_lt (show d * 2 ^ 24<4294967296 by omega)];rw [aLs (by omega) (by omega),aBo (show a<2 ^ 8 by omega),aLs (by omega) (by omega),aBo (show a+b * 2 ^ 8<2 ^ 16 by omega),aLs (by omega) (by omega),aBo (show a+b * 2 ^ 8+c * 2 ^ 16<2 ^ 24 by omega),aL0];congr 2;omega
theorem aGo {l:List Int} (h:l.length<=140737488355328):dH l=some l:=by unfold dH;rw [bJ (by simp;omega)];unfold tE;cases l <;> simp
def aA1 (b:List Int) (a:Int):Int×List Int×Int×Int:=if a<0\/(b.length:Int)<a then (0,[],0,1) else
 if (b.drop a.toNat).length<9 then (0,[],0,3) else
 if 1048576<aB5 (b.drop a.toNat)\/(b.drop a.toNat).length - 9<aB5 (b.drop a.toNat) then (0,[],0,3) else
 if crc ((b.drop a.toNat).take (5+aB5 (b.drop a.toNat)))=aB5 ((b.drop a.toNat).drop (5+aB5 (b.drop a.toNat))) then
  ((b.drop a.toNat).getD 4 0,((b.drop a.toNat).take (5+aB5 (b.drop a.toNat))).drop 5,a+aB5 (b.drop a.toNat)+9,0) else (0,[],0,4)
theorem bCw {v:List Int} (h:5<=v.length):at_ v 4=some (v.getD 4 0):=by refine bB (n:=4) rfl ?_;rw [List.getD_eq_getElem?_getD,List.getElem?_eq_getElem (by omega)];rfl
theorem aQa {α:Type} {xs:List α} {l:Nat} (h:l<=xs.length):kD xs (l:Int) (xs.length:Int)=some (xs.drop l):=by rw [oG h (Nat.le_refl _),List.take_length]
theorem yG {b:List Int} {a:Int} (hB:Bs b) (hl:b.length<2 ^ 40):sI b a=some (aA1 b a):=by
 unfold sI aA1;by_cases h0:a<0
 ·rw [if_pos (by simpa using h0),if_pos (.inl h0)];rfl
 rw [if_neg (by simpa using h0)];by_cases d:(b.length:Int)<a
 ·rw [if_pos (.inr d),show decide ((b.length:Int)<a)=true by simpa using d];rfl
 rw [if_neg (by omega),show decide ((b.length:Int)<a)=false by simpa using d];obtain⟨k,rfl⟩:=Int.eq_ofNat_of_zero_le (show 0<=a by omega);have c:=hB.drop k;have h:(b.drop k).length=b.length - k:=by simp
 have hc:=aQa (xs:=b) (l:=k) (by omega);rw [Int.toNat_natCast];obtain⟨v,i⟩:∃ v,v=b.drop k:=⟨_,rfl⟩;rw [← i] at c h hc ⊢;unfold vJ;rw [if_neg (by simp),hc];simp only [bGi];by_cases e:v.length<9
 ·rw [if_pos (by simp;omega),if_pos e]
 rw [if_neg (by simp;omega),if_neg e,aCq c (by omega)];simp only [bGi];have g:=aWs c (by omega);have j:=aOx (v.take (5+aB5 v));obtain⟨n,hn⟩:∃ n,n=aB5 v:=⟨_,rfl⟩;rw [← hn] at g j ⊢;by_cases m:1048576<n
 ·rw [if_pos (by simp;omega),if_pos (.inl m)];rfl
 rw [if_neg (by simp;omega),lt_,lt_,w64 (by omega) (by omega),w64 (by omega) (by omega)];by_cases o:v.length - 9<n
 ·rw [if_pos (.inr o),show decide ((v.length:Int) - 9<(n:Int))=true by simp;omega];rfl
 rw [if_neg (by omega),show decide ((v.length:Int) - 9<(n:Int))=false by simp;omega];unfold vK;rw [if_neg (by simp)];simp only [lt_];rw [w64 (n:=(n:Int)) (by omega) (by omega),w64 (n:=5+(n:Int)) (by omega) (by omega),show (5:Int)+(n:Int)=((5+n:Nat):Int) by omega,
  show kD v 0 ((5+n:Nat):Int)=some ((v.take (5+n)).drop 0) from oG (l:=0) (Nat.zero_le _) (by omega),List.drop_zero]
 simp only [bGi];rw [aQa (by omega)];simp only [bGi];rw [aGw (c.take _) (by simp;omega)];simp only [bGi];rw [aCq (c.drop _) (by simp;omega)];simp only [bGi];by_cases f:crc (v.take (5+n))=aB5 (v.drop (5+n))
 ·rw [if_neg (by simp;omega),if_pos f,bCw (by omega)];simp only [bGi];rw [show kD v 5 ((5+n:Nat):Int)=some ((v.take (5+n)).drop 5) from oG (l:=5) (by omega) (by omega)];simp only [bGi];rw [aGo (by simp;omega)];simp only [bGi];rw [w64 (n:=(k:Int)+((5+n:Nat):Int)) (by omega) (by omega),w64 (by omega) (by omega)];congr 4;omega
 ·rw [if_pos (by simp;omega),if_neg f]
theorem aUo {b:List Int} {a:Int} (hB:Bs b):Bs (aA1 b a).2.1/\(aA1 b a).2.1.length<=1048576:=by
 unfold aA1
 repeat' split
 all_goals first
  | exact⟨Bs.nil,by simp⟩
  | exact⟨((hB.drop _).take _).drop _,by simp;omega⟩
def pTx:Nat->List Int->Option (List (List UInt8)×List Int)
 | 0,xs=>some ([],xs)
 | n+1,xs=>match pT 1048576 xs with
  | some (t,r)=>match pTx n r with
   | some (ts,r')=>some (t::ts,r')
   | none=>none
  | none=>none
theorem aQ0 {most:Int} {xs r:List Int} {t:List UInt8} (h:pT most xs=some (t,r)):t.length<=xs.length:=by
 unfold pT at h;split at h
 ·rename_i n r' he;obtain⟨_,p,hp,_⟩:=tL he;split at h
  ·cases h;rw [hp];simp [bts];omega
  ·cases h
 ·cases h
theorem aUn:∀ (n:Nat) {xs:List Int} {ts:List (List UInt8)} {r:List Int},Bs xs->pTx n xs=some (ts,r)->Bs r/\r.length<=xs.length/\ts.length=n/\∀ t∈ts,t.length<=xs.length
 | 0,xs,ts,r,hB,h=>by cases h;exact⟨hB,Nat.le_refl _,rfl,λt ht=>by cases ht⟩
 | n+1,xs,ts,r,hB,h=>by
  unfold pTx at h;split at h
  ·rename_i t g he;obtain⟨b,i⟩:=aQy hB he;split at h
   ·rename_i us j c;cases h;obtain⟨d,k,e,f⟩:=aUn n b c;refine⟨d,by omega,by simp [e],λq a=>?_⟩;rcases List.mem_cons.1 a with rfl | a
    ·exact aQ0 he
    ·have:=f q a;omega
   ·cases h
  ·cases h
theorem aJw:∀ (m k:Nat) (a:List (List Int)) (xs:List Int),Bs xs->xs.length<1099511627776->k+m=5->a.length=5 ->
  ∃ y,loop (λs:List Int×List (List Int)×Int=>gE s.1 s.2.1 s.2.2) (xs,a,(k:Int))=some y/\match pTx m xs with
   | some (ts,r)=>y=.inl (r,a.take k++ts.map stb)
   | none=>∃ s,y=.inr (.inr s)
 | 0,k,a,xs,hB,hl,hk,ha=>by
  refine⟨.inl (xs,a),bE ?_,?_⟩
  ·show gE xs a (k:Int)=_;unfold gE;rw [if_neg (by simp only [decide_eq_true_eq];omega)]
  ·show _=_;rw [List.take_of_length_le (by omega)];simp
 | m+1,k,a,xs,hB,hl,hk,ha=>by
  unfold pTx;rcases (aLb 1048576 hB (by omega)).cases with ⟨t,r,b,c⟩ | ⟨b,s,c⟩
  ·rw [b];obtain⟨d,g⟩:=aQy hB b;have h:=aQ0 b;obtain⟨y,f,hm⟩:=aJw m (k+1) (a.set k (stb t)) r d (by omega) (by omega) (by simpa using ha);have hx:=List.getElem?_eq_getElem (l:=a) (i:=k) (by omega);refine⟨y,(cD (s':=(r,a.set k (stb t),((k+1:Nat):Int))) ?_).trans f,?_⟩
   ·show gE xs a (k:Int)=_;unfold gE;rw [if_pos (by simp only [decide_eq_true_eq];omega),c];simp only [bGi,hT];rw [bJ (by simp only [maxLen];omega),bB rfl hx];simp only [bGi];rw [lt_,w64 (by omega) (by omega)];rfl
   ·have e:(a.set k (stb t)).take (k+1)=a.take k++[stb t]:=by rw [List.take_add_one,List.getElem?_set_self (by omega),List.take_set_of_le (by omega)];rfl
    dsimp only;cases hq:pTx m r with
    | none=>rw [hq] at hm;exact hm
    | some z =>
     rw [hq] at hm;obtain⟨ts,r'⟩:=z;simp only at hm ⊢;rw [hm,e];simp
  ·rw [b];refine⟨.inr (.inr (s,a)),bE ?_,_,rfl⟩;show gE xs a (k:Int)=_;unfold gE;rw [if_pos (by simp only [decide_eq_true_eq];omega),c];rfl
def pZ (x:S61) (k:Int):Bool:=decide (0<=x.f1)&&(decide (x.f1<k)&&(decide (-1099511627776<=x.f2)&&(decide (x.f2<=1099511627776)&&(decide ((x.f3.length:Int)<=32)&&decide (x.f0<1099511627776)))))
theorem aK6 (x:S61) (k:Int):vZ x k=some (pZ x k):=by unfold vZ pZ;cases decide (0<=x.f1) <;> cases decide (x.f1<k) <;> cases decide (-1099511627776<=x.f2) <;> cases decide (x.f2<=1099511627776) <;> cases decide ((x.f3.length:Int)<=32) <;> rfl
def aEc (k:Int):List Int->List Int->List Int->List (List UInt8)->List Nat->Option (List S61)
 | a::as_,b::bs,c::cs,d::ds,e::es =>
  if pZ ⟨IntKind.u64.wrap a,b,c,d,e⟩ k=true then (aEc k as_ bs cs ds es).map (⟨IntKind.u64.wrap a,b,c,d,e⟩::·) else none
 | _,_,_,_,_=>some []
theorem aKn (s:Int) (A B C:List Int) (D:List (List UInt8)) (F:List Nat) (i j k l m:Int) (hB:B.length=A.length) (hC:C.length=A.length) (f:D.length=A.length) (g:F.length=A.length) (hA:A.length<=4096) :
  ∀ (n q:Nat) (pre:List S61),q+n=A.length->pre.length=q ->
   loop (λz:List S61×Int=>lR s (A,i) (B,j) (C,k) (D,l) (F,m) z.1 z.2) (pre,(q:Int))=some (match aEc s (A.drop q) (B.drop q) (C.drop q) (D.drop q) (F.drop q) with
    | some es=>.inl (pre++es)
    | none=>.inr ([],0,3))
 | 0,q,pre,hq,hp=>by rw [List.drop_of_length_le (show A.length<=q by omega)];refine bE ?_;show lR s (A,i) (B,j) (C,k) (D,l) (F,m) pre (q:Int)=_;unfold lR aEc;rw [if_neg (by simp only [decide_eq_true_eq];omega)];simp
 | n+1,q,pre,hq,hp=>by
  have gA:=List.getElem?_eq_getElem (l:=A) (i:=q) (by omega);have gB:=List.getElem?_eq_getElem (l:=B) (i:=q) (by omega);have gC:=List.getElem?_eq_getElem (l:=C) (i:=q) (by omega);have gD:=List.getElem?_eq_getElem (l:=D) (i:=q) (by omega);have gF:=List.getElem?_eq_getElem (l:=F) (i:=q) (by omega);rw [List.drop_eq_getElem_cons (show q<A.length by omega),List.drop_eq_getElem_cons (show q<B.length by omega),List.drop_eq_getElem_cons (show q<C.length by omega),List.drop_eq_getElem_cons (show q<D.length by omega),List.drop_eq_getElem_cons (show q<F.length by omega)];generalize A[q]=a at *;generalize B[q]=b at *;generalize C[q]=c at *;generalize D[q]=d at *;generalize F[q]=e at *;have hs:lR s (A,i) (B,j) (C,k) (D,l) (F,m) pre (q:Int)=if pZ ⟨IntKind.u64.wrap a,b,c,d,e⟩ s=true then some (.inl (pre++[⟨IntKind.u64.wrap a,b,c,d,e⟩],((q+1:Nat):Int))) else some (.inr (.inr ([],0,3))):=by unfold lR;rw [if_pos (by simp only [decide_eq_true_eq];omega),bB rfl gA];simp only [bGi,lt_];rw [bB rfl gB,bB rfl gC,bB rfl gD,bB rfl gF];simp only [bGi,aK6];rw [bJ (by simp;omega),w64 (by omega) (by omega)];cases pZ ⟨IntKind.u64.wrap a,b,c,d,e⟩ s <;> rfl
  unfold aEc;by_cases hf:pZ ⟨IntKind.u64.wrap a,b,c,d,e⟩ s=true
  ·rw [if_pos hf] at hs ⊢;rw [cD (s':=(pre++[⟨IntKind.u64.wrap a,b,c,d,e⟩],((q+1:Nat):Int))) hs,aKn s A B C D F i j k l m hB hC f g hA n (q+1) (pre++[(⟨IntKind.u64.wrap a,b,c,d,e⟩:S61)]) (by omega) (by simp [hp])];cases aEc s (A.drop (q+1)) (B.drop (q+1)) (C.drop (q+1)) (D.drop (q+1)) (F.drop (q+1)) <;> simp
  ·rw [if_neg hf] at hs ⊢;rw [bE (t:=.inr ([],0,3)) hs]
theorem aH6 (l:List Int) (b:Int) (h:l.length<1099511627776):dJ l b=some (decide (b∈l)):=by
 unfold dJ fM;have key:∀ (m k:Nat),k+m=l.length->∃ y,loop (λs:Int=>bY l b s) (k:Int)=some y/\if b∈l.drop k then ∃ j:Nat,y=.inr (j:Int) else y=.inl ():=by
  intro m
  induction m with
  | zero =>
   intro k hk;refine⟨.inl (),bE ?_,?_⟩
   ·unfold bY;rw [if_neg (by simp only [decide_eq_true_eq];omega)]
   ·rw [List.drop_of_length_le (by omega),if_neg (by simp)]
  | succ m ih =>
   intro k hk;have c:k<l.length:=by omega
   have hx:=List.getElem?_eq_getElem c;have hd:l.drop k=l[k]::l.drop (k+1):=List.drop_eq_getElem_cons c;rw [hd];by_cases hb:b=l[k]
   ·refine⟨.inr (k:Int),bE ?_,?_⟩
    ·unfold bY;rw [if_pos (by simp only [decide_eq_true_eq];omega),bB rfl hx];simp only [bGi];rw [if_pos (by simpa using hb)]
    ·rw [if_pos (by rw [hb];exact List.mem_cons_self)];exact⟨k,rfl⟩
   ·obtain⟨y,a,hm⟩:=ih (k+1) (by omega);refine⟨y,(cD (s':=((k+1:Nat):Int)) ?_).trans a,?_⟩
    ·unfold bY;rw [if_pos (by simp only [decide_eq_true_eq];omega),bB rfl hx];simp only [bGi];rw [if_neg (by simpa using hb),lt_,w64 (by omega) (by omega)];rfl
    ·have he:(b∈l[k]::l.drop (k+1))=(b∈l.drop (k+1)):=propext ⟨λh=>(List.mem_cons.1 h).resolve_left hb,λh=>List.mem_cons_of_mem _ h⟩;simpa only [he] using hm
 obtain⟨y,a,hm⟩:=key l.length 0 (by omega);rw [show ((0:Nat):Int)=0 from rfl] at a;rw [a,List.drop_zero] at *;by_cases hb:b∈l
 ·rw [if_pos hb] at hm;obtain⟨j,rfl⟩:=hm;simp only [bGi];rw [show decide (0<=(j:Int))=true by simp,show decide (b∈l)=true by simpa using hb]
 ·rw [if_neg hb] at hm;subst hm;rw [show decide (b∈l)=false by simpa using hb];rfl
def evL (s:Int) (t0 f t2 t3 t4:List UInt8):Option (List S61):=match vO (stb t0),vO (stb f),vO (stb t2),aKk (stb t3),aN5 (stb t4) with
 | some a,some b,some c,some d,some e=>if b.length=a.length/\c.length=a.length/\d.length=a.length/\e.length=a.length then aEc s a b c d e else none
 | _,_,_,_,_=>none
def evR (b:List Int) (a s:Int):List S61×Int×Int:=if (aA1 b a).2.2.2≠0 then ([],0,(aA1 b a).2.2.2) else
 if (aA1 b a).1≠101 then ([],0,3) else
 match pTx 5 (aA1 b a).2.1 with
 | some ([t0,t1,t2,t3,t4],[])=>match evL s t0 t1 t2 t3 t4 with
  | some l=>(l,(aA1 b a).2.2.1,0)
  | none=>([],0,3)
 | _=>([],0,3)
theorem aHj (t:List UInt8):Bs (stb t):=λb hb=>by unfold stb at hb;obtain⟨c,_,rfl⟩:=List.mem_map.1 hb;have:=c.toNat_lt;omega
theorem yH (t:List UInt8):(stb t).length=t.length:=by simp [stb]
theorem aO4 (s:Int) (y:Int×List Int×Int×Int) (t0 a t2 t3 t4:List UInt8) (h0:t0.length<1099511627776) (g:a.length<1099511627776) (h:t2.length<1099511627776) (i:t3.length<1099511627776) (j:t4.length<1099511627776) :
  nY s y [stb t0,stb a,stb t2,stb t3,stb t4] true=some (match evL s t0 a t2 t3 t4 with | some l=>(l,y.2.2.1,0) | none=>([],0,3)):=by
 unfold nY evL;rw [if_neg (by simp)];rw [show at_ [stb t0,stb a,stb t2,stb t3,stb t4] 0=some (stb t0) from rfl,show at_ [stb t0,stb a,stb t2,stb t3,stb t4] 1=some (stb a) from rfl,show at_ [stb t0,stb a,stb t2,stb t3,stb t4] 2=some (stb t2) from rfl,show at_ [stb t0,stb a,stb t2,stb t3,stb t4] 3=some (stb t3) from rfl,show at_ [stb t0,stb a,stb t2,stb t3,stb t4] 4=some (stb t4) from rfl];simp only [bGi];rw [xS (aHj t0) (by rw [yH];omega)];simp only [bGi];rw [xS (aHj a) (by rw [yH];omega)];simp only [bGi];rw [xS (aHj t2) (by rw [yH];omega)];simp only [bGi];rw [aJl (aHj t3) (by rw [yH];omega)];simp only [bGi];rw [aJk (aHj t4) (by rw [yH];omega),show (vO (stb t4)).bind aGe=aN5 (stb t4) from rfl];simp only [bGi];rw [aH6 _ _ (by simp)];simp only [bGi];cases ha:vO (stb t0) with
 | none=>simp [fG]
 | some A =>
 cases hb:vO (stb a) with
 | none=>simp [fG]
 | some B =>
 cases hc:vO (stb t2) with
 | none=>simp [fG]
 | some C =>
 cases hd:aKk (stb t3) with
 | none=>simp [fG]
 | some D =>
 cases he:aN5 (stb t4) with
 | none=>simp [fG]
 | some F =>
 have f:=aKj ha;simp only;rw [if_neg (by simp)];by_cases b:B.length=A.length
 ·rw [if_neg (by simp [b])];by_cases c:C.length=A.length
  ·rw [if_neg (by simp [c])];by_cases d:D.length=A.length
   ·rw [if_neg (by simp [d])];by_cases e:F.length=A.length
    ·rw [if_pos ⟨b,c,d,e⟩,show ((F.length:Int) != (A.length:Int))=false by simp [e]];unfold fG;rw [if_neg (by simp),show ((0:Int))=((0:Nat):Int) from rfl,aKn s A B C D F _ _ _ _ _ b c d e f A.length 0 [] (by omega) rfl];simp only [List.drop_zero,List.nil_append];cases aEc s A B C D F <;> rfl
    ·rw [if_neg (by simp [e]),show ((F.length:Int) != (A.length:Int))=true by simp;omega];rfl
   ·rw [if_pos (by simp;omega),if_neg (by simp [d])];rfl
  ·rw [if_pos (by simp;omega),if_neg (by simp [c])];rfl
 ·rw [if_pos (by simp;omega),if_neg (by simp [b])];rfl
theorem aJo {b:List Int} {a s:Int} (hB:Bs b) (hl:b.length<2 ^ 40):zB b a s=some (evR b a s):=by
 unfold zB evR;rw [yG hB hl];simp only [bGi];obtain⟨hp,j⟩:=aUo (a:=a) hB;generalize aA1 b a=y at *;obtain⟨c,g,i,d⟩:=y;simp only at hp j ⊢;by_cases h:d=0
 ·rw [if_neg (show ¬ ((d != 0)=true) by simp [h]),if_neg (show ¬ (d≠0) by simp [h])];by_cases h0:c=101
  ·rw [if_pos (show (c==101)=true by simp [h0]),if_neg (show ¬ (c≠101) by simp [h0])];unfold vP yC;obtain⟨z,hz,hm⟩:=aJw 5 0 [[],[],[],[],[]] g hp (by omega) rfl rfl;rw [show ((0:Nat):Int)=0 from rfl] at hz;simp only;rw [hz];simp only [bGi];cases hq:pTx 5 g with
   | none =>
    rw [hq] at hm;obtain⟨e,rfl⟩:=hm;rfl
   | some w =>
    obtain⟨ts,r⟩:=w;obtain⟨l,m,k,f⟩:=aUn 5 hp hq;rw [hq] at hm;simp only at hm;subst hm
    match ts,k,f with
    | [t0,t1,t2,t3,t4],_,f =>
     have hc:=aO4 s (c,g,i,d) t0 t1 t2 t3 t4 (by have:=f t0 (by simp);omega) (by have:=f t1 (by simp);omega) (by have:=f t2 (by simp);omega) (by have:=f t3 (by simp);omega) (by have:=f t4 (by simp);omega);cases r with
     | nil=>exact hc
     | cons x r =>
      show nY s (c,g,i,d) [stb t0,stb t1,stb t2,stb t3,stb t4] ((((x::r).length:Nat):Int)==0)=_;rw [show ((((x::r).length:Nat):Int)==0)=false by simp;omega];rfl
  ·rw [if_neg (show ¬ ((c==101)=true) by simp [h0]),if_pos (show c≠101 by simp [h0])];rfl
 ·rw [if_pos (show (d != 0)=true by simp [h]),if_pos (show d≠0 by simp [h])]
def Up (l:List (List UInt8)):Prop:=l.Pairwise λa b=>Op.bytesLess a b=true
theorem Up.get {l:List (List UInt8)} (h:Up l) {i j:Nat} {a b:List UInt8} (c:l[i]?=some a) (hb:l[j]?=some b) (d:i<j):Op.bytesLess a b=true:=by obtain⟨hi,rfl⟩:=List.getElem?_eq_some_iff.1 c;obtain⟨e,rfl⟩:=List.getElem?_eq_some_iff.1 hb;exact List.pairwise_iff_getElem.1 h i j hi e d
theorem Up.nodup {l:List (List UInt8)} (h:Up l) {i j:Nat} {a:List UInt8} (c:l[i]?=some a) (hb:l[j]?=some a):i=j:=by
 rcases Nat.lt_trichotomy i j with b | b | b
 ·have:=h.get c hb b;rw [yU] at this;cases this
 ·exact b
 ·have:=h.get hb c b;rw [yU] at this;cases this
theorem Up.ext:∀ {l m:List (List UInt8)},Up l->Up m->(∀ x,x∈l↔x∈m)->l=m
 | [],[],_,_,_=>rfl
 | [],b::m,_,_,h=>absurd ((h b).2 List.mem_cons_self) (by simp)
 | a::l,[],_,_,h=>absurd ((h a).1 List.mem_cons_self) (by simp)
 | a::l,b::m,hl,hm,h=>by
  have d:=List.pairwise_cons.1 hl;have f:=List.pairwise_cons.1 hm;have i:a=b:=by
   rcases List.mem_cons.1 ((h a).1 List.mem_cons_self) with e | c
   ·exact e
   ·rcases List.mem_cons.1 ((h b).2 List.mem_cons_self) with e | j
    ·exact e.symm
    ·have k:=f.1 a c;have g:=d.1 b j;rw [aG9 k] at g;cases g
  subst i;rw [Up.ext d.2 f.2 λx=>⟨λhx=>by
   rcases List.mem_cons.1 ((h x).1 (List.mem_cons_of_mem _ hx)) with e | c
   ·have:=d.1 x hx;rw [e,yU] at this;cases this
   ·exact c,λhx=>by
   rcases List.mem_cons.1 ((h x).2 (List.mem_cons_of_mem _ hx)) with e | c
   ·have:=f.1 x hx;rw [e,yU] at this;cases this
   ·exact c⟩]
theorem bC0 (x y:List UInt8):decide (x<=y) = !Op.bytesLess y x:=by
 rw [bytesLess_eq];by_cases h:y<x
 ·rw [decide_eq_true h,decide_eq_false (λa=>absurd h (List.not_lt.2 a))];rfl
 ·rw [decide_eq_false h,decide_eq_true (List.not_lt.1 h)];rfl
def uq (l:List (List UInt8)):List (List UInt8):=Lib.compact (l.mergeSort λx y=>decide (x<=y))
theorem aKs (l:List (List UInt8)):(l.mergeSort λx y=>decide (x<=y)).Pairwise λa b=>Op.bytesLess b a=false:=by
 have h:=List.pairwise_mergeSort (le:=λx y:List UInt8=>decide (x<=y)) (λa b c d e=>by
  simp only [decide_eq_true_eq] at d e ⊢;exact List.le_trans d e) (λa b=>by
  simp only [Bool.or_eq_true,decide_eq_true_eq];exact List.le_total a b) l
 exact h.imp λ{a b} hab=>by rw [bC0] at hab;simpa using hab
theorem aEi (s:List (List UInt8)) (hs:s.Pairwise λa b=>Op.bytesLess b a=false):∀ m,m<=s.length->Up (Lib.compactUpTo s.toArray m)/\∀ x,x∈Lib.compactUpTo s.toArray m↔x∈s.take m
 | 0,_=>by have e:Lib.compactUpTo s.toArray 0=[]:=rfl;rw [e];exact⟨List.Pairwise.nil,λx=>by simp⟩
 | m+1,hm=>by
  obtain⟨f,c⟩:=aEi s hs m (by omega);have hg:s[m]?=some (s[m]'(by omega)):=List.getElem?_eq_getElem (by omega);have hd:s.toArray[m]! = s[m]'(by omega):=by rw [getElem!_pos _ m (by simp;omega)];rfl
  have ht:s.take (m+1)=s.take m++[s[m]'(by omega)]:=by rw [List.take_add_one,hg];rfl
  rw [Lib.compactUpTo_succ,ht,hd];by_cases hk:Lib.keeps s.toArray m=true
  ·rw [if_pos hk];refine⟨List.pairwise_append.2 ⟨f,List.pairwise_singleton _ _,λa j b hb=>?_⟩,λx=>by rw [List.mem_append,List.mem_append,c x]⟩;rw [List.mem_singleton] at hb;subst hb;obtain⟨i,hi,rfl⟩:=List.mem_iff_getElem.1 ((c a).1 j);have p:i<m:=by simp at hi;omega
   have g:s.toArray[m]! ≠ s.toArray[m - 1]! := by
    unfold Lib.keeps at hk;simp only [decide_eq_true_eq] at hk;rcases hk with h0 | h0
    ·omega
    ·exact h0
   rw [hd,getElem!_pos _ (m - 1) (by simp;omega)] at g;have k:s[m]'(by omega)≠s[m - 1]'(by omega):=g;have l:Op.bytesLess (s[m]'(by omega)) (s[m - 1]'(by omega))=false:=List.pairwise_iff_getElem.1 hs (m - 1) m (by omega) (by omega) (by omega);have d:Op.bytesLess (s[m - 1]'(by omega)) (s[m]'(by omega))=true:=by
    cases hq:Op.bytesLess (s[m - 1]'(by omega)) (s[m]'(by omega)) with
    | true=>rfl
    | false=>exact absurd (aLd l hq) k
   simp only [List.getElem_take];rcases Nat.lt_or_ge i (m - 1) with h | h
   ·have n:Op.bytesLess (s[m - 1]'(by omega)) (s[i]'(by omega))=false:=List.pairwise_iff_getElem.1 hs i (m - 1) (by omega) (by omega) h;cases hq:Op.bytesLess (s[i]'(by omega)) (s[m - 1]'(by omega)) with
    | true=>exact aE3 hq d
    | false=>rw [aLd hq n];exact d
   ·have:i=m - 1:=by omega
    subst this;exact d
  ·rw [if_neg hk,List.append_nil];refine⟨f,λx=>?_⟩;have h0:0<m:=by
    rcases Nat.eq_zero_or_pos m with e | e
    ·subst e;exact absurd (Lib.keeps_lt_one s.toArray 0 (by omega)) hk
    ·exact e
   have he:s.toArray[m]! = s.toArray[m - 1]! := by
    rcases Decidable.em (s.toArray[m]! = s.toArray[m - 1]!) with e | e
    ·exact e
    ·exact absurd (Lib.keeps_pos e) hk
   rw [hd,getElem!_pos _ (m - 1) (by simp;omega)] at he;have o:s[m]'(by omega)=s[m - 1]'(by omega):=he;rw [c x,List.mem_append,List.mem_singleton,o];exact⟨.inl,λh=>h.elim id λe=>by
    rw [e];exact List.mem_iff_getElem.2 ⟨m - 1,by simp;omega,by simp⟩⟩
theorem aY0 (l:List (List UInt8)):Up (uq l):=by have:=(aEi _ (aKs l) _ (Nat.le_refl _)).1;exact this
theorem aC2 (l:List (List UInt8)) (x:List UInt8):x∈uq l↔x∈l:=by have:=(aEi _ (aKs l) _ (Nat.le_refl _)).2 x;rw [List.take_length,List.mem_mergeSort] at this;exact this
theorem aMh (l:List (List UInt8)):(uq l).length<=l.length:=by have h:=aGp (l.mergeSort λx y=>decide (x<=y));rw [List.length_mergeSort] at h;exact h
def ix:List (List UInt8)->List UInt8->Nat
 | [],_=>0
 | a::as_,s=>if a=s then 0 else ix as_ s+1
theorem aIm:∀ {l:List (List UInt8)} {s:List UInt8},s∈l->l[ix l s]?=some s
 | a::l,s,h=>by
  unfold ix;by_cases e:a=s
  ·rw [if_pos e,e];rfl
  ·rw [if_neg e,List.getElem?_cons_succ];exact aIm ((List.mem_cons.1 h).resolve_left λq=>e q.symm)
theorem aV1 (x y:List UInt8):pX x y=some (Op.bytesLess x y):=by unfold pX oM;simp
theorem aZj {U:List (List UInt8)} (a:Up U) (hlen:U.length<1099511627776) {s:List UInt8} {k:Nat} (hk:U[k]?=some s):dS U s=some ((k:Int),true):=by
 have r:=(List.getElem?_eq_some_iff.1 hk).1;unfold dS;obtain⟨y,c,hm⟩:=aDn (b:=λq:Int×Int=>bT U s q.1 q.2) (s:=(0,(U.length:Int)))
  (λq=>∃ i j:Nat,q=((i:Int),(j:Int))/\i<=k/\k<=j/\j<=U.length) (λq=>(q.2 - q.1).toNat) (λt=>t=(k:Int)) ⟨0,U.length,rfl,Nat.zero_le _,by omega,Nat.le_refl _⟩ (by
  rintro q ⟨i,j,rfl,d,f,g⟩;show (∃ s',bT U s (i:Int) (j:Int)=some (.inl s')/\_)\/∃ t,bT U s (i:Int) (j:Int)=some (.inr t)/\_;unfold bT;by_cases u:i<j
  ·have hx:=List.getElem?_eq_getElem (l:=U) (i:=(i+j) / 2) (by omega);have m:oC .u64 (((i+j:Nat)):Int) 1=(((i+j) / 2:Nat):Int):=lG (k:=.u64) (i+j) 1 (by decide);rw [if_pos (by simp only [decide_eq_true_eq];omega)];simp only [lt_];rw [w64 (n:=(i:Int)+(j:Int)) (by omega) (by omega),mE (by omega) (by omega),show (i:Int)+(j:Int)=((i+j:Nat):Int) by omega,m,w64 (by omega) (by omega),bB rfl hx];simp only [bGi];rw [aV1];simp only [bGi];unfold dE;by_cases o:(i+j) / 2<k
   ·have hb:=a.get hx hk o;rw [if_pos hb,w64 (by omega) (by omega)];exact .inl ⟨_,rfl,⟨(i+j) / 2+1,j,rfl,by omega,f,g⟩,by simp only;omega⟩
   ·have hb:Op.bytesLess (U[(i+j) / 2]'(by omega)) s=false:=by
     rcases Nat.lt_or_ge k ((i+j) / 2) with h | h
     ·exact aG9 (a.get hk hx h)
     ·have e:(i+j) / 2=k:=by omega
      have p:U[(i+j) / 2]'(by omega)=s:=by
       have:U[(i+j) / 2]?=some s:=by rw [e];exact hk
       rw [hx] at this;exact Option.some.inj this
      rw [p,yU]
    rw [if_neg (by rw [hb];simp)];exact .inl ⟨_,rfl,⟨i,(i+j) / 2,rfl,d,by omega,by omega⟩,by simp only;omega⟩
  ·rw [if_neg (by simp only [decide_eq_true_eq];omega)];exact .inr ⟨_,rfl,by rw [show i=k by omega]⟩)
 rw [c,hm];simp only [bGi];unfold dX eL;rw [if_pos (by simp only [decide_eq_true_eq];omega),bB rfl hk];simp
def rJ (U:List (List UInt8)):List Int:=(U.map λs=>uv s.length++stb s).flatten
theorem aPb (U:List (List UInt8)) (s:List UInt8):rJ (U++[s])=rJ U++(uv s.length++stb s):=by simp [rJ]
theorem aDf:∀ (U:List (List UInt8)),(∀ s∈U,s.length<=32)->(rJ U).length<=42 * U.length
 | [],_=>by simp [rJ]
 | s::U,h=>by have a:=aDf U λx hx=>h x (List.mem_cons_of_mem _ hx);have b:=h s List.mem_cons_self;have c:=aO (n:=s.length) (by omega);have e:rJ (s::U)=(uv s.length++stb s)++rJ U:=rfl;rw [e];simp only [List.length_append,List.length_cons,yH];omega
def sN (U l:List (List UInt8)):List Int:=l.map λs=>((ix U s:Nat):Int)
def tV (l:List (List UInt8)):List Int:=uv (uq l).length++rJ (uq l)++fY (sN (uq l) l)
theorem aPq (U l:List (List UInt8)) (s:List UInt8):sN U (l++[s])=sN U l++[((ix U s:Nat):Int)]:=by simp [sN]
theorem yK (U l:List (List UInt8)):(sN U l).length=l.length:=by simp [sN]
theorem aYj {U:List (List UInt8)} {s:List UInt8} (h:s∈U):ix U s<U.length:=(List.getElem?_eq_some_iff.1 (aIm h)).1
theorem aDv {U l:List (List UInt8)} (hs:∀ s∈l,s∈U) (a:U.length<=4096):I64 (sN U l):=λx hx=>by unfold sN at hx;obtain⟨s,hm,rfl⟩:=List.mem_map.1 hx;have:=aYj (hs s hm);unfold i64;omega
section
variable {l:List (List UInt8)} (hl:l.length<=4096) (h32:∀ s∈l,s.length<=32)
theorem aR2 {m:List Int} (h:m.length<=4096) (hi:I64 m):(fY m).length<=1048576:=by obtain⟨w,hw,e⟩:=aIj m;rw [e];exact aZ3 hw h hi
include hl h32
theorem aTg {U:List (List UInt8)} (a:Up U) (hs:∀ s∈l,s∈U) (c:U.length<=4096) {p:List Int} (hp:p.length<=1000000):pY l U p=some (p++fY (sN U l)):=by
 have h:=iY (b:=λs:List Int×Int=>jH l U s.1 s.2) (λk=>(sN U (l.take k),(k:Int))) (t:=sN U l) l.length (λk hk=>by
  have hx:=List.getElem?_eq_getElem hk;have hm:=hs _ (List.getElem_mem hk);show jH l U (sN U (l.take k)) (k:Int)=_;unfold jH;rw [if_pos (by simp only [decide_eq_true_eq];omega),bB rfl hx];simp only [bGi];rw [aZj a (by omega) (aIm hm)];simp only [bGi];rw [bJ (by rw [yK];simp;omega),lt_,w64 (by omega) (by omega),List.take_add_one,hx];simp only [Option.toList_some];rw [aPq];rfl) (by
  show jH l U (sN U (l.take l.length)) (l.length:Int)=_;unfold jH;rw [if_neg (by simp),List.take_length])
 unfold pY;rw [show (([],0):List Int×Int)=(sN U (l.take 0),((0:Nat):Int)) from rfl,h];simp only [bGi];unfold qX tI;have hi:=aDv hs c;rw [aCf (by rw [yK];omega) hi];simp only [bGi];have:=aR2 (m:=sN U l) (by rw [yK];omega) hi;rw [bJ (by omega)]
theorem aRo:uT l=some (tV l):=by
 have e:=aMh l;have c:∀ s∈uq l,s.length<=32:=λs hs=>h32 s ((aC2 l s).1 hs);unfold uT rO slices_Compact_string;rw [bJ (by omega)];simp only [bGi];rw [show Lib.compact (l.mergeSort λx y=>decide (x<=y))=uq l from rfl,lt_,mE (by omega) (by omega),sY _ [] (by omega) (by have:=aO (n:=(uq l).length) (by omega);simp;omega)];simp only [bGi,List.nil_append];have hu:=aO (n:=(uq l).length) (by omega);obtain⟨a,d⟩:∃ a,a=uv (uq l).length:=⟨_,rfl⟩;rw [← d] at hu ⊢;have h:=iY (b:=λs:List Int×Int=>jI (uq l) s.1 s.2) (λk=>(a++rJ ((uq l).take k),(k:Int))) (t:=a++rJ (uq l)) (uq l).length (λk hk=>by
  have hx:=List.getElem?_eq_getElem hk;have hs:=c _ (List.getElem_mem hk);have hf:=aDf ((uq l).take k) λs hs=>c s (List.mem_of_mem_take hs);have f:(rJ ((uq l).take k)).length<=42 * k:=by simp at hf;omega
  show jI (uq l) (a++rJ ((uq l).take k)) (k:Int)=_;unfold jI;rw [if_pos (by simp only [decide_eq_true_eq];omega),bB rfl hx];simp only [bGi];rw [aE1 _ _ (by omega) (by simp;omega)];simp only [bGi];rw [lt_,w64 (by omega) (by omega),List.take_add_one,hx];simp only [Option.toList_some];rw [aPb];simp) (by
  show jI (uq l) (a++rJ ((uq l).take (uq l).length)) ((uq l).length:Int)=_;unfold jI;rw [if_neg (by simp),List.take_length])
 have e0:a++rJ ((uq l).take 0)=a:=by simp [rJ]
 rw [show ((a,0):List Int×Int)=(a++rJ ((uq l).take 0),((0:Nat):Int)) by rw [e0];rfl,h];simp only [bGi];unfold qY;have g:=aDf (uq l) c;rw [aTg hl h32 (aY0 l) (λs hs=>(aC2 l s).2 hs) (by omega) (by simp;omega)];unfold tV;rw [d]
end
section
variable {l:List (List UInt8)} (hl:l.length<=4096)
include hl
end
theorem aQz {s:List UInt8} (h:s.length<=32) (r:List Int):pT 32 (uv s.length++(stb s++r))=some (s,r):=by unfold pT;rw [show IntKind.u64.wrap 32=32 from mE (by omega) (by omega),aIx (by omega) _ (by omega)];simp only;rw [if_pos (by simp only [List.length_append,yH];omega),Int.toNat_natCast,List.take_left' (yH s),List.drop_left' (yH s),aVy]
theorem aIu:∀ (D acc:List (List UInt8)) (r:List Int),Up (acc++D)->(∀ s∈D,s.length<=32)->aD8 acc D.length (rJ D++r)=some (acc++D,r)
 | [],acc,r,_,_=>by simp [aD8,rJ]
 | s::D,acc,r,hU,h32=>by
  have e:rJ (s::D)++r=uv s.length++(stb s++(rJ D++r)):=by show (uv s.length++stb s)++rJ D++r=_;simp
  rw [e];show (match pT 32 (uv s.length++(stb s++(rJ D++r))) with
   | some (t,q)=>if aI5 acc t=true then aD8 (acc++[t]) D.length q else none
   | none=>none)=_
  rw [aQz (h32 s List.mem_cons_self)];have hr:aI5 acc s=true:=by
   unfold aI5;cases hx:acc[acc.length - 1]? with
   | none=>rfl
   | some y=>exact hU.get (i:=acc.length - 1) (j:=acc.length) (by rw [List.getElem?_append_left (by have:=(List.getElem?_eq_some_iff.1 hx).1;omega),hx]) (by rw [List.getElem?_append_right (Nat.le_refl _),Nat.sub_self];rfl) (by have:=(List.getElem?_eq_some_iff.1 hx).1;omega)
  simp only [hr,if_true];rw [aIu D (acc++[s]) r (by simpa using hU) λx hx=>h32 x (List.mem_cons_of_mem _ hx)];simp
theorem aPr {l:List (List UInt8)} (hl:l.length<=4096) (h32:∀ s∈l,s.length<=32):aKk (tV l)=some l:=by
 have f:=aMh l;have b:=aY0 l;have c:∀ s∈uq l,s.length<=32:=λs hs=>h32 s ((aC2 l s).1 hs);have hs:∀ s∈l,s∈uq l:=λs hs=>(aC2 l s).2 hs;have hi:=aDv hs (by omega);have hr:=aA7 (l:=sN (uq l) l) (by rw [yK];omega) hi;have hp:aGv (fY (sN (uq l) l))=some (sN (uq l) l,[]):=by
  unfold vO at hr;split at hr
  ·rename_i m he;cases hr;exact he
  ·cases hr
 unfold aKk aIw tV;rw [List.append_assoc,aIx (by omega) _ (by omega)];simp only [Int.toNat_natCast];rw [aIu (uq l) [] _ (by simpa using b) c];simp only [List.nil_append,hp];rw [if_pos]
 ·simp only [Option.some.injEq];unfold tx sN;rw [List.map_map];have key:∀ (m:List (List UInt8)),(∀ s∈m,s∈uq l)->m.map ((λi:Int=>(uq l).getD i.toNat []) ∘ λs=>((ix (uq l) s:Nat):Int))=m:=by
   intro m hm
   induction m with
   | nil=>rfl
   | cons s m ih =>
    rw [List.map_cons,ih λx hx=>hm x (List.mem_cons_of_mem _ hx)];congr 1;show (uq l).getD ((ix (uq l) s:Nat):Int).toNat []=s;rw [Int.toNat_natCast,List.getD_eq_getElem?_getD,aIm (hm s List.mem_cons_self)];rfl
  exact key l hs
 ·refine⟨?_,?_⟩
  ·unfold okI;rw [List.all_eq_true];intro x hx;unfold sN at hx;obtain⟨s,hm,rfl⟩:=List.mem_map.1 hx;have:=aYj (hs s hm);simp only [decide_eq_true_eq];omega
  ·unfold usd;intro hf;obtain⟨j,d,e⟩:=List.mem_map.1 hf;have a:j<(uq l).length:=List.mem_range.1 d;refine absurd ?_ (of_decide_eq_false e);unfold sN;have hm:(uq l)[j]'a∈l:=(aC2 l _).1 (List.getElem_mem a);have hg:=aIm (hs _ hm);have:=b.nodup hg (List.getElem?_eq_getElem a);exact List.mem_map.2 ⟨_,hm,by rw [this]⟩
theorem aB6 {m:List Int} (hi:I64 m):Bs (fY m):=by obtain⟨w,hw,e⟩:=aIj m;rw [e];exact bA3 hw hi
theorem aMm:∀ U:List (List UInt8),Bs (rJ U)
 | []=>Bs.nil
 | s::U=>((Bs.uv _).app (Bs.stb s)).app (aMm U)
theorem aSj {l:List (List UInt8)} (hl:l.length<=4096):Bs (tV l) :=
 ((Bs.uv _).app (aMm _)).app (aB6 (aDv (λs hs=>(aC2 l s).2 hs) (by have:=aMh l;omega)))
def pF (s:Nat):List Int:=[((s % 256:Nat):Int),((s / 256 % 256:Nat):Int),((s / 65536 % 256:Nat):Int),((s / 16777216 % 256:Nat):Int)]
theorem aFc (s:Nat):Bs (pF s):=λx hx=>by simp [pF] at hx;omega
theorem qJ (s:Nat):(pF s).length=4:=rfl
theorem aJ8 {s:Nat} (h:s<4294967296) (r:List Int):aB5 (pF s++r)=s:=by show aB5 (((s % 256:Nat):Int)::((s / 256 % 256:Nat):Int)::((s / 65536 % 256:Nat):Int)::((s / 16777216 % 256:Nat):Int)::r)=s;rw [aL0];omega
def zD (kind:Int) (b:List Int):List Int:=pF b.length++[kind]++b
def jQ (kind:Int) (b:List Int):List Int:=zD kind b++pF (crc (zD kind b))
theorem aF8 (kind:Int) (b:List Int):(zD kind b).length=5+b.length:=by simp [zD,qJ];omega
theorem sH (kind:Int) (b:List Int):(jQ kind b).length=9+b.length:=by simp [jQ,aF8,qJ];omega
theorem aNm {kind:Int} {b:List Int} (hk:0<=kind/\kind<256) (hB:Bs b):Bs (zD kind b):=((aFc _).app (Bs.mk hk Bs.nil)).app hB
theorem aCn {kind:Int} {b:List Int} (hk:0<=kind/\kind<256) (hB:Bs b):Bs (jQ kind b):=(aNm hk hB).app (aFc _)
theorem aFg {s:Nat} (hs:s<4294967296):yJ (s:Int)=some (pF s):=by
 unfold yJ pF;simp only [lt_];rw [show (8:Int)=((8:Nat):Int) from rfl,show (16:Int)=((16:Nat):Int) from rfl,show (24:Int)=((24:Nat):Int) from rfl,
  lG _ _ (by decide),lG _ _ (by decide),lG _ _ (by decide),xM,xM,xM,xM]
theorem zY {p b:List Int} {kind:Int} (hk:0<=kind/\kind<256) (hB:Bs b) (hb:b.length<4294967000) (hp:p.length<1099511627776):wW p kind b=some (p++jQ kind b):=by unfold wW;rw [lt_,wL,Nat.mod_eq_of_lt (by omega),aFg (by omega)];simp only [bGi];rw [show pF b.length++[kind]++b=zD kind b from rfl];have hl:=aF8 kind b;have a:=qJ (crc (zD kind b));rw [bJ (by simp [qJ]),bJ (by simp [qJ];omega),bJ (by omega),aGw (aNm hk hB) (by omega)];simp only [bGi];rw [aFg (aOx _)];simp only [bGi];rw [bJ (by simp only [List.length_append];omega),List.append_assoc];rfl
theorem aBp {p b q:List Int} {kind:Int} (hb:b.length<=1048576):aA1 (p++jQ kind b++q) (p.length:Int)=(kind,b,((p.length+(jQ kind b).length:Nat):Int),0):=by
 have a:(p++jQ kind b++q).drop p.length=jQ kind b++q:=by rw [List.append_assoc,List.drop_left]
 have hl:=aF8 kind b;have c:=sH kind b;have hn:aB5 (jQ kind b++q)=b.length:=by show aB5 (pF b.length++[kind]++b++pF (crc (zD kind b))++q)=_;rw [List.append_assoc,List.append_assoc,List.append_assoc,aJ8 (by omega)]
 have ht:(jQ kind b++q).take (5+b.length)=zD kind b:=by show (zD kind b++pF (crc (zD kind b))++q).take (5+b.length)=_;rw [List.append_assoc,List.take_left' hl]
 have hd:(jQ kind b++q).drop (5+b.length)=pF (crc (zD kind b))++q:=by show (zD kind b++pF (crc (zD kind b))++q).drop (5+b.length)=_;rw [List.append_assoc,List.drop_left' hl]
 unfold aA1;rw [if_neg (by simp only [List.length_append];omega),Int.toNat_natCast,a,hn,ht,hd,aJ8 (aOx _),if_neg (by simp only [List.length_append];omega),if_neg (by simp only [List.length_append];omega),if_pos rfl];refine Prod.ext ?_ (Prod.ext ?_ (Prod.ext ?_ rfl))
 ·rfl
 ·show (zD kind b).drop 5=b;rfl
 ·show (p.length:Int)+(b.length:Int)+9=((p.length+(jQ kind b).length:Nat):Int);rw [c];omega
def oA (l:List S61):List Int:=l.map λe=>IntKind.i64.wrap e.f0
def jJ (l:List S61):List Int:=l.map λe=>e.f1
def jK (l:List S61):List Int:=l.map λe=>e.f2
def nP (l:List S61):List (List UInt8):=l.map λe=>e.f3
def mQ (l:List S61):List Nat:=l.map λe=>e.f4
def sT (c:List Int):List Int:=uv c.length++c
def yV (l:List S61):List Int:=sT (fY (oA l))++(sT (fY (jJ l))++(sT (fY (jK l))++(sT (tV (nP l))++sT (fY (rl (mQ l))))))
def aRj (l:List S61):Prop:=∀ e∈l,(0<=e.f0/\e.f0<18446744073709551616)/\i64 e.f1/\i64 e.f2/\e.f3.length<=32/\e.f4<18446744073709551616
section
variable {l:List S61} (hl:l.length<=4096) (hL:aRj l)
theorem aFe:I64 (oA l):=λx hx=>by obtain⟨e,_,rfl⟩:=List.mem_map.1 hx;exact aCj _
include hL
theorem aDs:I64 (jJ l):=λx hx=>by obtain⟨e,he,rfl⟩:=List.mem_map.1 hx;exact (hL e he).2.1
theorem aDz:I64 (jK l):=λx hx=>by obtain⟨e,he,rfl⟩:=List.mem_map.1 hx;exact (hL e he).2.2.1
theorem aLt:∀ s∈nP l,s.length<=32:=λs hs=>by obtain⟨e,he,rfl⟩:=List.mem_map.1 hs;exact (hL e he).2.2.2.1
theorem aXf:∀ x∈mQ l,x<18446744073709551616:=λx hx=>by obtain⟨e,he,rfl⟩:=List.mem_map.1 hx;exact (hL e he).2.2.2.2
omit hL
theorem wS {m:List Int} (hm:m.length<=4096) (hi:I64 m):(fY m).length<=11+10 * m.length:=by
 have a:=aT3 m (w:=0) (by decide);have b:=aLv hi;have c:=aO (n:=m.length) (by omega);have e:(asL 0 m).length=1+(uv m.length).length+(b0 m).length:=by show ((0:Int)::(uv m.length++b0 m)).length=_;simp;omega
 omega
theorem aMg {m:List (List UInt8)} (hm:m.length<=4096) (h32:∀ s∈m,s.length<=32):(tV m).length<=21+52 * m.length:=by have b:=aMh m;have c:=aDf (uq m) λs hs=>h32 s ((aC2 m s).1 hs);have d:=aO (n:=(uq m).length) (by omega);have a:=wS (m:=sN (uq m) m) (by rw [yK];omega) (aDv (λs hs=>(aC2 m s).2 hs) (by omega));rw [yK] at a;unfold tV;simp only [List.length_append];omega
theorem aAz {c:List Int} (h:c.length<18446744073709551616):(sT c).length<=10+c.length:=by have:=aO h;unfold sT;simp;omega
theorem wK {c:List Int} (h:Bs c):Bs (sT c):=(Bs.uv _).app h
include hl hL
theorem aH0:(fY (oA l)).length<=11+10 * l.length/\(fY (jJ l)).length<=11+10 * l.length/\(fY (jK l)).length<=11+10 * l.length/\(tV (nP l)).length<=21+52 * l.length/\(fY (rl (mQ l))).length<=11+10 * l.length:=by
 have e0:(oA l).length=l.length:=by simp [oA]
 have e:(jJ l).length=l.length:=by simp [jJ]
 have f:(jK l).length=l.length:=by simp [jK]
 have g:(nP l).length=l.length:=by simp [nP]
 have h:(rl (mQ l)).length=l.length:=by rw [aDw];simp [mQ]
 have h0:=wS (m:=oA l) (by omega) aFe;have a:=wS (m:=jJ l) (by omega) (aDs hL);have b:=wS (m:=jK l) (by omega) (aDz hL);have c:=aMg (m:=nP l) (by omega) (aLt hL);have d:=wS (m:=rl (mQ l)) (by omega) (aMa _);rw [e0] at h0;rw [e] at a;rw [f] at b;rw [g] at c;rw [h] at d;exact⟨h0,a,b,c,d⟩
theorem aHa:Bs (fY (oA l))/\Bs (fY (jJ l))/\Bs (fY (jK l))/\Bs (tV (nP l))/\Bs (fY (rl (mQ l))) :=
 ⟨aB6 aFe,aB6 (aDs hL),aB6 (aDz hL),aSj (by simp [nP];omega),aB6 (aMa _)⟩
theorem aF3:(yV l).length<=115+92 * l.length:=by obtain⟨h0,a,b,d,e⟩:=aH0 hl hL;have f:=aAz (c:=fY (oA l)) (by omega);have g:=aAz (c:=fY (jJ l)) (by omega);have h:=aAz (c:=fY (jK l)) (by omega);have i:=aAz (c:=tV (nP l)) (by omega);have j:=aAz (c:=fY (rl (mQ l))) (by omega);unfold yV;simp only [List.length_append];omega
theorem aS8:Bs (yV l):=by obtain⟨h0,a,b,c,d⟩:=aHa hl hL;exact (wK h0).app ((wK a).app ((wK b).app ((wK c).app (wK d))))
theorem aIv {c:List Int} (hB:Bs c) (h:c.length<=1048576) (r:List Int):pT 1048576 (sT c++r)=some (bts c,r):=by unfold pT sT;rw [show IntKind.u64.wrap 1048576=1048576 from mE (by omega) (by omega),List.append_assoc,aIx (by omega) _ (by omega)];simp only;rw [if_pos (by simp only [List.length_append];omega),Int.toNat_natCast,List.take_left' rfl,List.drop_left' rfl]
theorem aUm:pTx 5 (yV l)=some ([bts (fY (oA l)),bts (fY (jJ l)),bts (fY (jK l)),bts (tV (nP l)),bts (fY (rl (mQ l)))],[]):=by obtain⟨h0,d,e,f,g⟩:=aH0 hl hL;obtain⟨b0,b1,b2,b,c⟩:=aHa hl hL;unfold yV;have a:=aIv hl hL c (by omega) [];rw [List.append_nil] at a;simp only [pTx,aIv hl hL b0 (by omega),aIv hl hL b1 (by omega),aIv hl hL b2 (by omega),aIv hl hL b (by omega),a]
end
def dD (e:S61):S61:=⟨e.f0,e.f1,e.f2,e.f3,jZ e.f4⟩
theorem aKm (s:Int):∀ (l:List S61),(∀ e∈l,0<=e.f0/\e.f0<18446744073709551616) ->
  aEc s (oA l) (jJ l) (jK l) (nP l) ((mQ l).map jZ)=if l.all (λe=>pZ e s)=true then some (l.map dD) else none
 | [],_=>rfl
 | e::l,h=>by
  have ih:=aKm s l λx hx=>h x (List.mem_cons_of_mem _ hx);have h0:=h e List.mem_cons_self;have hw:IntKind.u64.wrap (IntKind.i64.wrap e.f0)=e.f0:=by rw [IntKind.wrap_u64,IntWalk.i64_left];unfold wrap64;omega
  show aEc s (IntKind.i64.wrap e.f0::oA l) (e.f1::jJ l) (e.f2::jK l) (e.f3::nP l) (jZ e.f4::(mQ l).map jZ)=_;unfold aEc;rw [hw,ih,show (⟨e.f0,e.f1,e.f2,e.f3,jZ e.f4⟩:S61)=dD e from rfl,show pZ (dD e) s=pZ e s from rfl,List.all_cons];cases pZ e s with
  | false=>rfl
  | true =>
   rw [if_pos rfl,Bool.true_and];cases l.all λe=>pZ e s <;> rfl
theorem aTr {l:List S61} (hl:l.length<=4096) (hL:aRj l) (s:Int) :
  evL s (bts (fY (oA l))) (bts (fY (jJ l))) (bts (fY (jK l))) (bts (tV (nP l))) (bts (fY (rl (mQ l))))=if l.all (λe=>pZ e s)=true then some (l.map dD) else none:=by
 obtain⟨b0,b1,b2,a,b⟩:=aHa hl hL;unfold evL;rw [aDx b0,aDx b1,aDx b2,aDx a,aDx b,aA7 (by simp [oA];omega) aFe,aA7 (by simp [jJ];omega) (aDs hL),aA7 (by simp [jK];omega) (aDz hL),
  aPr (by simp [nP];omega) (aLt hL),show aN5 (fY (rl (mQ l)))=some ((mQ l).map jZ) by
   unfold aN5;rw [aA7 (by rw [aDw];simp [mQ];omega) (aMa _)];exact aPs (aXf hL)]
 simp only;rw [if_pos (by simp [oA,jJ,jK,nP,mQ]),aKm s l λe he=>(hL e he).1]
theorem aTt {l:List S61} (hl:l.length<=4096) (hL:aRj l) (s:Int) (p q:List Int) :
  evR (p++jQ 101 (yV l)++q) (p.length:Int) s=if l.all (λe=>pZ e s)=true then (l.map dD,((p.length+(jQ 101 (yV l)).length:Nat):Int),0) else ([],0,3):=by
 have hb:=aF3 hl hL;unfold evR;rw [aBp (by omega)];simp only;rw [if_neg (by simp),if_neg (by simp),aUm hl hL];simp only;rw [aTr hl hL s];cases l.all λe=>pZ e s <;> rfl
theorem aMs {l:List S61} (hl:l.length<=4096):∀ (m k:Nat),k+m=l.length ->
  loop (λs:List Int×List Int×List Int×List (List UInt8)×List Nat×Int=>nK l s.1 s.2.1 s.2.2.1 s.2.2.2.1 s.2.2.2.2.1 s.2.2.2.2.2) (oA (l.take k),jJ (l.take k),jK (l.take k),nP (l.take k),mQ (l.take k),(k:Int))=some (oA l,jJ l,jK l,nP l,mQ l)
 | 0,k,hk=>by rw [List.take_of_length_le (by omega)];refine bE ?_;show nK l (oA l) (jJ l) (jK l) (nP l) (mQ l) (k:Int)=_;unfold nK;rw [if_neg (by simp only [decide_eq_true_eq];omega)]
 | m+1,k,hk=>by
  have hx:=List.getElem?_eq_getElem (l:=l) (i:=k) (by omega);have ht:l.take (k+1)=l.take k++[l[k]'(by omega)]:=by rw [List.take_add_one,hx];rfl
  have ih:=aMs hl m (k+1) (by omega);rw [ht] at ih;have e0:(oA (l.take k)).length=k:=by simp [oA];omega
  have a:(jJ (l.take k)).length=k:=by simp [jJ];omega
  have b:(jK (l.take k)).length=k:=by simp [jK];omega
  have c:(nP (l.take k)).length=k:=by simp [nP];omega
  have d:(mQ (l.take k)).length=k:=by simp [mQ];omega
  refine (cD ?_).trans ih;show nK l (oA (l.take k)) (jJ (l.take k)) (jK (l.take k)) (nP (l.take k)) (mQ (l.take k)) (k:Int)=_;unfold nK yB yA;rw [if_pos (by simp only [decide_eq_true_eq];omega),bB rfl hx];simp only [bGi,lt_];rw [bJ (by simp;omega),bJ (by simp;omega),bJ (by simp;omega),bJ (by simp;omega),bJ (by simp;omega),w64 (n:=(k:Int)+1) (by omega) (by omega)];simp only [oA,jJ,jK,nP,mQ,List.map_append,List.map_cons,List.map_nil];rfl
theorem aSx {c p:List Int} (hB:Bs c) (hc:c.length<=1048576) (hp:p.length<=100000000):nH p (bts c)=some (p++sT c):=by
 have a:(bts c).length=c.length:=by simp [bts]
 rw [aE1 _ _ (by omega) (by omega),aDx hB,a,List.append_assoc];rfl
theorem aLk {l:List S61} (hl:l.length<=4096) (hL:aRj l) {p:List Int} (hp:p.length<1099511627776):aAw p l=some (p++jQ 101 (yV l)):=by
 obtain⟨h0,i,j,m,n⟩:=aH0 hl hL;obtain⟨b0,b1,b2,a,b⟩:=aHa hl hL;have hb:=aF3 hl hL;unfold aAw;have hc:=aMs hl l.length 0 (by omega);rw [show ((0:Nat):Int)=0 from rfl] at hc;rw [show (([],[],[],[],[],0):List Int×List Int×List Int×List (List UInt8)×List Nat×Int)=(oA (l.take 0),jJ (l.take 0),jK (l.take 0),nP (l.take 0),mQ (l.take 0),0) from rfl,hc];simp only [bGi];unfold uZ xY;rw [aCf (by simp [oA];omega) aFe];simp only [bGi];rw [aCf (by simp [jJ];omega) (aDs hL)];simp only [bGi];rw [aCf (by simp [jK];omega) (aDz hL)];simp only [bGi];rw [aRo (by simp [nP];omega) (aLt hL)];simp only [bGi];rw [aRk (by simp [mQ];omega)];simp only [bGi];have eb:yV l=sT (fY (oA l))++(sT (fY (jJ l))++(sT (fY (jK l))++(sT (tV (nP l))++sT (fY (rl (mQ l)))))):=rfl;rw [eb];clear eb hc hb;generalize fY (oA l)=c0 at *;generalize fY (jJ l)=c1 at *;generalize fY (jK l)=c2 at *;generalize tV (nP l)=c3 at *;generalize fY (rl (mQ l))=c4 at *;have st:∀ (k:Nat) (c acc:List Int),([c0,c1,c2,c3,c4]:List (List Int))[k]?=some c->Bs c->c.length<=1048576->acc.length<=100000000->nJ c0 c1 c2 c3 c4 acc (k:Int)=some (.inl (acc++sT c,((k+1:Nat):Int))):=by
  intro k c acc hg hB d e;have o:k<5:=by have:=(List.getElem?_eq_some_iff.1 hg).1;simpa using this
  unfold nJ;rw [if_pos (by simp only [decide_eq_true_eq,List.length_cons,List.length_nil];omega),bB rfl hg];simp only [bGi];rw [aSx hB d e];simp only [bGi];rw [lt_,w64 (by omega) (by omega)];rfl
 have ol:∀ c:List Int,c.length<=1048576->(sT c).length<=1048586:=λc h=>by have:=aAz (c:=c) (by omega);omega
 have q:=ol c0 (by omega);have r:=ol c1 (by omega);have t:=ol c2 (by omega);have u:=ol c3 (by omega);have f:loop (λs:List Int×Int=>nJ c0 c1 c2 c3 c4 s.1 s.2) ([],0)=some (((([]++sT c0)++sT c1)++sT c2)++sT c3++sT c4):=by refine (cD (st 0 c0 [] rfl b0 (by omega) (by simp))).trans ?_;refine (cD (st 1 c1 _ rfl b1 (by omega) (by simp;omega))).trans ?_;refine (cD (st 2 c2 _ rfl b2 (by omega) (by simp;omega))).trans ?_;refine (cD (st 3 c3 _ rfl a (by omega) (by simp;omega))).trans ?_;refine (cD (st 4 c4 _ rfl b (by omega) (by simp;omega))).trans ?_;refine bE ?_;show nJ c0 c1 c2 c3 c4 _ ((4+1:Nat):Int)=_;unfold nJ;rw [if_neg (by simp)]
 rw [f];simp only [bGi];unfold uY xZ;have g:((([]++sT c0)++sT c1)++sT c2)++sT c3++sT c4=sT c0++(sT c1++(sT c2++(sT c3++sT c4))):=by simp
 rw [g];have v:=ol c4 (by omega);rw [zY (by decide) ((wK b0).app ((wK b1).app ((wK b2).app ((wK a).app (wK b))))) (by simp only [List.length_append];omega) hp];rfl
theorem aUt (x:S61) (k:Int):aFk x k=some (pZ x k):=aK6 x k
theorem aRl (e:S61):aCv (dD e) e=some true:=by unfold aCv dD;simp only [beq_self_eq_true,if_true];rw [aUu,wQ];simp
theorem aK8 (l:List S61) (h:l.length<2 ^ 62):wZ (l.map dD) l=some true:=by
 unfold wZ;rw [if_neg (by simp)];have:=iY (b:=λs=>oX (l.map dD) l s) (λk=>(k:Int)) (t:=.inl ()) l.length (λk hk=>by
  have hx:l[k]?=some (l[k]'hk):=List.getElem?_eq_getElem hk;have a:(l.map dD)[k]?=some (dD (l[k]'hk)):=by rw [List.getElem?_map,hx];rfl
  unfold oX;rw [if_pos (by simp;omega),bB rfl a,bB rfl hx];simp only [bGi,aRl];rw [if_neg (by simp),w64 (by omega) (by omega)];rfl) (by
  unfold oX;rw [if_neg (by simp)])
 rw [show (0:Int)=((0:Nat):Int) from rfl,this];rfl
def ckF (c:S90) (e:S61):S90:=⟨c.f0,c.f1,if e.f0<c.f2 then e.f0 else c.f2,if c.f3<e.f0 then e.f0 else c.f3,if e.f2<c.f4 then e.f2 else c.f4,if c.f5<e.f2 then e.f2 else c.f5,
  if Op.bytesLess c.f6 e.f3||c.f6==e.f3 then c.f6 else e.f3,if Op.bytesLess c.f7 e.f3=true then e.f3 else c.f7⟩
def ck0 (l:List S61) (a:Int) (e:S61):S90:=⟨(l.length:Int),a,e.f0,e.f0,e.f2,e.f2,e.f3,e.f3⟩
def ckL (l:List S61) (a:Int):S90:=match l with
 | []=>⟨0,a,0,0,0,0,[],[]⟩
 | e::_=>l.foldl ckF (ck0 l a e)
theorem aTb (l:List S61) (c:S90):(l.foldl ckF c).f0=c.f0/\(l.foldl ckF c).f1=c.f1:=by
 induction l generalizing c with
 | nil=>exact⟨rfl,rfl⟩
 | cons e l ih=>exact ih (ckF c e)
theorem aOv (l:List S61) (a:Int):(ckL l a).f0=(l.length:Int)/\(ckL l a).f1=a:=by
 unfold ckL;cases l with
 | nil=>exact⟨rfl,rfl⟩
 | cons e l=>exact aTb _ _
theorem aEn {α β:Type} (f:β->α->β) (b:β) {l:List α} {k:Nat} {x:α} (h:l[k]?=some x):(l.take (k+1)).foldl f b=f ((l.take k).foldl f b) x:=by rw [List.take_add_one,h,List.foldl_append];rfl
theorem aM3 {l:List S61} (h:0<l.length) (hl:l.length<4611686018427387904) (a:Int):qM l a=some (ckL l a):=by
 cases l with
 | nil=>simp at h
 | cons e r =>
  obtain⟨m,hm⟩:∃ m,m=e::r:=⟨_,rfl⟩;rw [← hm] at hl ⊢;have h0:at_ m 0=some e:=by subst hm;rfl
  unfold qM;rw [h0];simp only [bGi];have hk:=iY (b:=λs:Int×Int×Int×Int×List UInt8×List UInt8×Int=>iH m s.1 s.2.1 s.2.2.1 s.2.2.2.1 s.2.2.2.2.1 s.2.2.2.2.2.1 s.2.2.2.2.2.2)
   (λk=>(((m.take k).foldl ckF (ck0 m a e)).f2,((m.take k).foldl ckF (ck0 m a e)).f3,((m.take k).foldl ckF (ck0 m a e)).f4,((m.take k).foldl ckF (ck0 m a e)).f5,((m.take k).foldl ckF (ck0 m a e)).f6,((m.take k).foldl ckF (ck0 m a e)).f7,(k:Int)))
   (t:=((m.foldl ckF (ck0 m a e)).f2,(m.foldl ckF (ck0 m a e)).f3,(m.foldl ckF (ck0 m a e)).f4,(m.foldl ckF (ck0 m a e)).f5,(m.foldl ckF (ck0 m a e)).f6,(m.foldl ckF (ck0 m a e)).f7)) m.length (λk hk=>by
    have hx:=List.getElem?_eq_getElem (l:=m) (i:=k) hk;show iH m _ _ _ _ _ _ (k:Int)=_;unfold iH;rw [if_pos (by simp only [decide_eq_true_eq];omega),bB rfl hx];simp only [bGi,lt_];rw [w64 (by omega) (by omega),aEn ckF _ hx];rfl) (by
    show iH m _ _ _ _ _ _ ((m.length:Nat):Int)=_;unfold iH;rw [if_neg (by simp only [decide_eq_true_eq];omega),List.take_length])
  have e0:ckL m a=m.foldl ckF (ck0 m a e):=by subst hm;rfl
  refine (congrArg (λo:Option (Int×Int×Int×Int×List UInt8×List UInt8)=>o.bind λt=>mD m a t.1 t.2.1 t.2.2.1 t.2.2.2.1 t.2.2.2.2.1 t.2.2.2.2.2) hk).trans ?_;unfold mD sL;simp only [bGi];obtain⟨d,f⟩:=aTb m (ck0 m a e);rw [e0];generalize m.foldl ckF (ck0 m a e)=c at d f ⊢;obtain⟨g,c1,c2,c3,j,n,p,q⟩:=c;simp only [ck0] at d f;subst d;subst f;rfl
def ckB (c:S90):List Int:=uv c.f0.toNat++(uv c.f1.toNat++(uv c.f2.toNat++(uv c.f3.toNat++(uv (zz c.f4)++(uv (zz c.f5)++(uv c.f6.length++(stb c.f6++(uv c.f7.length++stb c.f7))))))))
def pgL (c:List S61):List Int:=jQ 101 (yV c)
def bW (cs:List (List S61)):List Int:=cs.flatMap pgL
def fL:List (List S61)->Nat->List S90
 | [],_=>[]
 | c::r,a=>ckL c (a:Int)::fL r (a+(pgL c).length)
def vD (k:Nat) (cs:List S90):List Int:=uv k++(uv cs.length++cs.flatMap ckB)
def xL (l:List S61) (k:Nat):List Int:=bW (pcs 64 l)++jQ 102 (vD k (fL (pcs 64 l) 0))++jQ 116 (pF (bW (pcs 64 l)).length)
def Gd (e:S61):Prop:=(0<=e.f0/\e.f0<18446744073709551616)/\e.f4<18446744073709551616
theorem bCv {l:List S61} (h:gL 48 g61 l):∀ e∈l,Gd e:=λe he=>by obtain⟨a,c,d,f,b⟩:=h.2 e he;unfold gI Lit.wf at a;simp only [Bool.and_eq_true,decide_eq_true_eq] at a;refine⟨⟨a.1,Int.lt_of_le_of_lt a.2 (by decide)⟩,?_⟩;unfold gF Lit.wf at b;simpa using b
structure Run (k a:Int) (l:List S61):Prop where
 fm:∀ e∈l,pZ e k=true
 gd:∀ e∈l,Gd e
 of:∀ (i:Nat) (x:S61),l[i]?=some x->x.f0=a+i
theorem wJ {e:S61} {k:Int} (h:pZ e k=true):0<=e.f1/\e.f1<k /\ -1099511627776<=e.f2/\e.f2<=1099511627776/\e.f3.length<=32/\e.f0<1099511627776:=by unfold pZ at h;simp only [Bool.and_eq_true,decide_eq_true_eq] at h;omega
section
variable {k a:Int} {l:List S61}
theorem Run.laid (h:Run k a l) (hk:k<=8):aRj l:=λe he=>by have d:=wJ (h.fm e he);obtain⟨b,c⟩:=h.gd e he;unfold i64;exact⟨b,by omega,by omega,by omega,c⟩
theorem Run.drop (h:Run k a l) (n:Nat):Run k (a+n) (l.drop n) :=
 ⟨λe he=>h.fm e (List.mem_of_mem_drop he),λe he=>h.gd e (List.mem_of_mem_drop he),λi x hx=>by
  rw [List.getElem?_drop] at hx;have:=h.of _ x hx;omega⟩
theorem Run.take (h:Run k a l) (n:Nat):Run k a (l.take n) :=
 ⟨λe he=>h.fm e (List.mem_of_mem_take he),λe he=>h.gd e (List.mem_of_mem_take he),λi x hx=>by
  rw [List.getElem?_take] at hx;split at hx
  ·exact h.of _ x hx
  ·cases hx⟩
end
def flt (k a:Int):List S61->Nat->Option Int
 | [],_=>none
 | e::r,i=>if pZ e k=true then (if e.f0=a+i then flt k a r (i+1) else some 8) else some 3
theorem aQm {k a:Int}:∀ {l:List S61} {i:Nat},flt k a l i=none->(∀ e∈l,Gd e)->Run k (a+i) l
 | [],i,_,_=>⟨λe he=>(by cases he),λe he=>(by cases he),λi x hx=>(by simp at hx)⟩
 | e::r,i,h,hg=>by
  unfold flt at h;split at h
  ·rename_i hf;split at h
   ·rename_i h0;have ih:=aQm h λx hx=>hg x (List.mem_cons_of_mem _ hx);refine⟨λx hx=>?_,hg,λj x hx=>?_⟩
    ·rcases List.mem_cons.1 hx with rfl | hx
     ·exact hf
     ·exact ih.fm x hx
    ·cases j with
     | zero=>simp at hx;subst hx;simpa using h0
     | succ j =>
      have:=ih.of j x (by simpa using hx);omega
   ·cases h
  ·cases h
theorem aNj {k a:Int}:∀ {l:List S61} {i:Nat},Run k (a+i) l->flt k a l i=none
 | [],i,_=>rfl
 | e::r,i,h=>by unfold flt;have h0:=h.of 0 e rfl;rw [if_pos (h.fm e List.mem_cons_self),if_pos (by simpa using h0)];refine aNj ⟨λx hx=>h.fm x (List.mem_cons_of_mem _ hx),λx hx=>h.gd x (List.mem_cons_of_mem _ hx),λj x hx=>?_⟩;have:=h.of (j+1) x (by simpa using hx);omega
section
variable {k:Int} {l:List S61} {e0:S61} (hg:∀ e∈l,Gd e) (h0:l[0]?=some e0) (hlen:l.length<=1024)
include hg h0 hlen
theorem aRa:∀ (m i:Nat),i+m=l.length->(i=0\/e0.f0<1099511627776) ->
  loop (λs:Int=>iG l k s) (i:Int)=some (match flt k e0.f0 (l.drop i) i with | none=>.inl () | some c=>.inr ([],c))
 | 0,i,hi,_=>by rw [List.drop_of_length_le (by omega)];refine bE ?_;show iG l k (i:Int)=_;unfold iG;rw [if_neg (by simp only [decide_eq_true_eq];omega)];rfl
 | m+1,i,hi,hs=>by
  have a:i<l.length:=by omega
  have hx:=List.getElem?_eq_getElem (l:=l) (i:=i) a;obtain⟨⟨b,d⟩,e⟩:=hg _ (List.getElem_mem a);obtain⟨⟨f,g⟩,j⟩:=hg e0 (List.mem_of_getElem? h0);rw [List.drop_eq_getElem_cons a];have hl:iG l k (i:Int)=if pZ l[i] k=true then (if l[i].f0=e0.f0+i then some (.inl ((i+1:Nat):Int)) else some (.inr (.inr ([],8)))) else some (.inr (.inr ([],3))):=by
   unfold iG;rw [if_pos (by simp only [decide_eq_true_eq];omega),bB rfl hx];simp only [bGi,lt_];rw [aK6];simp only [bGi];cases hf:pZ l[i] k with
   | false=>rfl
   | true =>
    have o:=wJ hf;rw [if_neg (by simp),show at_ l 0=some e0 from h0];simp only [bGi];have hw:IntKind.u64.wrap (e0.f0+IntKind.u64.wrap (i:Int))=e0.f0+i\/i=0:=by
     rcases hs with h | h
     ·exact .inr h
     ·left;rw [mE (n:=(i:Int)) (by omega) (by omega),mE (by omega) (by omega)]
    have hw:IntKind.u64.wrap (e0.f0+IntKind.u64.wrap (i:Int))=e0.f0+i:=by
     rcases hw with h | h
     ·exact h
     ·subst h;rw [mE (n:=((0:Nat):Int)) (by omega) (by omega),mE (by omega) (by omega)]
    rw [hw];by_cases he:l[i].f0=e0.f0+i
    ·rw [if_neg (by simpa using he),if_pos trivial,if_pos he,w64 (by omega) (by omega)];rfl
    ·rw [if_pos (by simpa using he),if_pos trivial,if_neg he]
  unfold flt;by_cases hf:pZ l[i] k=true
  ·rw [if_pos hf] at hl ⊢;by_cases he:l[i].f0=e0.f0+i
   ·rw [if_pos he] at hl ⊢;refine (cD hl).trans (aRa m (i+1) (by omega) ?_);have:=wJ hf;right;omega
   ·rw [if_neg he] at hl ⊢;exact bE hl
  ·rw [if_neg hf] at hl ⊢;exact bE hl
end
theorem bAc {α:Type} {q:Nat} (a:1<=q) (xs:List α) (k:Nat):(pcs q xs)[k]?=if k * q<xs.length then some ((xs.drop (k * q)).take q) else none:=by
 split
 ·rename_i h;exact aHh a h
 ·rename_i h;rw [List.getElem?_eq_none];rw [aBq];have:=(aA3 (m:=xs.length) (k:=k) a);omega
structure Cut (k:Int) (c:List S61):Prop where
 ps:0<c.length
 le:c.length<=64
 run:∃ a:Int,0<=a/\a+c.length<=1099511627776/\Run k a c
theorem Run.cut {k a:Int} {l:List S61} (h:Run k a l) (d:0<=a/\(0<l.length->a+l.length<=1099511627776)):∀ c∈pcs 64 l,Cut k c:=by
 intro c hc;obtain⟨j,b⟩:=List.getElem?_of_mem hc;rw [bAc (by decide)] at b;split at b
 ·rename_i e;cases b;have hr:=(h.drop (j * 64)).take 64;have:=d.2 (by omega);exact⟨by simp;omega,by simp;omega,a+(j * 64:Nat),by omega,by simp only [List.length_take,List.length_drop];omega,hr⟩
 ·cases b
theorem aLq:∀ (l:List S61) (c:S90),((l.foldl ckF c).f2<=c.f2/\∀ e∈l,(l.foldl ckF c).f2<=e.f0)/\(c.f3<=(l.foldl ckF c).f3/\∀ e∈l,e.f0<=(l.foldl ckF c).f3)/\((l.foldl ckF c).f4<=c.f4/\∀ e∈l,(l.foldl ckF c).f4<=e.f2)/\(c.f5<=(l.foldl ckF c).f5/\∀ e∈l,e.f2<=(l.foldl ckF c).f5)
 | [],c=>by simp
 | x::l,c=>by
  obtain⟨⟨b,a2⟩,⟨b1,b2⟩,⟨c1,c2⟩,d,a⟩:=aLq l (ckF c x);simp only [List.foldl_cons];generalize l.foldl ckF (ckF c x)=z at *;have f:(ckF c x).f2<=c.f2/\(ckF c x).f2<=x.f0:=by show (if x.f0<c.f2 then x.f0 else c.f2)<=_/\(if x.f0<c.f2 then x.f0 else c.f2)<=_;split <;> omega
  have g:c.f3<=(ckF c x).f3/\x.f0<=(ckF c x).f3:=by show _<=(if c.f3<x.f0 then x.f0 else c.f3)/\_<=(if c.f3<x.f0 then x.f0 else c.f3);split <;> omega
  have h:(ckF c x).f4<=c.f4/\(ckF c x).f4<=x.f2:=by show (if x.f2<c.f4 then x.f2 else c.f4)<=_/\(if x.f2<c.f4 then x.f2 else c.f4)<=_;split <;> omega
  have i:c.f5<=(ckF c x).f5/\x.f2<=(ckF c x).f5:=by show _<=(if c.f5<x.f2 then x.f2 else c.f5)/\_<=(if c.f5<x.f2 then x.f2 else c.f5);split <;> omega
  refine⟨⟨by omega,λe he=>?_⟩,⟨by omega,λe he=>?_⟩,⟨by omega,λe he=>?_⟩,by omega,λe he=>?_⟩ <;> rcases List.mem_cons.1 he with rfl | he
  ·omega
  ·exact a2 e he
  ·omega
  ·exact b2 e he
  ·omega
  ·exact c2 e he
  ·omega
  ·exact a e he
theorem aHg (p2 a:Int->Prop) (b:List UInt8->Prop):∀ (l:List S61) (c:S90),(p2 c.f2/\p2 c.f3)/\(a c.f4/\a c.f5)/\(b c.f6/\b c.f7)->(∀ e∈l,p2 e.f0/\a e.f2/\b e.f3) ->
  (p2 (l.foldl ckF c).f2/\p2 (l.foldl ckF c).f3)/\(a (l.foldl ckF c).f4/\a (l.foldl ckF c).f5)/\(b (l.foldl ckF c).f6/\b (l.foldl ckF c).f7)
 | [],c,h,_=>h
 | x::l,c,h,hl=>by
  obtain⟨d,f,g⟩:=hl x List.mem_cons_self;refine aHg p2 a b l (ckF c x) ?_ λe he=>hl e (List.mem_cons_of_mem _ he);obtain⟨⟨i,j⟩,⟨k,m⟩,n,o⟩:=h;refine⟨⟨?_,?_⟩,⟨?_,?_⟩,?_,?_⟩
  ·show p2 (if x.f0<c.f2 then x.f0 else c.f2);split <;> assumption
  ·show p2 (if c.f3<x.f0 then x.f0 else c.f3);split <;> assumption
  ·show a (if x.f2<c.f4 then x.f2 else c.f4);split <;> assumption
  ·show a (if c.f5<x.f2 then x.f2 else c.f5);split <;> assumption
  ·show b (if (Op.bytesLess c.f6 x.f3||c.f6==x.f3)=true then c.f6 else x.f3);split <;> assumption
  ·show b (if Op.bytesLess c.f7 x.f3=true then x.f3 else c.f7);split <;> assumption
structure CkOk (c:S90):Prop where
 r0:0<c.f0/\c.f0<=64
 r1:0<=c.f1
 r2:0<=c.f2/\c.f2<=c.f3/\c.f3<1099511627776/\c.f3 - c.f2=c.f0 - 1
 r4:(-1099511627776<=c.f4/\c.f4<=1099511627776)/\(-1099511627776<=c.f5/\c.f5<=1099511627776)
 r6:c.f6.length<=32/\c.f7.length<=32
theorem aI7 {k a:Int} {c:List S61} (h:Run k a c) (hc:0<c.length):∃ x y,c[0]?=some x/\c[c.length - 1]?=some y/\x.f0=a/\y.f0=a+c.length - 1/\x∈c/\y∈c:=by have hx:=List.getElem?_eq_getElem (l:=c) (i:=0) hc;have b:=List.getElem?_eq_getElem (l:=c) (i:=c.length - 1) (by omega);have d:=h.of 0 _ hx;have e:=h.of _ _ b;exact⟨_,_,hx,b,by omega,by omega,List.getElem_mem _,List.getElem_mem _⟩
theorem aLg {k a:Int} {c:List S61} (h:Run k a c) (hc:0<c.length) (p:Int):(ckL c p).f2=a/\(ckL c p).f3=a+c.length - 1:=by
 obtain⟨x,y,hx,b,ex,ey,mx,my⟩:=aI7 h hc;have e:ckL c p=c.foldl ckF (ck0 c p x):=by
  cases c with
  | nil=>simp at hc
  | cons z c=>simp at hx;subst hx;rfl
 rw [e];obtain⟨⟨d,a2⟩,⟨b1,b2⟩,_⟩:=aLq c (ck0 c p x);have hi:=aHg (λv=>a<=v/\v<=a+c.length - 1) (λ_=>True) (λ_=>True) c (ck0 c p x) ⟨⟨by show a<=x.f0/\x.f0<=a+c.length - 1;omega,by show a<=x.f0/\x.f0<=a+c.length - 1;omega⟩,⟨trivial,trivial⟩,trivial,trivial⟩ λe he=>⟨by
  obtain⟨i,hi⟩:=List.getElem?_of_mem he;have:=h.of i e hi;have:=(List.getElem?_eq_some_iff.1 hi).1;omega,trivial,trivial⟩
 have f:=a2 x mx;have g:=b2 y my;omega
theorem Cut.ok {k:Int} {c:List S61} (h:Cut k c) {p:Int} (hp:0<=p):CkOk (ckL c p):=by
 obtain⟨a,h0,d,hr⟩:=h.run;have b:=h.ps;have hle:=h.le;obtain⟨f,g⟩:=aLg hr h.ps p;obtain⟨e0,i⟩:=aOv c p;obtain⟨x,y,hx,j,ex,ey,mx,my⟩:=aI7 hr h.ps;have e:ckL c p=c.foldl ckF (ck0 c p x):=by
  cases c with
  | nil=>simp at b
  | cons z c=>simp at hx;subst hx;rfl
 have hf:∀ e∈c,(-1099511627776<=e.f2/\e.f2<=1099511627776)/\e.f3.length<=32:=λe he=>by have:=wJ (hr.fm e he);omega
 have hi:=aHg (λ_=>True) (λv => -1099511627776<=v/\v<=1099511627776) (λs=>s.length<=32) c (ck0 c p x) ⟨⟨trivial,trivial⟩,⟨(hf x mx).1,(hf x mx).1⟩,(hf x mx).2,(hf x mx).2⟩ λe he=>⟨trivial,(hf e he).1,(hf e he).2⟩;rw [← e] at hi;exact⟨by omega,by omega,by omega,hi.2.1,hi.2.2⟩
theorem CkOk.len {c:S90} (h:CkOk c) (a:c.f1<18446744073709551616):(ckB c).length<=144:=by
 obtain⟨a0,b,a2,a4,d⟩:=h;have e:=aO (n:=c.f0.toNat) (by omega);have f:=aO (n:=c.f1.toNat) (by omega);have g:=aO (n:=c.f2.toNat) (by omega);have i:=aO (n:=c.f3.toNat) (by omega);have j:=aO (n:=zz c.f4) (xD (by unfold i64;omega));have k:=aO (n:=zz c.f5) (xD (by unfold i64;omega));have l:=aO (n:=c.f6.length) (by omega);have m:=aO (n:=c.f7.length) (by omega);have o:(stb c.f6).length=c.f6.length:=by simp [stb]
 have p:(stb c.f7).length=c.f7.length:=by simp [stb]
 unfold ckB;simp only [List.length_append];omega
theorem Cut.pg {k:Int} {c:List S61} (h:Cut k c) (hk:k<=8):aRj c/\(pgL c).length<=6100/\9<=(pgL c).length/\Bs (pgL c):=by obtain⟨a,h0,b,hr⟩:=h.run;have hle:=h.le;have hL:=hr.laid hk;have hb:=aF3 (by omega) hL;have e:=sH 101 (yV c);exact⟨hL,by unfold pgL;omega,by unfold pgL;omega,aCn (by decide) (aS8 (by omega) hL)⟩
theorem aEq (cs ds:List (List S61)):bW (cs++ds)=bW cs++bW ds:=by simp [bW]
theorem aAt:∀ (cs:List (List S61)) (a:Nat),(fL cs a).length=cs.length
 | [],_=>rfl
 | c::cs,a=>by simp [fL,aAt cs]
theorem aDr {k:Int} (hk:k<=8):∀ {cs:List (List S61)},(∀ c∈cs,Cut k c)->(bW cs).length<=6100 * cs.length/\9 * cs.length<=(bW cs).length/\Bs (bW cs)
 | [],_=>⟨by simp [bW],by simp [bW],Bs.nil⟩
 | c::cs,h=>by obtain⟨a,b,d⟩:=aDr hk λx hx=>h x (List.mem_cons_of_mem _ hx);obtain⟨_,f,g,e⟩:=(h c List.mem_cons_self).pg hk;rw [show bW (c::cs)=pgL c++bW cs from rfl];exact⟨by simp;omega,by simp;omega,e.app d⟩
theorem aOw {k:Int} (hk:k<=8):∀ {cs:List (List S61)} {a:Nat},(∀ c∈cs,Cut k c)->∀ x∈fL cs a,CkOk x/\x.f1<=((a+(bW cs).length:Nat):Int)/\(0<cs.length->x.f1<((a+(bW cs).length:Nat):Int))
 | [],a,_,x,hx=>by cases hx
 | c::cs,a,h,x,hx=>by
  have hc:=h c List.mem_cons_self;obtain⟨_,d,f,g⟩:=hc.pg hk;rw [show bW (c::cs)=pgL c++bW cs from rfl,List.length_append];rcases List.mem_cons.1 hx with rfl | hx
  ·have e:=(aOv c (a:Int)).2;exact⟨hc.ok (by omega),by rw [e];omega,λ_=>by rw [e];omega⟩
  ·obtain⟨b,i,i3⟩:=aOw hk (λx hx=>h x (List.mem_cons_of_mem _ hx)) x hx;refine⟨b,by omega,λ_=>?_⟩;have:0<cs.length:=by rw [← aAt cs (a+(pgL c).length)];exact List.length_pos_of_mem hx
   have:=i3 this;omega
theorem aOd {ns:List Nat} (h:∀ n∈ns,n<18446744073709551616) (p:List Int) (hl:p.length+10 * ns.length<=140737488355000):qN p (ns.map λn:Nat=>(n:Int))=some (p++ns.flatMap uv):=by
 have hb:∀ m,m<=ns.length->((ns.take m).flatMap uv).length<=10 * m:=by
  intro m
  induction m with
  | zero=>intro _;simp
  | succ m ih =>
   intro hm;have hx:=List.getElem?_eq_getElem (l:=ns) (i:=m) (by omega);have:=aO (h _ (List.getElem_mem (l:=ns) (n:=m) (by omega)));rw [List.take_add_one,hx,List.flatMap_append,List.length_append];have:=ih (by omega);simp only [Option.toList_some,List.flatMap_cons,List.flatMap_nil,List.append_nil];omega
 unfold qN;have hk:=iY (b:=λs:List Int×Int=>iI (ns.map λn:Nat=>(n:Int)) s.1 s.2) (λk=>(p++(ns.take k).flatMap uv,(k:Int))) (t:=p++ns.flatMap uv) ns.length (λk hk=>by
  have hx:=List.getElem?_eq_getElem (l:=ns) (i:=k) hk;have a:(ns.map λn:Nat=>(n:Int))[k]?=some ((ns[k]:Nat):Int):=by rw [List.getElem?_map,hx];rfl
  show iI _ _ (k:Int)=_;unfold iI;have c:=hb k (by omega);have d:=aO (h _ (List.getElem_mem hk));rw [if_pos (by simp only [decide_eq_true_eq,List.length_map];omega),bB rfl a];simp only [bGi];rw [sY _ _ (h _ (List.getElem_mem hk)) (by simp only [List.length_append];omega)];simp only [bGi,lt_];rw [w64 (by omega) (by omega),List.take_add_one,hx,List.flatMap_append];simp only [Option.toList_some,List.flatMap_cons,List.flatMap_nil,List.append_nil,List.append_assoc];rfl) (by
  show iI _ _ ((ns.length:Nat):Int)=_;unfold iI;rw [if_neg (by simp),List.take_length])
 rw [show (p,(0:Int))=(p++(ns.take 0).flatMap uv,((0:Nat):Int)) by simp,hk];rfl
def WL (k:Int) (l:List S61):List Int×Int:=if l.length=0\/k<1\/8<k then ([],1) else if 1024<l.length then ([],2) else
 match flt k (l.head?.map (·.f0) |>.getD 0) l 0 with
 | some c=>([],c)
 | none=>(xL l k.toNat,0)
section
variable {k:Int} (hk:k<=8)
include hk
theorem aKy:∀ (cs:List (List S61)) (p:List Int) (ch:List S90),(∀ c∈cs,Cut k c)->p.length+6100 * cs.length<=1000000->ch.length+cs.length<=100000 ->
  cs.foldlM (λ(s:List Int×List S90) l=>lW s.1 s.2 l) (p,ch)=some (p++bW cs,ch++fL cs p.length)
 | [],p,ch,_,_,_=>by simp [bW,fL]
 | c::cs,p,ch,h,hp,hch=>by
  have hc:=h c List.mem_cons_self;obtain⟨hL,a,b,d⟩:=hc.pg hk;have hle:=hc.le;simp only [List.length_cons] at hp hch;rw [List.foldlM_cons];have e:lW p ch c=some (p++pgL c,ch++[ckL c (p.length:Int)]):=by unfold lW;rw [aM3 hc.ps (by omega)];simp only [bGi];rw [bJ (by simp;omega),aLk (by omega) hL (by omega)];rfl
  simp only [e,Option.bind_eq_bind,bGi];rw [aKy cs _ _ (λx hx=>h x (List.mem_cons_of_mem _ hx)) (by simp only [List.length_append];omega) (by simp;omega)];simp [bW,fL]
end
theorem aXh {k:Int} (l:List S90) (h:∀ c∈l,CkOk c/\c.f1<1099511627776) (hl:l.length<=1000) (p:List Int) (hp:p.length<=100) :
  loop (λs:List Int×Int=>gO l s.1 s.2) (p,0)=some (p++l.flatMap ckB):=by
 have hb:∀ m,m<=l.length->((l.take m).flatMap ckB).length<=144 * m:=by
  intro m
  induction m with
  | zero=>intro _;simp
  | succ m ih =>
   intro hm;have hx:=List.getElem?_eq_getElem (l:=l) (i:=m) (by omega);obtain⟨a,d⟩:=h _ (List.getElem_mem (l:=l) (n:=m) (by omega));have:=a.len (by omega);rw [List.take_add_one,hx,List.flatMap_append,List.length_append];have:=ih (by omega);simp only [Option.toList_some,List.flatMap_cons,List.flatMap_nil,List.append_nil];omega
 have hk:=iY (b:=λs:List Int×Int=>gO l s.1 s.2) (λk=>(p++(l.take k).flatMap ckB,(k:Int))) (t:=p++l.flatMap ckB) l.length (λk hk=>by
  have hx:=List.getElem?_eq_getElem (l:=l) (i:=k) hk;obtain⟨a,d⟩:=h _ (List.getElem_mem hk);have e:=hb k (by omega);show gO l _ (k:Int)=_;unfold gO;rw [if_pos (by simp only [decide_eq_true_eq];omega),bB rfl hx];simp only [bGi,lt_];generalize l[k]=c at a d hx;obtain⟨a0,f,a2,a4,g⟩:=a;rw [mE (n:=c.f0) (by omega) (by omega),mE (n:=c.f1) (by omega) (by omega)];have hu:=aOd (ns:=[c.f0.toNat,c.f1.toNat,c.f2.toNat,c.f3.toNat]) (by simp;omega) (p++(l.take k).flatMap ckB) (by simp only [List.length_append,List.length_cons,List.length_nil];omega);simp only [List.map_cons,List.map_nil] at hu;rw [show ((c.f0.toNat:Nat):Int)=c.f0 by omega,show ((c.f1.toNat:Nat):Int)=c.f1 by omega,show ((c.f2.toNat:Nat):Int)=c.f2 by omega,show ((c.f3.toNat:Nat):Int)=c.f3 by omega] at hu;rw [hu];simp only [bGi];have j:=aO (n:=c.f0.toNat) (by omega);have o:=aO (n:=c.f1.toNat) (by omega);have q:=aO (n:=c.f2.toNat) (by omega);have r:=aO (n:=c.f3.toNat) (by omega);have i4:i64 c.f4:=by unfold i64;omega
  have i5:i64 c.f5:=by unfold i64;omega
  have u:=aO (n:=zz c.f4) (xD i4);have v:=aO (n:=zz c.f5) (xD i5);have w:=aO (n:=c.f6.length) (by omega);have x:(stb c.f6).length=c.f6.length:=by simp [stb]
  rw [zV i4 _ (by simp only [List.length_append,List.flatMap_cons,List.flatMap_nil,List.length_nil];omega)];simp only [bGi];rw [zV i5 _ (by simp only [List.length_append,List.flatMap_cons,List.flatMap_nil,List.length_nil];omega)];simp only [bGi];rw [aE1 _ _ (by omega) (by simp only [List.length_append,List.flatMap_cons,List.flatMap_nil,List.length_nil];omega)];simp only [bGi];rw [aE1 _ _ (by omega) (by simp only [List.length_append,List.flatMap_cons,List.flatMap_nil,List.length_nil];omega)];simp only [bGi];rw [w64 (by omega) (by omega),List.take_add_one,hx,List.flatMap_append];simp only [Option.toList_some,List.flatMap_cons,List.flatMap_nil,List.append_nil,List.append_assoc,ckB];rfl) (by
  show gO l _ ((l.length:Nat):Int)=_;unfold gO;rw [if_neg (by simp),List.take_length])
 rw [show (p,(0:Int))=(p++(l.take 0).flatMap ckB,((0:Nat):Int)) by simp,hk]
theorem aTx {k:Nat} (hk:k<=8) {l:List S90} (h:∀ c∈l,CkOk c/\c.f1<1099511627776) (hl:l.length<=1000):(vD k l).length<=20+144 * l.length/\Bs (vD k l):=by
 have e:=aO (n:=k) (by omega);have f:=aO (n:=l.length) (by omega);have key:∀ l:List S90,(∀ c∈l,CkOk c/\c.f1<1099511627776)->(l.flatMap ckB).length<=144 * l.length/\Bs (l.flatMap ckB):=by
  intro l
  induction l with
  | nil=>intro _;exact⟨by simp,Bs.nil⟩
  | cons c l ih =>
   intro h;obtain⟨g,a⟩:=ih λx hx=>h x (List.mem_cons_of_mem _ hx);obtain⟨b,i⟩:=h c List.mem_cons_self;have:=b.len (by omega);rw [List.flatMap_cons];refine⟨by simp only [List.length_append,List.length_cons];omega,Bs.app ?_ a⟩;exact (Bs.uv _).app ((Bs.uv _).app ((Bs.uv _).app ((Bs.uv _).app ((Bs.uv _).app ((Bs.uv _).app ((Bs.uv _).app ((Bs.stb _).app ((Bs.uv _).app (Bs.stb _)))))))))
 obtain⟨j,d⟩:=key l h;unfold vD;exact⟨by simp only [List.length_append];omega,(Bs.uv _).app ((Bs.uv _).app d)⟩
theorem aWk {n:Nat} (h:n<1099511627776):[IntKind.u8.wrap (n:Int),IntKind.u8.wrap (oC .i64 (n:Int) 8),IntKind.u8.wrap (oC .i64 (n:Int) 16),IntKind.u8.wrap (oC .i64 (n:Int) 24)]=pF n:=by have a:oC .i64 (n:Int) 8=((n / 256:Nat):Int):=lG (k:=.i64) n 8 (by decide);have b:oC .i64 (n:Int) 16=((n / 65536:Nat):Int):=lG (k:=.i64) n 16 (by decide);have c:oC .i64 (n:Int) 24=((n / 16777216:Nat):Int):=lG (k:=.i64) n 24 (by decide);rw [a,b,c,xM,xM,xM,xM];rfl
structure Seg (k:Int) (l:List S61):Prop where
 k1:1<=k
 k8:k<=8
 ps:0<l.length
 le:l.length<=1024
 run:∃ a:Int,0<=a/\a+l.length<=1099511627776/\Run k a l
section
variable {k:Int} {l:List S61} (h:Seg k l)
include h
theorem Seg.cut:∀ c∈pcs 64 l,Cut k c:=by obtain⟨a,h0,b,hr⟩:=h.run;exact hr.cut ⟨h0,λ_=>b⟩
theorem Seg.num:(pcs 64 l).length<=16/\0<(pcs 64 l).length:=by have a:=h.le;have b:=h.ps;rw [aBq];omega
theorem Seg.cks:(∀ x∈fL (pcs 64 l) 0,CkOk x/\x.f1<1099511627776)/\(fL (pcs 64 l) 0).length<=16/\(bW (pcs 64 l)).length<=97600/\9<=(bW (pcs 64 l)).length/\Bs (bW (pcs 64 l)):=by obtain⟨n1,n2⟩:=h.num;obtain⟨p1,p2,p3⟩:=aDr h.k8 h.cut;refine⟨λx hx=>?_,by rw [aAt];exact n1,by omega,by omega,p3⟩;obtain⟨c1,c2,_⟩:=aOw h.k8 h.cut x hx;exact⟨c1,by omega⟩
theorem Seg.foot:(vD k.toNat (fL (pcs 64 l) 0)).length<=2400/\Bs (vD k.toNat (fL (pcs 64 l) 0)):=by obtain⟨c1,c2,_⟩:=h.cks;have:=h.k8;obtain⟨f1,f2⟩:=aTx (k:=k.toNat) (by omega) c1 (by omega);exact⟨by omega,f2⟩
theorem bDs:pC l k=some (xL l k.toNat,0):=by
 obtain⟨n1,n2⟩:=h.num;obtain⟨c1,c2,c3,a,b⟩:=h.cks;obtain⟨f1,f2⟩:=h.foot;have c:=h.k1;have d:=h.k8;have hle:=h.le;unfold pC;rw [bJ (by omega),aKy h.k8 _ _ _ h.cut (by simp;omega) (by simp;omega)];simp only [bGi,List.nil_append,List.length_nil];unfold rA;simp only [lt_];rw [mE (n:=k) (by omega) (by omega),mE (by omega) (by omega)];have hu:=aOd (ns:=[k.toNat,(fL (pcs 64 l) 0).length]) (by simp;omega) [] (by simp);simp only [List.map_cons,List.map_nil,List.nil_append] at hu;rw [show ((k.toNat:Nat):Int)=k by omega] at hu;rw [hu];simp only [bGi];have e:=aO (n:=k.toNat) (by omega);have f:=aO (n:=(fL (pcs 64 l) 0).length) (by omega);rw [aXh (k:=k) _ c1 (by omega) _ (by simp;omega)];simp only [bGi];unfold pS sK;have ef:([k.toNat,(fL (pcs 64 l) 0).length].flatMap uv++(fL (pcs 64 l) 0).flatMap ckB)=vD k.toNat (fL (pcs 64 l) 0):=by simp [vD]
 rw [ef,zY (by decide) f2 (by omega) (by omega)];simp only [bGi,lt_];rw [aWk (by omega)];have g:=sH 102 (vD k.toNat (fL (pcs 64 l) 0));rw [zY (by decide) (aFc _) (by simp [qJ]) (by simp only [List.length_append];omega)];rfl
end
theorem aMw {l:List S61} (hg:∀ e∈l,Gd e) (k:Int) (hl:l.length<4611686018427387904):tG l k=some (WL k l):=by
 unfold tG WL;have d:jW l k true=some ([],1):=rfl;by_cases h0:l.length=0
 ·rw [if_pos (by simp [h0]),d,if_pos (.inl h0)]
 rw [if_neg (by simp;intro e;simp [e] at h0)];by_cases a:k<1
 ·rw [if_pos (by simpa using a),d,if_pos (.inr (.inl a))]
 rw [if_neg (by simpa using a)];by_cases b:8<k
 ·rw [show decide (8<k)=true by simpa using b,d,if_pos (.inr (.inr b))]
 rw [show decide (8<k)=false by simpa using b,if_neg (by rintro (h | h | h);exact h0 h;exact a h;exact b h)];unfold jW;rw [if_neg (by simp)];by_cases hn:1024<l.length
 ·rw [if_pos (by simp only [decide_eq_true_eq];omega),if_pos hn]
 rw [if_neg (by simp only [decide_eq_true_eq];omega),if_neg hn];obtain⟨e0,f⟩:∃ e,l[0]?=some e:=⟨_,List.getElem?_eq_getElem (by omega)⟩;have g:(l.head?.map (·.f0) |>.getD 0)=e0.f0:=by rw [List.head?_eq_getElem?,f];rfl
 have:=aRa (k:=k) hg f (by omega) l.length 0 (by omega) (.inl rfl);rw [g,show (0:Int)=((0:Nat):Int) from rfl,this,List.drop_zero];simp only [bGi];cases hf:flt k e0.f0 l 0 with
 | some c=>rfl
 | none =>
  have hr:=aQm hf hg;have i:=aI7 hr (by omega);obtain⟨x,y,hx,m,ex,ey,mx,my⟩:=i;have f1:=wJ (hr.fm y my);have j:=hr.gd x mx;exact bDs (l:=l) (k:=k) ⟨by omega,by omega,by omega,by omega,_,by have:=j.1;omega,by omega,hr⟩
theorem rdU {m:Nat} {most:Int} {r:List Int} (h:m<18446744073709551616) (hm:(m:Int)<=most) (hB:Bs (uv m++r)):bC ⟨uv m++r⟩ most=some (.inl ((m:Int),⟨r⟩)):=by have:=aDa most hB;rw [aIx h r hm] at this;exact this
theorem rdI {x:Int} {r:List Int} (h:i64 x) (hB:Bs (uv (zz x)++r)):cR ⟨uv (zz x)++r⟩=some (.inl (x,⟨r⟩)):=by have:=aHr hB;rw [aNw h r] at this;exact this
theorem rdT {s:List UInt8} {r:List Int} (h:s.length<=32) (hB:Bs (uv s.length++(stb s++r))) (hl:(uv s.length++(stb s++r)).length<9223372036854775808):fD ⟨uv s.length++(stb s++r)⟩ 32=some (.inl (s,⟨r⟩)):=by have:=aLb 32 hB hl;rw [aQz h r] at this;exact this
theorem aR0 {a0:S128} {x:Int} {y:Int×S140} {ch:List S90} {c:S90} {r:List Int} {i:Nat} (hc:CkOk c) (o:c.f1<=(a0.f0.length:Int)) (q:a0.f0.length<=1000000) (hr:r.length<=1000000)
  (hB:Bs (ckB c++r)) (hi:(i:Int)<y.1) (hi':i<=1024) (s:ch.length=i) (h0:i=0->c.f1=0) (hp:0<i->∃ p,ch[i - 1]?=some p/\c.f2=p.f3+1/\p.f1<c.f1) :
  cX a0 x y ch (ckB c++r) (i:Int)=some (.inl (ch++[c],r,((i+1:Nat):Int))):=by
 obtain⟨t,u,v,w,b⟩:=hc;have z:=aO (n:=c.f2.toNat) (by omega);have i4:i64 c.f4:=by unfold i64;omega
 have i5:i64 c.f5:=by unfold i64;omega
 have A:=aO (n:=c.f6.length) (by omega);have B:=aO (n:=c.f7.length) (by omega);have C:(stb c.f6).length=c.f6.length:=by simp [stb]
 have D:(stb c.f7).length=c.f7.length:=by simp [stb]
 have e:ckB c++r=uv c.f0.toNat++(uv c.f1.toNat++(uv c.f2.toNat++(uv c.f3.toNat++(uv (zz c.f4)++(uv (zz c.f5)++(uv c.f6.length++(stb c.f6++(uv c.f7.length++(stb c.f7++r))))))))):=by simp only [ckB,List.append_assoc]
 rw [e] at hB ⊢;have b1:=hB.r;have b2:=b1.r;have d:=b2.r;have f:=d.r;have g:=f.r;have h:=g.r;have j:=h.r.r;unfold cX;rw [if_pos (by simpa using hi)];simp only [lt_];rw [mE (n:=(a0.f0.length:Int)) (by omega) (by omega),rdU (by omega) (by omega) hB];simp only [bGi,hT,lt_];rw [rdU (by omega) (by omega) b1];simp only [bGi,hT,lt_];rw [show ((c.f0.toNat:Nat):Int)=c.f0 by omega,show ((c.f1.toNat:Nat):Int)=c.f1 by omega,w64 (n:=c.f0) (by omega) (by omega),w64 (n:=c.f1) (by omega) (by omega)];unfold kZ;rw [rdU (by omega) (by omega) b2];simp only [bGi,hT];rw [rdU (by omega) (by omega) d];simp only [bGi,hT];rw [rdI i4 f];simp only [bGi,hT];rw [rdI i5 g];simp only [bGi,hT];rw [rdT b.1 h (by simp only [List.length_append];omega)];simp only [bGi,hT];rw [rdT b.2 j (by simp only [List.length_append];omega)];simp only [bGi,hT,lt_];rw [show ((c.f2.toNat:Nat):Int)=c.f2 by omega,show ((c.f3.toNat:Nat):Int)=c.f3 by omega];rw [if_pos (by simp only [decide_eq_true_eq];omega),mE (n:=c.f3 - c.f2) (by omega) (by omega),w64 (n:=c.f0 - 1) (by omega) (by omega),mE (n:=c.f0 - 1) (by omega) (by omega),if_pos (by simp only [beq_iff_eq];omega),
  show decide (c.f2<=c.f3)=true by simp only [decide_eq_true_eq];omega,mI]
 simp only [bGi,hT];have a:eR ch (i:Int) c.f0 c.f1 (c.f2,⟨uv c.f3.toNat++(uv (zz c.f4)++(uv (zz c.f5)++(uv c.f6.length++(stb c.f6++(uv c.f7.length++(stb c.f7++r))))))⟩) (c.f3,⟨uv (zz c.f4)++(uv (zz c.f5)++(uv c.f6.length++(stb c.f6++(uv c.f7.length++(stb c.f7++r)))))⟩)
   (c.f4,⟨uv (zz c.f5)++(uv c.f6.length++(stb c.f6++(uv c.f7.length++(stb c.f7++r))))⟩) (c.f5,⟨uv c.f6.length++(stb c.f6++(uv c.f7.length++(stb c.f7++r)))⟩) (c.f6,⟨uv c.f7.length++(stb c.f7++r)⟩) (c.f7,⟨r⟩) r=some (.inl (ch++[c],r,((i+1:Nat):Int))):=by
  unfold eR;simp only [lt_];rw [bJ (by simp only [List.length_cons,List.length_nil];omega),mE (by omega) (by omega)];rfl
 unfold fT;by_cases hz:i=0
 ·rw [if_neg (by simp only [decide_eq_true_eq];omega),h0 hz,show ((0:Int)==0)=true from rfl,mI];simp only [bGi,hT];rw [h0 hz] at a;exact a
 ·obtain⟨p,k,l,m⟩:=hp (by omega);rw [if_pos (by simp only [decide_eq_true_eq];omega)];simp only [lt_];rw [mE (n:=(i:Int) - 1) (by omega) (by omega),bB (n:=i - 1) (by omega) k];simp only [bGi,lt_];rw [mE (n:=p.f3+1) (by omega) (by omega),if_pos (by simp only [beq_iff_eq];exact l),show decide (p.f1<c.f1)=true by simpa using m,mI];simp only [bGi,hT];exact a
theorem aP9:∀ (cs:List (List S61)) (a i:Nat),(fL cs a)[i]?=(cs[i]?).map λc=>ckL c ((a+(bW (cs.take i)).length:Nat):Int)
 | [],a,i=>by simp [fL]
 | c::cs,a,0=>by simp [fL,bW]
 | c::cs,a,i+1=>by show (fL cs (a+(pgL c).length))[i]?=_;rw [aP9 cs];simp only [List.getElem?_cons_succ,List.take_succ_cons];rw [show bW (c::cs.take i)=pgL c++bW (cs.take i) from rfl,List.length_append,Nat.add_assoc]
section
variable {k:Int} {l:List S61} (h:Seg k l)
include h
theorem Seg.at_ {i:Nat} {x:S90} (hx:(fL (pcs 64 l) 0)[i]?=some x):∃ a:Int,0<=a/\Run k a l/\x=ckL ((l.drop (i * 64)).take 64) (((bW ((pcs 64 l).take i)).length:Nat):Int)/\i * 64<l.length/\x.f1=(((bW ((pcs 64 l).take i)).length:Nat):Int)/\x.f2=a+(i * 64:Nat)/\x.f3=a+(min l.length (i * 64+64):Nat) - 1/\x.f0=((min 64 (l.length - i * 64):Nat):Int):=by
 obtain⟨a,d,m,hr⟩:=h.run;rw [aP9,Nat.zero_add] at hx;obtain⟨c,hc,rfl⟩:=Option.map_eq_some_iff.1 hx;have b:i * 64<l.length:=by have:=(List.getElem?_eq_some_iff.1 hc).1;rw [aBq] at this;exact (aA3 (by decide)).2 this
 rw [aHh (by decide) b] at hc;cases hc;have e:=(hr.drop (i * 64)).take 64;have hl:((l.drop (i * 64)).take 64).length=min 64 (l.length - i * 64):=by simp
 obtain⟨f,g⟩:=aLg e (by omega) (((bW ((pcs 64 l).take i)).length:Nat):Int);obtain⟨e0,j⟩:=aOv ((l.drop (i * 64)).take 64) (((bW ((pcs 64 l).take i)).length:Nat):Int);exact⟨a,d,hr,rfl,b,j,f,by rw [g,hl];omega,by rw [e0,hl]⟩
theorem Seg.page_lt {i j:Nat} (a:i<j) (b:j<=(pcs 64 l).length):(bW ((pcs 64 l).take i)).length<(bW ((pcs 64 l).take j)).length:=by
 have e:(pcs 64 l).take j=(pcs 64 l).take i++((pcs 64 l).take j).drop i:=by have:=List.take_append_drop i ((pcs 64 l).take j);rw [List.take_take,Nat.min_eq_left (by omega)] at this;exact this.symm
 rw [e,aEq,List.length_append];have hc:∀ c∈((pcs 64 l).take j).drop i,Cut k c:=λc hc=>h.cut c (List.mem_of_mem_take (List.mem_of_mem_drop hc));obtain⟨p1,p2,p3⟩:=aDr h.k8 hc;have:((pcs 64 l).take j).drop i≠[]:=by intro e;have:=congrArg List.length e;simp at this;omega
 have:=List.length_pos_iff.2 this;omega
theorem aWj {Pg:List Int} (D:Pg.length=(bW (pcs 64 l)).length):kQ ⟨Pg,0,[]⟩ ⟨vD k.toNat (fL (pcs 64 l) 0)⟩=some (.inl (⟨Pg,k,fL (pcs 64 l) 0⟩,⟨[]⟩)):=by
 obtain⟨n1,n2⟩:=h.num;obtain⟨c1,c2,c3,E,F⟩:=h.cks;obtain⟨f1,f2⟩:=h.foot;have G:=h.k1;have g:=h.k8;have hn:=aAt (pcs 64 l) 0;unfold vD at f2 f1 ⊢;unfold kQ;rw [rdU (by omega) (by omega) f2];simp only [bGi,hT,lt_];rw [show ((k.toNat:Nat):Int)=k by omega,w64 (n:=k) (by omega) (by omega),rdU (by omega) (by omega) f2.r];simp only [bGi,hT];rw [if_pos (by simp only [decide_eq_true_eq];omega),show decide (0<(((fL (pcs 64 l) 0).length:Nat):Int))=true by simp only [decide_eq_true_eq];omega,mI];simp only [bGi,hT];have hB:=f2.r.r;have m:((fL (pcs 64 l) 0).flatMap ckB).length<=2400:=by simp only [List.length_append] at f1;omega
 have o:∀ x∈fL (pcs 64 l) 0,x.f1<=(Pg.length:Int):=λx hx=>by have:=(aOw g h.cut x hx).2.1;omega
 have c:=λ{i x}=>h.at_ (i:=i) (x:=x);have p:=λ{i j}=>h.page_lt (i:=i) (j:=j);generalize q:(((((fL (pcs 64 l) 0).length:Nat):Int)),(⟨(fL (pcs 64 l) 0).flatMap ckB⟩:S140))=Y;have u:Y.1=(((fL (pcs 64 l) 0).length:Nat):Int):=by rw [← q]
 unfold iF;generalize fL (pcs 64 l) 0=cks at *;have hk:=iY (b:=λs:List S90×List Int×Int=>cX ⟨Pg,0,[]⟩ k Y s.1 s.2.1 s.2.2) (λi=>(cks.take i,(cks.drop i).flatMap ckB,(i:Int)))
  (t:=.inl (cks,[])) cks.length (λi hi=>by
   have hx:=List.getElem?_eq_getElem (l:=cks) (i:=i) hi;obtain⟨a,H,v,I,J,d,w,K,L⟩:=c hx;have hd:cks.drop i=cks[i]::cks.drop (i+1):=List.drop_eq_getElem_cons hi;have y:(cks.flatMap ckB)=(cks.take i).flatMap ckB++(ckB cks[i]++(cks.drop (i+1)).flatMap ckB):=by rw [← List.flatMap_cons, ← hd, ← List.flatMap_append,List.take_append_drop]
   have f:=m;rw [y] at hB f;simp only [List.length_append] at f;have hm:=List.getElem_mem hi;show cX _ k Y (cks.take i) ((cks.drop i).flatMap ckB) (i:Int)=_;rw [hd,List.flatMap_cons];rw [aR0 (c1 _ hm).1 (o _ hm) (by show Pg.length<=_;omega) (by omega) hB.r (by rw [u];omega) (by omega) (by simp;omega) (λe=>by subst e;rw [d];simp [bW]) (λM=>by
    have hp:=List.getElem?_eq_getElem (l:=cks) (i:=i - 1) (by omega);obtain⟨b,N,z,O,P,A,Q,B,R⟩:=c hp;have C:a=b:=by have S:=v.of 0 _ (List.getElem?_eq_getElem (by omega));have T:=z.of 0 _ (List.getElem?_eq_getElem (by omega));omega
    refine⟨_,by rw [List.getElem?_take,if_pos (by omega)];exact hp,by rw [w,B,C];omega,?_⟩;rw [d,A];have:=p (i:=i - 1) (j:=i) (by omega) (by omega);omega),List.take_add_one,hx]
   rfl) (by
   show cX _ k Y _ _ ((cks.length:Nat):Int)=_;unfold cX;rw [if_neg (by simp only [decide_eq_true_eq];omega),List.take_length,List.drop_length];rfl)
 rw [show (([]:List S90),cks.flatMap ckB,(0:Int))=(cks.take 0,(cks.drop 0).flatMap ckB,((0:Nat):Int)) by simp,hk];rfl
end
theorem aLr {a b:Nat} (c:a<4294967296) (hb:b<4294967296):ior .i64 (a:Int) (b:Int)=((a ||| b:Nat):Int):=by unfold ior;rw [fH,fH];have h:a ||| b<2 ^ 32:=Nat.or_lt_two_pow (show a<2 ^ 32 by omega) (show b<2 ^ 32 by omega);simp only [BitVec.toNat_or,BitVec.toNat_ofNat,show IntKind.i64.bits=64 from rfl];rw [Nat.mod_eq_of_lt (show a<2 ^ 64 by omega),Nat.mod_eq_of_lt (show b<2 ^ 64 by omega),w64 (by omega) (by omega)]
theorem aIk {a n:Nat} (hn:n<=24) (c:a<256):wT .i64 (a:Int) (n:Int)=((a * 2 ^ n:Nat):Int):=by have b:2 ^ n<=2 ^ 24:=Nat.pow_le_pow_right (by decide) hn;have d:a * 2 ^ n<=255 * 2 ^ 24:=Nat.mul_le_mul (by omega) b;unfold wT;rw [show min ((n:Int).toNat) IntKind.i64.bits=n from by rw [Int.toNat_natCast,show IntKind.i64.bits=64 from rfl];omega,aFv];rw [show (a:Int) * ((2 ^ n:Nat):Int)=((a * 2 ^ n:Nat):Int) from rfl,w64 (by omega) (by omega)]
theorem aXa {n:Nat} (h:n<4294967296):ior .i64 (ior .i64 (ior .i64 ((n % 256:Nat):Int) (wT .i64 ((n / 256 % 256:Nat):Int) 8)) (wT .i64 ((n / 65536 % 256:Nat):Int) 16)) (wT .i64 ((n / 16777216 % 256:Nat):Int) 24)=(n:Int):=by have b:=aIk (a:=n / 256 % 256) (n:=8) (by decide) (by omega);have c:=aIk (a:=n / 65536 % 256) (n:=16) (by decide) (by omega);have d:=aIk (a:=n / 16777216 % 256) (n:=24) (by decide) (by omega);rw [show ((8:Nat):Int)=8 from rfl] at b;rw [show ((16:Nat):Int)=16 from rfl] at c;rw [show ((24:Nat):Int)=24 from rfl] at d;have k:(2:Nat) ^ 8=256:=rfl;have i:(2:Nat) ^ 16=65536:=rfl;have j:(2:Nat) ^ 24=16777216:=rfl;have e:n % 256 ||| n / 256 % 256 * 2 ^ 8=n % 256+n / 256 % 256 * 2 ^ 8:=aBo (by omega) _;rw [b,c,d,aLr (by omega) (by omega),e];have f:n % 256+n / 256 % 256 * 2 ^ 8 ||| n / 65536 % 256 * 2 ^ 16=n % 256+n / 256 % 256 * 2 ^ 8+n / 65536 % 256 * 2 ^ 16:=aBo (by omega) _;rw [aLr (by omega) (by omega),f];have g:n % 256+n / 256 % 256 * 2 ^ 8+n / 65536 % 256 * 2 ^ 16 ||| n / 16777216 % 256 * 2 ^ 24=n % 256+n / 256 % 256 * 2 ^ 8+n / 65536 % 256 * 2 ^ 16+n / 16777216 % 256 * 2 ^ 24:=aBo (by omega) _;rw [aLr (by omega) (by omega),g];omega
def zL (l:List S61) (k:Int):S128:=⟨bW (pcs 64 l),k,fL (pcs 64 l) 0⟩
section
variable {k:Int} {l:List S61} (h:Seg k l)
include h
theorem Seg.bytes:Bs (xL l k.toNat)/\(xL l k.toNat).length=(bW (pcs 64 l)).length+(vD k.toNat (fL (pcs 64 l) 0)).length+22:=by obtain⟨c1,c2,c3,c,a⟩:=h.cks;obtain⟨f1,f2⟩:=h.foot;have d:=sH 102 (vD k.toNat (fL (pcs 64 l) 0));have b:=sH 116 (pF (bW (pcs 64 l)).length);rw [qJ] at b;unfold xL;exact⟨(a.app (aCn (by decide) f2)).app (aCn (by decide) (aFc _)),by simp only [List.length_append];omega⟩
theorem aP4:sJ (xL l k.toNat)=some (some (zL l k),0):=by
 obtain⟨c1,c2,c3,i,j⟩:=h.cks;obtain⟨f1,f2⟩:=h.foot;obtain⟨b1,b2⟩:=h.bytes;have m:=sH 102 (vD k.toNat (fL (pcs 64 l) 0));have e:=sH 116 (pF (bW (pcs 64 l)).length);rw [qJ] at e;have a:=aBp (p:=bW (pcs 64 l)++jQ 102 (vD k.toNat (fL (pcs 64 l) 0))) (b:=pF (bW (pcs 64 l)).length) (q:=[]) (kind:=116) (by simp [qJ]);have c:=aBp (p:=bW (pcs 64 l)) (b:=vD k.toNat (fL (pcs 64 l) 0)) (q:=jQ 116 (pF (bW (pcs 64 l)).length)) (kind:=102) (by omega);rw [List.append_nil,show bW (pcs 64 l)++jQ 102 (vD k.toNat (fL (pcs 64 l) 0))++jQ 116 (pF (bW (pcs 64 l)).length)=xL l k.toNat from rfl] at a;rw [show bW (pcs 64 l)++jQ 102 (vD k.toNat (fL (pcs 64 l) 0))++jQ 116 (pF (bW (pcs 64 l)).length)=xL l k.toNat from rfl] at c;have f:=aWj h (Pg:=bW (pcs 64 l)) rfl;have g:(xL l k.toNat).take (bW (pcs 64 l)).length=bW (pcs 64 l):=by unfold xL;rw [List.append_assoc,List.take_left' rfl]
 unfold zL;rw [List.length_append] at a;generalize xL l k.toNat=B at *;generalize vD k.toNat (fL (pcs 64 l) 0)=Ft at *;generalize fL (pcs 64 l) 0=cks at *;generalize bW (pcs 64 l)=Pg at *;unfold sJ;rw [if_neg (by simp only [decide_eq_true_eq];omega)];simp only [lt_];rw [w64 (n:=(B.length:Int) - 13) (by omega) (by omega),show (B.length:Int) - 13=((Pg.length+(jQ 102 Ft).length:Nat):Int) by omega,yG b1 (by omega),a];simp only [bGi];rw [if_neg (by simp),if_neg (by simp),if_neg (by rw [qJ];simp)];unfold nA;rw [if_neg (by simp only [bne_iff_ne,ne_eq,Decidable.not_not];omega)];simp only [show at_ (pF Pg.length) 0=some ((Pg.length % 256:Nat):Int) from rfl,show at_ (pF Pg.length) 1=some ((Pg.length / 256 % 256:Nat):Int) from rfl,show at_ (pF Pg.length) 2=some ((Pg.length / 65536 % 256:Nat):Int) from rfl,show at_ (pF Pg.length) 3=some ((Pg.length / 16777216 % 256:Nat):Int) from rfl,bGi,lt_];rw [w64 (n:=((Pg.length % 256:Nat):Int)) (by omega) (by omega),w64 (n:=((Pg.length / 256 % 256:Nat):Int)) (by omega) (by omega),w64 (n:=((Pg.length / 65536 % 256:Nat):Int)) (by omega) (by omega),w64 (n:=((Pg.length / 16777216 % 256:Nat):Int)) (by omega) (by omega),aXa (by omega)];rw [w64 (n:=(B.length:Int) - 13) (by omega) (by omega),if_neg (by simp only [decide_eq_true_eq];omega),yG b1 (by omega),c];simp only [bGi];have d:=oG (xs:=B) (l:=0) (u:=Pg.length) (by omega) (by omega);rw [g,List.drop_zero,show ((0:Nat):Int)=0 from rfl] at d;rw [if_neg (by simp),d];simp only [bGi];rw [aGo (by omega)];simp only [bGi];rw [if_neg (by simp),if_neg (by simp only [bne_iff_ne,ne_eq,Decidable.not_not];omega)];unfold nW;rw [f];rfl
theorem bA7:WL k l=(xL l k.toNat,0):=by
 obtain⟨a,b,c,hr⟩:=h.run;have d:=h.k1;have f:=h.k8;have g:=h.ps;have j:=h.le;unfold WL;rw [if_neg (by omega),if_neg (by omega)];have hx:=List.getElem?_eq_getElem (l:=l) (i:=0) (by omega);have e:(l.head?.map (·.f0) |>.getD 0)=a:=by rw [List.head?_eq_getElem?,hx];have:=hr.of 0 _ hx;simp at this ⊢;exact this
 rw [e,aNj (by simpa using hr)]
end
def aC7 (n:Nat):List S61:=(List.range n).map λi:Nat=>⟨(i:Int),0,(i:Int),[],0⟩
theorem aJe {n i:Nat} {x:S61} (h:(aC7 n)[i]?=some x):x=⟨(i:Int),0,(i:Int),[],0⟩/\i<n:=by unfold aC7 at h;rw [List.getElem?_map] at h;obtain⟨j,a,rfl⟩:=Option.map_eq_some_iff.1 h;obtain⟨b,rfl⟩:=List.getElem?_eq_some_iff.1 a;rw [List.getElem_range];exact⟨rfl,by simpa using b⟩
theorem Run.seg {k f:Int} {m:List S61} (h:Run k f m) (hk:1<=k/\k<=8) (hf:0<=f/\f<=4294967296) (h0:0<m.length) (hl:m.length<=150):Seg k m :=
 ⟨hk.1,hk.2,h0,by omega,f,hf.1,by omega,h⟩
def jR (f:S26) (e:S61):Bool:=decide (f.f0<=e.f0)&&(decide (e.f0<f.f1)&&(decide (f.f2<=e.f2)&&decide (e.f2<=f.f3)))
def wB (f:S26) (c:S90):Bool:=decide (f.f0<f.f1)&&(decide (f.f0<=c.f3)&&(decide (c.f2<f.f1)&&(decide (f.f2<=f.f3)&&(decide (f.f2<=c.f5)&&decide (c.f4<=f.f3)))))
theorem aSz (f:S26) (e:S61):kO f e=some (jR f e):=by unfold kO jR;cases decide (f.f0<=e.f0) <;> cases decide (e.f0<f.f1) <;> cases decide (f.f2<=e.f2) <;> rfl
theorem aSu (f:S26) (c:S90):jV f c=some (wB f c):=by unfold jV wB;cases decide (f.f0<f.f1) <;> cases decide (f.f0<=c.f3) <;> cases decide (c.f2<f.f1) <;> cases decide (f.f2<=f.f3) <;> cases decide (f.f2<=c.f5) <;> rfl
theorem aTc (l:List S61) (p:Int):∀ e∈l,(ckL l p).f2<=e.f0/\e.f0<=(ckL l p).f3/\(ckL l p).f4<=e.f2/\e.f2<=(ckL l p).f5:=λe he=>by
 cases l with
 | nil=>cases he
 | cons x r =>
  obtain⟨⟨_,a2⟩,⟨_,b2⟩,⟨_,c2⟩,_,a⟩:=aLq (x::r) (ck0 (x::r) p x);exact⟨a2 e he,b2 e he,c2 e he,a e he⟩
theorem aOh {f:S26} {l:List S61} {p:Int} (h:wB f (ckL l p)=false):l.filter (jR f)=[]:=by
 rw [List.filter_eq_nil_iff];intro e he hw;obtain⟨b1,b2,a,b⟩:=aTc l p e he;unfold jR at hw;simp only [Bool.and_eq_true,decide_eq_true_eq] at hw;have:wB f (ckL l p)=true:=by unfold wB;simp only [Bool.and_eq_true,decide_eq_true_eq];omega
 rw [h] at this;cases this
theorem aHy (l:List S61) (p:Int):ckL (l.map dD) p=ckL l p:=by
 have key:∀ (l:List S61) (c:S90),(l.map dD).foldl ckF c=l.foldl ckF c:=by
  intro l
  induction l with
  | nil=>intro c;rfl
  | cons e l ih=>intro c;exact ih (ckF c e)
 cases l with
 | nil=>rfl
 | cons e r =>
  show ((e::r).map dD).foldl ckF (ck0 ((e::r).map dD) p (dD e))=_;rw [key,show ck0 ((e::r).map dD) p (dD e)=ck0 (e::r) p e from by unfold ck0;rw [List.length_map];rfl];rfl
theorem aTp (c:S90):aJn c c=true:=by unfold aJn;simp
theorem aGs (f:S26) (l:List S61):(l.map dD).filter (jR f)=(l.filter (jR f)).map dD:=by rw [List.filter_map];rfl
section
variable {k:Int} {l:List S61} (h:Seg k l) (f:S26)
include h
theorem aU5 {c:S90} {Y:List S61×Int×Int} {m:List S61} {a:Int} (d:Y.1=m.map dD) (hm:Run k a m) (h:0<=a/\a+m.length<=1099511627776) (hl:m.length<=64) (hc:c.f2=a) (out:List S61) (i:out.length<=1024) :
  loop (λs:List S61×Int=>cW f c Y s.1 s.2) (out,0)=some (.inl (out++(m.map dD).filter (jR f))):=by
 have hb:∀ j,((m.map dD).take j |>.filter (jR f)).length<=64:=λj=>by have:=List.length_filter_le (jR f) ((m.map dD).take j);simp at this ⊢;omega
 have hk:=iY (b:=λs:List S61×Int=>cW f c Y s.1 s.2) (λj=>(out++((m.map dD).take j).filter (jR f),(j:Int))) (t:=.inl (out++(m.map dD).filter (jR f))) m.length (λj e=>by
  have hx:(m.map dD)[j]?=some (dD m[j]):=by rw [List.getElem?_map,List.getElem?_eq_getElem e];rfl
  have g:=hm.of j _ (List.getElem?_eq_getElem e);have l:=hb j;show cW f c Y (out++((m.map dD).take j).filter (jR f)) (j:Int)=_;unfold cW;rw [d,if_pos (by simp only [decide_eq_true_eq,List.length_map];omega),bB rfl hx];simp only [bGi,lt_];rw [mE (n:=(j:Int)) (by omega) (by omega),hc,mE (n:=a+(j:Int)) (by omega) (by omega),if_neg (by simp only [bne_iff_ne,ne_eq,Decidable.not_not];exact g),aSz];simp only [bGi];rw [List.take_add_one,hx,List.filter_append];simp only [Option.toList_some];cases hw:jR f (dD m[j]) with
  | true =>
   rw [if_pos rfl,bJ (by simp only [List.length_append,List.length_cons,List.length_nil];omega)];unfold fR;rw [lt_,w64 (by omega) (by omega),List.filter_cons_of_pos hw,List.filter_nil,List.append_assoc];rfl
  | false =>
   rw [if_neg (by simp)];unfold fR;rw [lt_,w64 (by omega) (by omega),List.filter_cons_of_neg (by rw [hw];simp),List.filter_nil,List.append_nil];rfl) (by
  show cW f c Y _ ((m.length:Nat):Int)=_;unfold cW;rw [d,if_neg (by simp),List.take_of_length_le (by simp)])
 rw [show (out,(0:Int))=(out++((m.map dD).take 0).filter (jR f),((0:Nat):Int)) by simp,hk]
theorem aVs:kP (some (zL l k)) f=some ((l.filter (jR f)).map dD,(((fL (pcs 64 l) 0).countP (wB f):Nat):Int),0):=by
 obtain⟨n1,n2⟩:=h.num;obtain⟨c1,c2,c3,R,D⟩:=h.cks;have E:=h.k8;have hle:=h.le;have r:=λ{i x}=>h.at_ (i:=i) (x:=x);have hn:=aAt (pcs 64 l) 0;obtain⟨a,S,T,hr⟩:=h.run;have hlen:(pcs 64 l).length=(l.length+64 - 1) / 64:=aBq;unfold kP;simp only;have hk:=iY (b:=λs:List S61×Int×Int=>dO f (zL l k) s.1 s.2.1 s.2.2) (λi=>(((l.take (i * 64)).map dD).filter (jR f),((((fL (pcs 64 l) 0).take i).countP (wB f):Nat):Int),(i:Int)))
  (t:=.inl ((l.map dD).filter (jR f),(((fL (pcs 64 l) 0).countP (wB f):Nat):Int))) (pcs 64 l).length (λi hi=>by
   have hx:=List.getElem?_eq_getElem (l:=fL (pcs 64 l) 0) (i:=i) (by omega);obtain⟨a',U,F,j,G,u,v,H,w⟩:=r hx;have I:a=a':=by have W:=hr.of 0 _ (List.getElem?_eq_getElem (by omega));have X:=F.of 0 _ (List.getElem?_eq_getElem (by omega));omega
   subst I;have g:=aHh (q:=64) (by decide) G;have J:=h.cut _ (List.mem_of_getElem? g);have o:=(hr.drop (i * 64)).take 64;have K:l.take ((i+1) * 64)=l.take (i * 64)++(l.drop (i * 64)).take 64:=by rw [Nat.add_mul,Nat.one_mul,List.take_add]
   have L:((l.drop (i * 64)).take 64).length=min 64 (l.length - i * 64):=by simp
   have M:((fL (pcs 64 l) 0).take i).countP (wB f)<=16:=by have:=List.countP_le_length (p:=wB f) (l:=(fL (pcs 64 l) 0).take i);simp at this;omega
   have N:(((l.take (i * 64)).map dD).filter (jR f)).length<=1024:=by have:=List.length_filter_le (jR f) ((l.take (i * 64)).map dD);simp at this ⊢;omega
   have O:((fL (pcs 64 l) 0).take (i+1))=(fL (pcs 64 l) 0).take i++[(fL (pcs 64 l) 0)[i]'(by omega)]:=by rw [List.take_add_one,hx];rfl
   show dO f (zL l k) (((l.take (i * 64)).map dD).filter (jR f)) ((((fL (pcs 64 l) 0).take i).countP (wB f):Nat):Int) (i:Int)=_;rw [K,O,List.map_append,List.filter_append,List.countP_append];generalize ((l.take (i * 64)).map dD).filter (jR f)=out at N ⊢;generalize Y:((fL (pcs 64 l) 0).take i).countP (wB f)=d at M ⊢;generalize Z:(fL (pcs 64 l) 0)[i]'(by omega)=c at j u v H w hx ⊢;unfold dO;rw [show (zL l k).f2=fL (pcs 64 l) 0 from rfl,if_pos (by simp only [decide_eq_true_eq];omega),bB rfl hx];simp only [bGi];rw [aSu];simp only [bGi];cases hmay:wB f c with
   | false =>
    rw [if_pos (show (!false)=true from rfl)];have P:((l.drop (i * 64)).take 64).filter (jR f)=[]:=aOh (p:=(((bW ((pcs 64 l).take i)).length:Nat):Int)) (by rw [← j];exact hmay);rw [aGs,P];unfold fQ;rw [lt_,w64 (by omega) (by omega)];simp [hmay]
   | true =>
    rw [if_neg (by simp)];simp only [lt_];rw [w64 (n:=((d:Nat):Int)+1) (by omega) (by omega),w64 (n:=(i:Int)+1) (by omega) (by omega)];have y:bW (pcs 64 l)=bW ((pcs 64 l).take i)++pgL ((l.drop (i * 64)).take 64)++bW ((pcs 64 l).drop (i+1)):=by
     have:=List.take_append_drop i (pcs 64 l);rw [List.drop_eq_getElem_cons (by omega)] at this;rw [List.getElem?_eq_getElem (by omega)] at g;rw [Option.some.inj g] at this
     conv=>lhs;rw [← this,aEq]
     rw [List.append_assoc];rfl
    have z:∀ e:Int,e=(((bW ((pcs 64 l).take i)).length+(pgL ((l.drop (i * 64)).take 64)).length:Nat):Int) ->
      fS f (zL l k) out (i:Int) c (((d:Nat):Int)+1) e=some (.inl (out++(((l.drop (i * 64)).take 64).map dD).filter (jR f),((d:Nat):Int)+1,((i+1:Nat):Int))):=by
     intro e he;unfold fS;rw [show (zL l k).f0=bW (pcs 64 l) from rfl,show (zL l k).f1=k from rfl,aJo D (by omega),u];have A:=aTt (l:=(l.drop (i * 64)).take 64) (by omega) (o.laid E) k (bW ((pcs 64 l).take i)) (bW ((pcs 64 l).drop (i+1)));rw [show jQ 101 (yV ((l.drop (i * 64)).take 64))=pgL ((l.drop (i * 64)).take 64) from rfl, ← y,if_pos (List.all_eq_true.2 o.fm)] at A;rw [A];simp only [bGi];rw [if_pos (by rfl),if_neg (by simp only [bne_iff_ne,ne_eq,Decidable.not_not];exact he.symm),if_neg (by simp only [bne_iff_ne,ne_eq,Decidable.not_not,List.length_map];rw [L,w]),aM3 (by rw [List.length_map];exact J.ps) (by rw [List.length_map];omega),aHy, ← j];simp only [bGi,aTp];unfold eQ;rw [if_neg (by simp)];unfold iE;rw [if_neg (by simp),aU5 h f (m:=(l.drop (i * 64)).take 64) rfl o (by omega) (by omega) v out (by omega)];simp only [bGi];unfold jM kY fQ;rw [lt_,w64 (by omega) (by omega)];rfl
    have B:((d+[c].countP (wB f):Nat):Int)=((d:Nat):Int)+1:=by rw [List.countP_cons_of_pos hmay];simp
    by_cases a0:i+1<(pcs 64 l).length
    ·have C:=List.getElem?_eq_getElem (l:=fL (pcs 64 l) 0) (i:=i+1) (by omega);obtain⟨_,_,_,_,_,Q,_⟩:=r C;rw [if_pos (by simp only [decide_eq_true_eq];omega),bB (n:=i+1) (by omega) C];simp only [bGi];rw [z _ (by rw [Q,List.take_add_one,g,Option.toList_some,aEq,List.length_append];simp [bW]),B]
    ·rw [if_neg (by simp only [decide_eq_true_eq];omega),z _ (by
      rw [show (zL l k).f0=bW (pcs 64 l) from rfl,y,List.drop_of_length_le (l:=pcs 64 l) (i:=i+1) (by omega)];simp [bW]),B]) (by
   show dO f (zL l k) _ _ (((pcs 64 l).length:Nat):Int)=_;unfold dO;rw [show (zL l k).f2=fL (pcs 64 l) 0 from rfl,if_neg (by simp only [decide_eq_true_eq];omega),List.take_of_length_le (l:=l) (by omega),List.take_of_length_le (l:=fL (pcs 64 l) 0) (by omega)])
 rw [show (([]:List S61),(0:Int),(0:Int))=(((l.take (0 * 64)).map dD).filter (jR f),((((fL (pcs 64 l) 0).take 0).countP (wB f):Nat):Int),((0:Nat):Int)) by simp,hk];simp only [bGi];rw [aGs];rfl
end
section
variable (f:S26)
end
theorem gI8 {a:Int} (h:gI .u8 a):0<=a/\a<256:=by unfold gI Lit.wf at h;simp only [Bool.and_eq_true,decide_eq_true_eq] at h;exact⟨h.1,Int.lt_of_le_of_lt h.2 (by decide)⟩
theorem aUp {a:Int} (h:gI .u8 a):1<=IntKind.i64.wrap (1+(IntKind.i64.wrap a).tmod 8)/\IntKind.i64.wrap (1+(IntKind.i64.wrap a).tmod 8)<=8:=by obtain⟨b,c⟩:=gI8 h;obtain⟨n,rfl⟩:∃ n:Nat,a=n:=⟨a.toNat,by omega⟩;rw [w64 (n:=(n:Int)) (by omega) (by omega),show (n:Int).tmod 8=((n % 8:Nat):Int) from rfl,w64 (by omega) (by omega)];omega
theorem aMt {k f:Int} {m:List S61} (h:Seg k m) (hr:Run k f m) (hf:0<=f/\f<=4294967296):hN (some (zL m k))=some (f,f+m.length):=by
 obtain⟨n1,n2⟩:=h.num;have hle:=h.le;have d:=h.ps;have hn:=aAt (pcs 64 m) 0;have hlen:(pcs 64 m).length=(m.length+64 - 1) / 64:=aBq;have hx:=List.getElem?_eq_getElem (l:=fL (pcs 64 m) 0) (i:=0) (by omega);have c:=List.getElem?_eq_getElem (l:=fL (pcs 64 m) 0) (i:=(fL (pcs 64 m) 0).length - 1) (by omega);obtain⟨a,o,e,p,q,r,g,s,t⟩:=h.at_ hx;obtain⟨b,u,p1,p2,p3,v,x,j,y⟩:=h.at_ c;have w:=List.getElem?_eq_getElem (l:=m) (i:=0) d;have z:=e.of 0 _ w;have A:=p1.of 0 _ w;have B:=hr.of 0 _ w;unfold hN;simp only;rw [show (zL m k).f2=fL (pcs 64 m) 0 from rfl,show at_ (fL (pcs 64 m) 0) 0=_ from bB (n:=0) rfl hx];simp only [bGi,lt_];rw [w64 (by omega) (by omega),bB (n:=(fL (pcs 64 m) 0).length - 1) (by omega) c];simp only [bGi];rw [mE (by omega) (by omega),g,j];have:f+(m.length:Int)=b+((min m.length (((fL (pcs 64 m) 0).length - 1) * 64+64):Nat):Int) - 1+1:=by omega
 rw [this,show a+((0 * 64:Nat):Int)=f by omega]
theorem aS0 {k f:Int} {m:List S61} (h:Run k f m) (hf:0<=f):m.filter (jR ⟨0,1099511627776,-1099511627776,1099511627776⟩)=m:=by rw [List.filter_eq_self];intro e he;have:=wJ (h.fm e he);have:=(h.gd e he).1;unfold jR;simp only [Bool.and_eq_true,decide_eq_true_eq];omega
theorem aJ7 {l:List S61} {f:S26} (h:∀ e∈l,jR f e=false):l.filter (jR f)=[]:=by rw [List.filter_eq_nil_iff];intro e he;rw [h e he];simp
def aB4:List Int->Nat
 | []=>0
 | x::r=>x.toNat+256 * aB4 r
theorem aP7:∀ {xs:List Int},Bs xs->aB4 xs<2 ^ (8 * xs.length)
 | [],_=>by simp [aB4]
 | x::r,h=>by obtain⟨b,a⟩:=h.cons;have ih:=aP7 a;rw [List.length_cons,show 8 * (r.length+1)=8+8 * r.length by omega,Nat.pow_add,show (2:Nat) ^ 8=256 from rfl];show x.toNat+256 * aB4 r<_;omega
theorem aM0:∀ (a b:List Int),aB4 (a++b)=aB4 a+2 ^ (8 * a.length) * aB4 b
 | [],b=>by simp [aB4]
 | x::a,b=>by show x.toNat+256 * aB4 (a++b)=x.toNat+256 * aB4 a+_;rw [aM0 a b,List.length_cons,show 8 * (a.length+1)=8+8 * a.length by omega,Nat.pow_add,show (2:Nat) ^ 8=256 from rfl,Nat.mul_add,Nat.mul_assoc,Nat.add_assoc]
theorem aBh {xs:List Int} (h:Bs xs) {o:Nat} (b:o<=xs.length):aB4 (xs.drop o)=aB4 xs / 2 ^ (8 * o)/\aB4 (xs.take o)=aB4 xs % 2 ^ (8 * o):=by
 have e:=aM0 (xs.take o) (xs.drop o);have hl:(xs.take o).length=o:=by simp;omega
 have a:=aP7 (h.take o);rw [List.take_append_drop,hl] at e;rw [hl] at a;rw [e];exact⟨by rw [Nat.add_mul_div_left _ _ (Nat.two_pow_pos _),Nat.div_eq_of_lt a,Nat.zero_add],by rw [Nat.add_mul_mod_self_left,Nat.mod_eq_of_lt a]⟩
def Burst (D:Nat):Prop:=∃ k w:Nat,D=2 ^ k * w/\w<4294967296
theorem Burst.div {D:Nat} (h:Burst D) (j:Nat):Burst (D / 2 ^ j):=by
 obtain⟨k,w,rfl,hw⟩:=h;rcases Nat.le_total j k with a | a
 ·refine⟨k - j,w,?_,hw⟩;rw [show k=j+(k - j) by omega,Nat.pow_add,Nat.mul_assoc,Nat.mul_div_cancel_left _ (Nat.two_pow_pos j),Nat.add_sub_cancel_left]
 ·refine⟨0,w / 2 ^ (j - k),?_,Nat.lt_of_le_of_lt (Nat.div_le_self _ _) hw⟩;rw [show j=k+(j - k) by omega,Nat.pow_add,Nat.mul_div_mul_left _ _ (Nat.two_pow_pos k),Nat.add_sub_cancel_left,Nat.pow_zero,Nat.one_mul]
theorem Burst.mod {D:Nat} (h:Burst D) (j:Nat):Burst (D % 2 ^ j):=by
 obtain⟨k,w,rfl,hw⟩:=h;rcases Nat.le_total k j with a | a
 ·refine⟨k,w % 2 ^ (j - k),?_,Nat.lt_of_le_of_lt (Nat.mod_le _ _) hw⟩;rw [show j=k+(j - k) by omega,Nat.pow_add,Nat.mul_mod_mul_left,Nat.add_sub_cancel_left]
 ·refine⟨0,0,?_,by decide⟩;rw [show k=j+(k - j) by omega,Nat.pow_add,Nat.mul_assoc,Nat.mul_mod_right]
theorem Burst.part {A B:List Int} (hA:Bs A) (hB:Bs B) (hl:A.length=B.length) (h:Burst (aB4 A ^^^ aB4 B)) (o n:Nat) (b:o+n<=A.length):Burst (aB4 ((A.drop o).take n) ^^^ aB4 ((B.drop o).take n)):=by have a:=(aBh hA (o:=o) (by omega)).1;have b1:=(aBh hB (o:=o) (by omega)).1;have a2:=(aBh (hA.drop o) (o:=n) (by simp;omega)).2;have b2:=(aBh (hB.drop o) (o:=n) (by simp;omega)).2;rw [a2,b2,a,b1, ← Nat.xor_mod_two_pow, ← Nat.xor_div_two_pow];exact (h.div _).mod _
section
variable {p:List Int} {k a2:Nat}
end
section
variable {k:Int} {l:List S61} (h:Seg k l)
include h
end
section
variable {k:Int} {l:List S61} (h:Seg k l)
include h
end
theorem aZd {kind:Int} {b:List Int} (hk:0<=kind/\kind<256) (hB:Bs b) (hb:b.length<=1048576):aCo (jQ kind b) kind=some (b,0):=by
  have d:sI (jQ kind b) 0=some (kind,b,((jQ kind b).length:Int),0):=by have e:=yG (b:=jQ kind b) (a:=0) (aCn hk hB) (by rw [sH];omega);have c:=aBp (p:=[]) (q:=[]) (kind:=kind) hb;rw [List.nil_append,List.append_nil] at c;rw [e];congr 1;refine c.trans ?_;simp
  unfold aCo;rw [d];simp only [bGi];rw [if_pos (by simp),if_neg (by simp)];unfold uD;rw [if_neg (by simp)];unfold wX;rw [if_neg (by simp)]
theorem IsR.of {ρ:Type} {o:Option ((ρ×S140)⊕S140)} {a:ρ} {r:List Int} (h:IsR o (some (a,r))):o=some (.inl (a,⟨r⟩)):=by
  rcases h.cases with ⟨a',r',e,b⟩ | ⟨e,_⟩
  · cases e;exact b
  · cases e
section
end
theorem aQn {f:List UInt8} (h:tB f=true):f.length<=32:=by unfold tB at h;simp only [Bool.and_eq_true,decide_eq_true_eq] at h;exact h.2
def Kp (s s':S77):Prop:=s'.f1=s.f1/\(s.f2=0->s.f3=false->s'.f2=0/\s'.f3=false)
theorem Kp.refl (s:S77):Kp s s:=⟨rfl,λa b=>⟨a,b⟩⟩
theorem Kp.trans {a b c:S77} (h:Kp a b) (d:Kp b c):Kp a c:=⟨d.1.trans h.1,λx y=>d.2 (h.2 x y).1 (h.2 x y).2⟩
theorem Kp.off {s s':S77} (h:Kp s s') (a:s.f2=0) (b:s.f3=false) (c:s'.f3=true):False:=by have:=(h.2 a b).2;rw [c] at this;cases this
theorem aMf (s:S77) (l:List S98):Kp s { step s with f0:=l }:=by refine⟨rfl,λa b=>?_⟩;unfold step;rw [a,b];exact⟨rfl,rfl⟩
theorem aDm {s:S77} {n:List UInt8} (hn:tB n=true) (h:s.f3=false):uB s n=0:=by unfold uB;rw [if_pos hn,h];rfl
theorem aTy {kk:Nat} {s:S77} (h:SI kk s) {n:List UInt8} {x:S98} (hx:get s.f0 n=some x):tB n=true:=by obtain⟨a,rfl⟩:=yE hx;exact h.form x a
theorem aHx {kk:Nat} {s:S77} (h:SI kk s) (a:s.f3=false) {n:List UInt8} {x:S98} (hx:get s.f0 n=some x) (f:S98->List S98) :
    Kp s (aCh s n f).2/\(((aCh s n f).1=0/\(aCh s n f).2.f3=false/\(aCh s n f).2.f0=f x)\/((aCh s n f).1=9/\(aCh s n f).2.f3=true/\(aCh s n f).2.f0=s.f0)):=by
  unfold aCh;rw [if_pos (aDm (aTy h hx) a),hx];dsimp only;split
  · rename_i c
    exact⟨aMf s s.f0,.inr ⟨rfl,c,rfl⟩⟩
  · rename_i c
    exact⟨aMf s (f x),.inl ⟨rfl,by simpa using c,rfl⟩⟩
theorem aS4 {kk:Nat} {s:S77} (h:SI kk s) (a:s.f3=false) {n:List UInt8} (hn:tB n=true) (p:List Int) :
    Kp s (rB s n p).2/\(((rB s n p).1=10/\(rB s n p).2=s/\(s.f1 - used s.f0<p.length\/500<=s.f0.length)) \/
      (((rB s n p).1=0/\(rB s n p).2.f3=false\/(rB s n p).1=9/\(rB s n p).2.f3=true)/\(rB s n p).2.f0=put s.f0 ⟨n,((get s.f0 n).getD ⟨n,[],0⟩).f1++p,((get s.f0 n).getD ⟨n,[],0⟩).f2⟩)):=by
  unfold rB;rw [if_pos (aDm hn a)];split
  · rename_i c
    exact⟨Kp.refl s,.inl ⟨rfl,rfl,c.elim .inl λc=>.inr c.2⟩⟩
  · refine⟨aMf s _,.inr ⟨?_,rfl⟩⟩
    dsimp only;split
    · rename_i c
      exact .inr ⟨rfl,c⟩
    · rename_i c
      exact .inl ⟨rfl,by simpa using c⟩
theorem aCl:∀ {l:List S98},lX l->(l.map S98.f0).Nodup
  | [],_=>List.nodup_nil
  | x::l,h=>by obtain⟨a,b⟩:=List.pairwise_cons.1 h;refine List.nodup_cons.2 ⟨λhm=>?_,aCl b⟩;obtain⟨y,c,e⟩:=List.mem_map.1 hm;have:=a y c;rw [e,yU] at this;cases this
theorem aLx:∀ {l:List S98},lX l->∀ {x:S98},x∈l->get l x.f0=some x
  | [],_,x,hx=>by cases hx
  | y::l,h,x,hx=>by
    obtain⟨a,b⟩:=List.pairwise_cons.1 h;rcases List.mem_cons.1 hx with rfl | hx
    · simp [get]
    · have c:(y.f0==x.f0)=false:=by rw [beq_eq_false_iff_ne];intro e;have:=a x hx;rw [e,yU] at this;cases this
      have:=aLx b hx;unfold get at this ⊢;rw [List.find?_cons_of_neg (by simp [c])];exact this
def aNl (f:List UInt8) (p:List Int):S98:=⟨f,p,p.length⟩
def aEj (n:Nat):List UInt8:=if n<10 then [UInt8.ofNat (48+n)] else if n<100 then [UInt8.ofNat (48+n / 10),UInt8.ofNat (48+n % 10)] else [UInt8.ofNat (48+n / 10 / 10),UInt8.ofNat (48+n / 10 % 10),UInt8.ofNat (48+n % 10)]
theorem aH2 {u:Nat} (h:u<10):Lib.decDigits u=[UInt8.ofNat (48+u)]:=by rw [Lib.decDigits,dif_pos h]
theorem aTh {u:Nat} (h:¬ u<10):Lib.decDigits u=Lib.decDigits (u / 10)++[UInt8.ofNat (48+u % 10)]:=by rw [Lib.decDigits,dif_neg h]
theorem aT6 {n:Nat} (h:n<1000):Lib.itoa (n:Int)=aEj n:=by
  unfold Lib.itoa aEj;rw [if_neg (by omega),show ((n:Int)).toNat=n from rfl];by_cases a:n<10
  · rw [if_pos a,aH2 a]
  · rw [if_neg a,aTh a]
    by_cases b:n<100
    · rw [if_pos b,aH2 (by omega)];rfl
    · rw [if_neg b,aTh (by omega),aH2 (by omega)];rfl
theorem aE8 (n:Nat):(aEj n).length<=3:=by unfold aEj;split <;> (try split) <;> simp
def bF9 (l:List UInt8):Nat:=l.foldl (λa c=>10 * a+(c.toNat - 48)) 0
def preS:List UInt8:=[115,101,103,46]
def vL:List UInt8:=[99,97,116]
def qZ:List UInt8:=[99,97,116,46,116,109,112]
def qA (a b:Nat):List UInt8:=((preS++aEj a)++[46])++aEj b
def xI (f:List UInt8):Bool:=decide (4<=f.length)&&(f.take 4==preS)
theorem aCe {n:Nat} (h:n<1000):jX (n:Int) 10=some (aEj n):=by unfold jX sS;rw [bJ ⟨by omega,by omega,rfl⟩,aT6 h];rfl
theorem aQv {a b:Nat} (c:a<1000) (hb:b<1000):rU (a:Int) (b:Int)=some (qA a b):=by have d:=aE8 a;have e:=aE8 b;unfold rU;rw [aCe c];simp only [bGi];rw [bJ (by simp only [List.length_cons,List.length_nil,maxLen];omega),bJ (by simp only [List.length_append,List.length_cons,List.length_nil,maxLen];omega),aCe hb];simp only [bGi];rw [bJ (by simp only [List.length_append,List.length_cons,List.length_nil,maxLen];omega)];rfl
theorem aN9 (a b:Nat):(qA a b).length<=11:=by have c:=aE8 a;have d:=aE8 b;simp only [qA,preS,List.length_append,List.length_cons,List.length_nil];omega
theorem aQb:∀ n<1000,(aEj n).all (λc=>decide (48<=c.toNat)&&decide (c.toNat<=57))=true:=by decide +kernel
theorem aE9:∀ n<1000,bF9 (aEj n)=n:=by decide +kernel
theorem aM9 {n:Nat} (h:n<1000):∀ c∈aEj n,c≠46:=by intro c hc e;have:=List.all_eq_true.1 (aQb n h) c hc;subst e;revert this;decide
theorem aKt:∀ {x y p q:List UInt8},(∀ c∈x,c≠46)->(∀ c∈y,c≠46)->x++46::p=y++46::q->x=y/\p=q
  | [],[],p,q,_,_,h=>by injection h with _ h;exact⟨rfl,h⟩
  | [],c::y,p,q,_,hy,h=>by injection h with h _;exact absurd h.symm (hy c (List.mem_cons_self ..))
  | c::x,[],p,q,hx,_,h=>by injection h with h _;exact absurd h (hx c (List.mem_cons_self ..))
  | c::x,d::y,p,q,hx,hy,h=>by injection h with h1 h2;obtain⟨a,b⟩:=aKt (λc hc=>hx c (List.mem_cons_of_mem _ hc)) (λc hc=>hy c (List.mem_cons_of_mem _ hc)) h2;exact⟨by rw [h1,a],b⟩
theorem aN8 {a b c d:Nat} (e:a<1000) (hb:b<1000) (hc:c<1000) (hd:d<1000) (h:qA a b=qA c d):a=c/\b=d:=by
  have f:aEj a++46::aEj b=aEj c++46::aEj d:=by have:=congrArg (List.drop 4) h;simpa [qA,preS] using this
  obtain⟨g,i⟩:=aKt (aM9 e) (aM9 hc) f;have:=aE9 a e;have:=aE9 b hb;rw [g,aE9 c hc] at *;rw [i,aE9 d hd] at *;omega
theorem aGg {a b:Nat} (e:a<1000) (hb:b<1000):tB (qA a b)=true:=by
  have hl:=aN9 a b;have d:∀ n<1000,(aEj n).all okc=true:=λn hn=>by refine List.all_eq_true.2 λc hc=>?_;have:=List.all_eq_true.1 (aQb n hn) c hc;unfold okc;rw [this];simp
  unfold tB;rw [decide_eq_true (show (qA a b).length<=32 by omega),decide_eq_true (show 1<=(qA a b).length by simp [qA,preS])];simp only [qA,List.all_append,d a e,d b hb,Bool.and_true];decide
theorem aHv:tB vL=true:=by decide
theorem aJx:tB qZ=true:=by decide
theorem aDj (a b:Nat):xI (qA a b)=true:=by simp [xI,qA,preS]
theorem aR3:xI vL=false:=by decide
theorem aSf (f:List UInt8) (hf:f.length<4611686018427387904):nS f preS=some (xI f):=by
  unfold nS mN xI;rw [show ((preS.length:Nat):Int)=4 from rfl];by_cases h:4<=f.length
  · rw [if_pos (by simp only [decide_eq_true_eq];omega),show (4:Int)=((4:Nat):Int) from rfl,show (0:Int)=((0:Nat):Int) from rfl,oG (by omega) h]
    simp [h]
  · rw [if_neg (by simp only [decide_eq_true_eq];omega)]
    simp [h]
def aBy (l:List S46):Int:=match l.getLast? with | none=>0 | some x=>x.f2
theorem aX1 (c:S79) (h:c.f2.length<4611686018427387904):dK c=some (aBy c.f2,c):=by
  unfold dK aBy;rcases hc:c.f2 with _ | ⟨x,l⟩
  · rfl
  · have a:0<c.f2.length:=by rw [hc];simp
    rw [← hc,if_neg (by simp only [beq_iff_eq];omega),lt_,w64 (by omega) (by omega)];have hi:c.f2.length - 1<c.f2.length:=by omega
    have hx:c.f2[c.f2.length - 1]?=some c.f2[c.f2.length - 1]:=List.getElem?_eq_getElem hi;rw [show (c.f2.length:Int) - 1=((c.f2.length - 1:Nat):Int) by omega,bB rfl hx,List.getLast?_eq_getElem?,hx];rfl
theorem aOl (c:S79) (h:c.f2.length<=1000000):cO c=some (c.f2,c):=by
  unfold cO bK;rw [bJ (by simp only [List.length_nil];omega)];unfold tE;cases hc:c.f2 with
  | nil=>simp
  | cons x l=>rfl
end Go.Proofs.YtdkpjpoajlmmfaaGreatDoor.P
