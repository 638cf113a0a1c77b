/- Texts of the claim, joined: what it uses of LCatalogFalls, DlCatalogScans, DlCatalogTwins, DlCatalogPlays, DlCatalogSpoilt, Qa, Qb, Qc, Qd, Qe, Qf, Qg, Qh, Qi, Qj, Qk, Qm, Qn, Qo, Qp, Qq, Pa, Pb, Pc, Pd, Pf, Pg, Ph, Pi, Pj, Pk, Pl, Pm, Po, Rb, Rc. -/
import Derived.Test.YtdkpjpoajlmmfaaGreatDoorZk
import Derived.Test.YtdkpjpoajlmmfaaGreatDoorCards
import Derived.Test.YtdkpjpoajlmmfaaGreatDoorTie
import Derived.SevenTiedAt
import Derived.LaidMore
import Derived.OpenShut
import Derived.Stop.Joined
import Derived.ProofKit
import Derived.IntWalk
import Derived.Sort.Walk0
namespace Go.Proofs.YtdkpjpoajlmmfaaGreatDoor.catalogFalls
open Go Go.RowKit Go.ChangeShapes Go.WideShapes Go.ChangeAt Go.Proofs.YtdkpjpoajlmmfaaGreatDoor.E Go.Proofs.YtdkpjpoajlmmfaaGreatDoor.M
set_option linter.unusedVariables false
theorem own:ownKnob Tryz.prog.godebug=none:=by kernel_rfl
theorem aMs:laidOutB Tryz.prog=true:=by kernel_rfl
theorem gN0 : Tryz.prog.globalNamed "headrace/page.table" = some 0 := by kernel_rfl
theorem gT0:(Tryz.prog.globals[0]?).map (·.type)=some 174:=by kernel_rfl
theorem gN2 : Tryz.prog.globalNamed "internal/strconv.uint64pow10" = some 2 := by kernel_rfl
theorem gT2:(Tryz.prog.globals[2]?).map (·.type)=some 200:=by kernel_rfl
theorem aUp (os:Os) (args:Array Value):laidMetH Tryz.prog Rows.catalogFallsRow.laid ((World.doorLaid Tryz.prog 400 os).forCall (λ_ _=>0) ⟨#[],args,[]⟩).memory :=
  laidMetH_of_parts3 (fuel:=8) (laidMet_of_run' 8 (by kernel_rfl) (by kernel_rfl)) (by kernel_rfl) (by kernel_rfl)
theorem aVj {W:World} (h:laidMetH Tryz.prog Rows.catalogFallsRow.laid W):Imm (aFr W) W (kI .u32) (some ⟨0,0,none⟩) 16 16 M.bP:=by
  rw [MakeChecks.laidMetH_plain _ _ _ (by kernel_rfl)] at h;replace h := h.filter (fun x => x.1 == "headrace/page.table")
  exact aYc gN0 gT0 Tryz.underlying174 Tryz.underlying67 bFz rfl (by decide) h
theorem aVk {W:World} (h:laidMetH Tryz.prog Rows.catalogFallsRow.laid W):Gb (aFr W) W 2 .u64 M.bK:=by
  rw [MakeChecks.laidMetH_plain _ _ _ (by kernel_rfl)] at h;replace h := h.filter (fun x => x.1 == "internal/strconv.uint64pow10")
  exact bBv gN2 gT2 Tryz.underlying200 Tryz.underlying24 bCl (by kernel_rfl) h
def bAk:Prop:=∀ (a0:(List M.S61)) (a:(List M.S52)) (a2:Int),(gL 48 M.g61) a0->(gL 32 M.g52) a->(gI .u16) a2->M.mQ a0 a a2=some true
set_option maxRecDepth 100000 in
theorem bBe (E:bAk) (os:Os) (started:os.Started) (H:Type) (enc:TypeId×Value->H) :
    ReturnsInHanded {} Tryz.checked os 7 .any (λw args=>(Rows.catalogFallsSpec.pre enc Tryz.prog Tryz.f7 [] false w args/\laidMetH Tryz.prog Rows.catalogFallsRow.laid w)/\sizedMet enc Tryz.prog Tryz.f7 (OpenSpec.ofChange Rows.catalogFallsSpec) false w args)
      (Rows.catalogFallsSpec.post enc Tryz.prog Tryz.f7 false true false false):=by
  refine returnsInHanded_of_change_and (C:=Tryz.checked) (X:=λw _=>laidMetH Tryz.prog Rows.catalogFallsRow.laid w) (λ_ _ _ F h=>h.of_heap F) own started (by kernel_rfl) Tryz.func7
    (ChangeSpec.witness_shaped (enc:=enc) (C:=Tryz.checked) (os:=os) (X:=λw _=>laidMetH Tryz.prog Rows.catalogFallsRow.laid w) false (World.doorLaid Tryz.prog 400 os) #[.slice none 0 0,.slice none 0 0,.int .u16 0] 8 rfl (World.shaped_of_RefB (by kernel_rfl) (by kernel_rfl)) (by kernel_rfl) (by kernel_rfl) (by kernel_rfl) (aUp os _)) ?_
  intro W base args ds gs before d f b3 g hL _;have a:(DataW.weightsEach Tryz.prog (Tryz.f7.params.toList++Rows.catalogFallsSpec.plain.varTypes Tryz.prog) (ds++gs)).all (· <= reachBytes)=true:=g
  have b:∀ (j:Nat) t v,Tryz.f7.params[j]?=some t->args[j]?=some v->Value.okWide Tryz.prog W .any base t v:=d;have G:=f;obtain⟨p,q,i,I,rfl,b4,b5⟩:=f;have hA:DataW.TrodAll enc Tryz.prog W 0 (λ_=>true) true Tryz.f7.params.toList args.toList ds p:=i;rw [Tryz.params7] at hA b a;obtain⟨v0,b6,d0,b8,J,q0,c2,rfl,rfl,h0,K⟩:=trodAll_cons hA;obtain⟨k,c3,d1,c5,p1,q1,rfl,rfl,rfl,l,N⟩:=trodAll_cons K;obtain⟨n,c7,d2,c9,p2,q2,rfl,rfl,rfl,o,O⟩:=trodAll_cons N;obtain⟨rfl,rfl,rfl⟩:=trodAll_nil O;obtain rfl:args=#[v0,k,n]:=by cases args;simp_all
  obtain⟨rfl,rfl⟩:=trodVars_none I;have r:=h0;have P:∀ x∈J,x.block<W.heap.size:=by obtain⟨m,hm⟩:=r;exact DataW.trod_lt m _ _ _ hm
  obtain⟨s,Q,R⟩:=Opens.arg (bBg Tryz.underlying22 bCn (Nat.succ_pos _) bFw op61) h0 (Wt.of a (j:=0) rfl rfl);obtain⟨u,y,z,rfl⟩:=okWide_slice Tryz.underlying22 (b 0 22 v0 rfl rfl);obtain⟨S,T,U,Y,i0⟩:=Q;cases (show [Value.slice u y z]=[Value.slice S T U] from Y);have A:=l;have a0:∀ x∈p1,x.block<W.heap.size:=by obtain⟨m,hm⟩:=A;exact DataW.trod_lt m _ _ _ hm
  obtain⟨B,a1,g1⟩:=Opens.arg (bBg Tryz.underlying49 bCm (Nat.succ_pos _) bFv op52) l (Wt.of a (j:=1) rfl rfl);obtain⟨A1,n1,c1,rfl⟩:=okWide_slice Tryz.underlying49 (b 1 49 k rfl rfl);obtain⟨a3,a4,a5,a6,i1⟩:=a1;cases (show [Value.slice A1 n1 c1]=[Value.slice a3 a4 a5] from a6);have D:=o;have a8:∀ x∈p2,x.block<W.heap.size:=by obtain⟨m,hm⟩:=D;exact DataW.trod_lt m _ _ _ hm
  obtain⟨c,a9,g2⟩:=Opens.arg (opI Tryz.underlying71) o (Wt.of a (j:=2) rfl rfl);obtain⟨u2,rfl⟩:=okWide_int Tryz.underlying71 (b 2 71 n rfl rfl);cases (show [Value.int .u16 u2]=[Value.int .u16 c] from a9);clear i d g a;refine Calls.mono (M.aCz (Z:=aFr W) (wz:=W) s B c u y z A1 n1 c1 (E s B c R g1 g2) i0 i1 (aVj hL) (aVk hL) (L:=[]) (SH.start W)) ?_;rintro e W' ⟨v,rfl,Z',wz',rfl,hs,hS⟩;have bel:=SH.below hS hs;exact⟨_,rfl,_,_,_,[],_,[],G,trodAll_mk1 (shut_bool Tryz.underlying4 _),(trodAll_cons_mk (Below.trod aMs (by kernel_rfl) (of_decide_eq_true (by kernel_rfl)) r bel P) (trodAll_cons_mk (Below.trod aMs (by kernel_rfl) (of_decide_eq_true (by kernel_rfl)) A bel a0) (trodAll_cons_mk (Below.trod aMs (by kernel_rfl) (of_decide_eq_true (by kernel_rfl)) D bel a8) trodAll_mk0))),rfl,bel.frame _,λh=>by cases h⟩
theorem bG8 (a:bAk):Rows.catalogFallsRow.holds Tryz.pinned (OpenSpec.ofChange Rows.catalogFallsSpec) :=
  OpenClaim.holds_of_wide 7 Tryz.f7 rfl rfl rfl rfl rfl rfl rfl ⟨rfl,rfl,rfl,rfl,rfl⟩ rfl rfl rfl rfl rfl (by kernel_rfl) Tryz.func7 (by kernel_rfl)
    (of_decide_eq_true (by kernel_rfl)) (by unfold Func.isWrapper;first | (rw [if_pos (by decide +kernel)];kernel_rfl) | (rw [if_neg (by decide +kernel)];exact⟨rfl,rfl⟩))
    (λos started H enc _=>bBe a os started H enc)
def hrn:Bool×String:=Rows.catalogFallsCard.stood.harness
theorem card (a:bAk):Rows.CatalogFallsCardSaid :=
  Claim7.holds_tied_plain_at .later [] [.data,.data,.data,.data] true hrn true
    (bG8 a) (λ_ h=>by cases h) (by kernel_rfl) (λ_ h=>by cases h) catalogFalls_row_tie rfl ⟨rfl,rfl⟩ (by kernel_rfl) rfl
    (λf fn hf b=>by
      obtain rfl : f = 7 := Option.some.inj ((show Tryz.prog.funcNamed "headrace/headracelaw08.CatalogFalls" = some 7 by kernel_rfl).symm.trans hf) |>.symm
      obtain rfl:fn=Tryz.f7:=(Option.some.inj (Tryz.func7.symm.trans b)).symm;exact⟨by kernel_rfl,λj t ht=>by
        rw [Tryz.params7] at ht;have hm:t∈[22,49,71]:=by simpa using Array.mem_of_getElem? ht
        have c:([22,49,71].all λu => !Tryz.prog.wantsStandIn u)=true:=by kernel_rfl
        exact (show Tryz.prog.wantsStandIn t=false by simpa using List.all_eq_true.1 c t hm)⟩)
    (by kernel_rfl)
end Go.Proofs.YtdkpjpoajlmmfaaGreatDoor.catalogFalls
namespace Go.Proofs.YtdkpjpoajlmmfaaGreatDoor.P
open Go Go.RowKit Go.Proofs.YtdkpjpoajlmmfaaGreatDoor.E Go.Proofs.YtdkpjpoajlmmfaaGreatDoor.M
set_option linter.unusedVariables false
set_option linter.unusedSectionVars false
theorem aPt {α:Type} (xs:List α) (n:Nat):at_ xs (n:Int)=xs[n]?:=by simp [at_]
theorem bA {α:Type} {xs:List α} {i:Int} {n:Nat} {x:α} (hi:i=n) (h:xs[n]?=some x):at_ xs i=some x:=by subst hi;rw [aPt,h]
theorem nY {α:Type} {xs:List α} {l u:Nat} (h:l<=u) (hu:u<=xs.length):kN xs (l:Int) (u:Int)=some ((xs.take u).drop l):=by unfold kN;rw [if_pos (by omega)];simp
theorem bH {α:Type} {p:Prop} [Decidable p] {x:Option α} (h:p):chk p x=x:=if_pos h
theorem w64 {n:Int} (h : -9223372036854775808<=n) (a:n<=9223372036854775807):IntKind.i64.wrap n=n:=IntWalk.i64_in n ⟨h,a⟩
theorem nD {n:Int} (h:0<=n) (a:n<18446744073709551616):IntKind.u64.wrap n=n:=IntWalk.u64_in n ⟨h,by omega⟩
theorem u8w {n:Int} (h:0<=n) (a:n<256):IntKind.u8.wrap n=n:=IntWalk.u8_in n ⟨h,by omega⟩
theorem lt_ {α β:Type} (e:α) (f:α->Option β):ltt e f=f e:=rfl
theorem aRy {σ τ:Type} {b:σ->Option (σ⊕τ)} (f:Nat->σ) {t:τ}:∀ (n:Nat) (i:Nat),(∀ k,i<=k->k<i+n->b (f k)=some (.inl (f (k+1))))->b (f (i+n))=some (.inr t)->loop b (f i)=some t
 | 0,i,_,he=>bE he
 | n+1,i,hs,he=>(bZ (hs i (Nat.le_refl _) (by omega))).trans (aRy f n (i+1) (λk a c=>hs k (by omega) (by omega)) (by rw [show i+1+n=i+(n+1) by omega];exact he))
theorem jJ {σ τ:Type} {b:σ->Option (σ⊕τ)} (f:Nat->σ) {t:τ} (n:Nat) (hs:∀ k,k<n->b (f k)=some (.inl (f (k+1)))) (he:b (f n)=some (.inr t)):loop b (f 0)=some t :=
 aRy f n 0 (λk _ h=>hs k (by omega)) (by simpa using he)
theorem fP (n a:Nat):BitVec.ofInt n (a:Int)=BitVec.ofNat n a:=BitVec.ofInt_natCast n a
theorem aGn (a:Nat):IntKind.u64.wrap (a:Int)=((a % 18446744073709551616:Nat):Int):=by rw [IntKind.wrap_u64];omega
theorem yM (a:Nat):IntKind.u8.wrap (a:Int)=((a % 256:Nat):Int):=by rw [IntKind.wrap_u8];omega
theorem aJb {a b:Nat} (c:a<18446744073709551616) (hb:b<18446744073709551616):aB7 .u64 (a:Int) (b:Int)=((a &&& b:Nat):Int):=by unfold aB7;rw [fP,fP,aGn];have h:a &&& b<18446744073709551616:=Nat.lt_of_le_of_lt Nat.and_le_left c;simp only [BitVec.toNat_and,BitVec.toNat_ofNat,show IntKind.u64.bits=64 from rfl];rw [Nat.mod_eq_of_lt (show a<2 ^ 64 by omega),Nat.mod_eq_of_lt (show b<2 ^ 64 by omega),Nat.mod_eq_of_lt h]
theorem aXp {a b:Nat} (c:a<256) (hb:b<256):aB7 .u8 (a:Int) (b:Int)=((a &&& b:Nat):Int):=by unfold aB7;rw [fP,fP,yM];have h:a &&& b<256:=Nat.lt_of_le_of_lt Nat.and_le_left c;simp only [BitVec.toNat_and,BitVec.toNat_ofNat,show IntKind.u8.bits=8 from rfl];rw [Nat.mod_eq_of_lt (show a<2 ^ 8 by omega),Nat.mod_eq_of_lt (show b<2 ^ 8 by omega),Nat.mod_eq_of_lt h]
theorem aXs {a b:Nat} (c:a<18446744073709551616) (hb:b<18446744073709551616):ior .u64 (a:Int) (b:Int)=((a ||| b:Nat):Int):=by unfold ior;rw [fP,fP,aGn];have h:a ||| b<2 ^ 64:=Nat.or_lt_two_pow (show a<2 ^ 64 by omega) (show b<2 ^ 64 by omega);simp only [BitVec.toNat_or,BitVec.toNat_ofNat,show IntKind.u64.bits=64 from rfl];rw [Nat.mod_eq_of_lt (show a<2 ^ 64 by omega),Nat.mod_eq_of_lt (show b<2 ^ 64 by omega),Nat.mod_eq_of_lt (show a ||| b<18446744073709551616 from h)]
theorem aVa {a b:Nat} (c:a<256) (hb:b<256):ior .u8 (a:Int) (b:Int)=((a ||| b:Nat):Int):=by unfold ior;rw [fP,fP,yM];have h:a ||| b<2 ^ 8:=Nat.or_lt_two_pow (show a<2 ^ 8 by omega) (show b<2 ^ 8 by omega);simp only [BitVec.toNat_or,BitVec.toNat_ofNat,show IntKind.u8.bits=8 from rfl];rw [Nat.mod_eq_of_lt (show a<2 ^ 8 by omega),Nat.mod_eq_of_lt (show b<2 ^ 8 by omega),Nat.mod_eq_of_lt (show a ||| b<256 from h)]
theorem aVd {a b:Nat} (c:a<18446744073709551616) (hb:b<18446744073709551616):aBi .u64 (a:Int) (b:Int)=((a ^^^ b:Nat):Int):=by unfold aBi;rw [fP,fP,aGn];have h:a ^^^ b<2 ^ 64:=Nat.xor_lt_two_pow (show a<2 ^ 64 by omega) (show b<2 ^ 64 by omega);simp only [BitVec.toNat_xor,BitVec.toNat_ofNat,show IntKind.u64.bits=64 from rfl];rw [Nat.mod_eq_of_lt (show a<2 ^ 64 by omega),Nat.mod_eq_of_lt (show b<2 ^ 64 by omega),Nat.mod_eq_of_lt (show a ^^^ b<18446744073709551616 from h)]
theorem aGm (n:Nat):(2:Int) ^ n=((2 ^ n:Nat):Int):=(Int.natCast_pow 2 n).symm
theorem lD {k:IntKind} (a n:Nat) (h:n<=k.bits):oG k (a:Int) (n:Int)=((a / 2 ^ n:Nat):Int):=by unfold oG;rw [Int.toNat_natCast,Nat.min_eq_left h,aGm,Int.fdiv_eq_ediv_of_nonneg _ (Int.natCast_nonneg _)];rfl
theorem aOs (a n:Nat) (h:n<=64):xT .u64 (a:Int) (n:Int)=((a * 2 ^ n % 18446744073709551616:Nat):Int):=by unfold xT;rw [Int.toNat_natCast,show min n IntKind.u64.bits=n from Nat.min_eq_left h,aGm, ← Int.natCast_mul,aGn]
theorem aXt (a n:Nat) (h:n<=8):xT .u8 (a:Int) (n:Int)=((a * 2 ^ n % 256:Nat):Int):=by unfold xT;rw [Int.toNat_natCast,show min n IntKind.u8.bits=n from Nat.min_eq_left h,aGm, ← Int.natCast_mul,yM]
theorem aCb {a n:Nat} (h:a<2 ^ n) (b:Nat):a ||| (b * 2 ^ n)=a+b * 2 ^ n:=by rw [Nat.or_comm,Nat.mul_comm, ← Nat.two_pow_add_eq_or_of_lt h,Nat.add_comm]
def uv (n:Nat):List Int:=if h:n<128 then [(n:Int)] else ((n % 128+128:Nat):Int)::uv (n / 128)
termination_by n
decreasing_by omega
theorem aDr {n:Nat} (h:n<128):uv n=[(n:Int)]:=by rw [uv,dif_pos h]
theorem aDq {n:Nat} (h:¬ n<128):uv n=((n % 128+128:Nat):Int)::uv (n / 128):=by rw [uv,dif_neg h]
theorem aLv:∀ (k n:Nat),n<128 ^ (k+1)->(uv n).length<=k+1
 | 0,n,h=>by rw [aDr (by simpa using h)];simp
 | k+1,n,h=>by
  by_cases hn:n<128
  ·rw [aDr hn];simp
  ·rw [aDq hn,List.length_cons];have:=aLv k (n / 128) (by rw [Nat.pow_succ] at h;exact Nat.div_lt_of_lt_mul (by rw [Nat.mul_comm];exact h));omega
theorem aP {n:Nat} (h:n<18446744073709551616):(uv n).length<=10:=aLv 9 n (by omega)
set_option maxRecDepth 100000 in
theorem bBh:∀ m:Fin 256,(m.val ||| 128)=m.val % 128+128:=by decide
theorem tV (n:Nat):∀ (a0:List Int),n<18446744073709551616->a0.length+(uv n).length<=140737488355328->gM a0 (n:Int)=some (a0++uv n):=by
 induction n using Nat.strongRecOn with
 | _ n ih =>
  intro a0 h hl;unfold gM;by_cases hn:n<128
  ·rw [bE (t:=(a0,(n:Int))) (by
    show mN a0 (n:Int)=_;unfold mN;rw [if_neg (by simp only [decide_eq_true_eq];omega)])]
   simp only [bHp];unfold sR vT;rw [aDr hn] at hl ⊢;rw [lt_,u8w (by omega) (by omega),bH (by simpa using hl)]
  ·have c:=hl;rw [aDq hn,List.length_cons] at c;have d:IntKind.u8.wrap (n:Int)=((n % 256:Nat):Int):=yM n;have e:ior .u8 ((n % 256:Nat):Int) 128=((n % 128+128:Nat):Int):=by have:=aVa (a:=n % 256) (b:=128) (by omega) (by omega);rw [show ((128:Nat):Int)=128 from rfl] at this;rw [this,bBh ⟨n % 256,by omega⟩];simp only;omega
   have f:oG .u64 (n:Int) 7=((n / 128:Nat):Int):=lD (k:=.u64) n 7 (by decide);rw [bZ (s':=(a0++[((n % 128+128:Nat):Int)],((n / 128:Nat):Int))) (by
    show mN a0 (n:Int)=_;unfold mN;rw [if_pos (by simp only [decide_eq_true_eq];omega),lt_,d,lt_,e,bH (by simp;omega),lt_,f])]
   have:=ih (n / 128) (by omega) (a0++[((n % 128+128:Nat):Int)]) (by omega) (by simp;omega);unfold gM at this;rw [this,aDq hn];simp
def zz (i:Int):Nat:=if i<0 then (-(i+1)).toNat * 2+1 else i.toNat * 2
def uz (n:Nat):Int:=if n % 2=1 then -((n / 2:Nat):Int) - 1 else ((n / 2:Nat):Int)
theorem bEz (i:Int):uz (zz i)=i:=by unfold uz zz;split <;> split <;> omega
def i64 (i:Int):Prop:= -9223372036854775808<=i/\i<=9223372036854775807
theorem yD {i:Int} (h:i64 i):zz i<18446744073709551616:=by unfold i64 at h;unfold zz;split <;> omega
theorem aC6 (x:Int):i64 (IntKind.i64.wrap x):=by rw [IntWalk.i64_left];unfold wrap64 i64;omega
theorem aWs {a:Nat} (h:a<18446744073709551616):aBi .u64 (a:Int) 18446744073709551615=((18446744073709551615 - a:Nat):Int):=by show IntKind.u64.wrap (((BitVec.ofInt 64 (a:Int) ^^^ BitVec.allOnes 64).toNat:Nat):Int)=_;rw [fP,BitVec.xor_allOnes,aGn,BitVec.toNat_not,BitVec.toNat_ofNat,Nat.mod_eq_of_lt (show a<2 ^ 64 by omega)];omega
theorem bFs {i:Int} (h:i64 i):aBi .u64 (IntKind.u64.wrap (xT .i64 i 1)) (IntKind.u64.wrap (oG .i64 i 63))=(zz i:Int):=by
 unfold i64 at h;have a:xT .i64 i 1=IntKind.i64.wrap (i * 2):=rfl;have b:oG .i64 i 63=if i<0 then -1 else 0:=by unfold oG;rw [show (63:Int).toNat=63 from rfl,show min 63 IntKind.i64.bits=63 from rfl,Int.fdiv_eq_ediv_of_nonneg _ (by decide)];split <;> omega
 rw [a,b];have c:IntKind.u64.wrap (IntKind.i64.wrap (i * 2))=(i * 2) % 18446744073709551616:=by rw [IntKind.wrap_u64,IntWalk.i64_left];unfold wrap64;omega
 rw [c];unfold zz;by_cases hi:i<0
 ·rw [if_pos hi,if_pos hi,show IntKind.u64.wrap (-1)=18446744073709551615 from rfl];obtain⟨m,hm⟩:∃ m:Nat,(i * 2) % 18446744073709551616=(m:Int):=⟨((i * 2) % 18446744073709551616).toNat,by omega⟩;rw [hm,aWs (by omega)];omega
 ·rw [if_neg hi,if_neg hi,show IntKind.u64.wrap 0=((0:Nat):Int) from rfl];obtain⟨m,hm⟩:∃ m:Nat,(i * 2) % 18446744073709551616=(m:Int):=⟨((i * 2) % 18446744073709551616).toNat,by omega⟩;rw [hm,aVd (by omega) (by omega),Nat.xor_zero];omega
theorem aAq {i:Int} (h:i64 i) (a0:List Int) (hl:a0.length+10<=140737488355328):lQ a0 i=some (a0++uv (zz i)):=by unfold lQ;have:=aP (yD h);simp only [lt_,bFs h,tV _ a0 (yD h) (by omega),bHp]
theorem aFt (s:List UInt8) (a0:List Int) (hs:s.length<=9223372036854775807) (hl:a0.length+s.length+10<=140737488355328):nW a0 s=some (a0++uv s.length++stb s):=by unfold nW;have:=aP (n:=s.length) (by omega);rw [lt_,nD (by omega) (by omega),tV _ a0 (by omega) (by omega)];simp only [bHp];rw [bH (by simp;omega)]
def Bs (xs:List Int):Prop:=∀ b∈xs,0<=b/\b<256
theorem Bs.nil:Bs []:=λ_ h=>by cases h
theorem Bs.cons {b:Int} {xs:List Int} (h:Bs (b::xs)):(0<=b/\b<256)/\Bs xs:=⟨h b List.mem_cons_self,λc hc=>h c (List.mem_cons_of_mem _ hc)⟩
theorem Bs.mk {b:Int} {xs:List Int} (hb:0<=b/\b<256) (h:Bs xs):Bs (b::xs):=λc hc=>by
 rcases List.mem_cons.1 hc with rfl | hc
 ·exact hb
 ·exact h c hc
theorem Bs.app {xs ys:List Int} (h:Bs xs) (a:Bs ys):Bs (xs++ys):=λc hc=>(List.mem_append.1 hc).elim (h c) (a c)
theorem Bs.l {xs ys:List Int} (h:Bs (xs++ys)):Bs xs:=λc hc=>h c (List.mem_append.2 (.inl hc))
theorem Bs.r {xs ys:List Int} (h:Bs (xs++ys)):Bs ys:=λc hc=>h c (List.mem_append.2 (.inr hc))
theorem Bs.drop {xs:List Int} (h:Bs xs) (n:Nat):Bs (xs.drop n):=λc hc=>h c (List.mem_of_mem_drop hc)
theorem Bs.take {xs:List Int} (h:Bs xs) (n:Nat):Bs (xs.take n):=λc hc=>h c (List.mem_of_mem_take hc)
theorem Bs.uv (n:Nat):Bs (uv n):=by
 induction n using Nat.strongRecOn with
 | _ n ih =>
  by_cases hn:n<128
  ·rw [aDr hn];exact Bs.mk (by omega) Bs.nil
  ·rw [aDq hn];exact Bs.mk (by omega) (ih _ (by omega))
theorem Bs.stb (s:List UInt8):Bs (stb s):=by intro c hc;unfold E.stb at hc;obtain⟨b,_,rfl⟩:=List.mem_map.1 hc;have:=b.toNat_lt;omega
def pB:List Int->Option (Int×List Int)
 | []=>none
 | b::r=>some (b,r)
def pV (i n:Nat):List Int->Option (Nat×List Int)
 | []=>none
 | b::r=>if i<9\/(i=9/\b<2) then
   (if b<128 then (if i=0\/0<b then some (n+b.toNat % 128 * 2 ^ (7 * i),r) else none) else pV (i+1) (n+b.toNat % 128 * 2 ^ (7 * i)) r)
  else none
def pU (most:Int) (xs:List Int):Option (Int×List Int):=match pV 0 0 xs with
 | some (n,r)=>if (n:Int)<=most then some ((n:Int),r) else none
 | none=>none
def pI (xs:List Int):Option (Int×List Int):=match pU 18446744073709551615 xs with
 | some (n,r)=>some (uz n.toNat,r)
 | none=>none
def pT (most:Int) (xs:List Int):Option (List UInt8×List Int):=match pU (IntKind.u64.wrap most) xs with
 | some (n,r)=>if n<=(r.length:Int) then some (bts (r.take n.toNat),r.drop n.toNat) else none
 | none=>none
def IsR {ρ:Type} (o:Option ((ρ×S140)⊕S140)) (p:Option (ρ×List Int)):Prop:=match p with
 | some (a,r)=>o=some (.inl (a,⟨r⟩))
 | none=>∃ s,o=some (.inr s)
theorem IsR.cases {ρ:Type} {o:Option ((ρ×S140)⊕S140)} {p:Option (ρ×List Int)} (h:IsR o p):(∃ a r,p=some (a,r)/\o=some (.inl (a,⟨r⟩)))\/(p=none/\∃ s,o=some (.inr s)):=by
 unfold IsR at h;split at h
 ·exact .inl ⟨_,_,rfl,h⟩
 ·exact .inr ⟨rfl,h⟩
theorem iC {α β γ:Type} (a:α) (f:α->Option γ) (g:β->Option γ):fV (.inl a) f g=f a:=rfl
theorem mV (s:S140):aJ s true=some (.inl s):=rfl
theorem sM (s:S140):aJ s false=some (.inr s):=rfl
theorem aLy (xs:List Int):IsR (gK ⟨xs⟩) (pB xs):=by
 unfold gK;cases xs with
 | nil=>exact⟨_,rfl⟩
 | cons b r =>
  rw [show decide (0<(((⟨b::r⟩:S140).f0.length:Nat):Int))=true by simp,mV];simp only [bHp,iC];have a:at_ (b::r) 0=some b:=rfl;have c:kN (b::r) 1 ((b::r).length:Int)=some r:=by have:=nY (xs:=b::r) (l:=1) (u:=(b::r).length) (by simp) (Nat.le_refl _);rw [show ((1:Nat):Int)=1 from rfl,List.take_length] at this;exact this
  rw [a];simp only [bHp];rw [c];rfl
theorem aWy (a:Nat):a &&& 127=a % 128:=Nat.and_two_pow_sub_one_eq_mod a 7
theorem aZu:∀ (xs:List Int) (i n m:Nat) (r:List Int),n<2 ^ (7 * i)->n<18446744073709551616->pV i n xs=some (m,r)->m<18446744073709551616/\∃ p,xs=p++r/\0<p.length
 | [],i,n,m,r,_,_,h=>by cases h
 | b::xs,i,n,m,r,h1,h2,h=>by
  unfold pV at h;split at h
  ·rename_i hc;have a:n+b.toNat % 128 * 2 ^ (7 * i)<18446744073709551616/\n+b.toNat % 128 * 2 ^ (7 * i)<2 ^ (7 * (i+1)):=by
    have hp:2 ^ (7 * (i+1))=128 * 2 ^ (7 * i):=by rw [show 7 * (i+1)=7+7 * i by omega,Nat.pow_add]
    have hm:b.toNat % 128 * 2 ^ (7 * i)<=127 * 2 ^ (7 * i):=Nat.mul_le_mul_right _ (by omega);refine⟨?_,by rw [hp];omega⟩;rcases hc with hc | ⟨hc,hb⟩
    ·have:2 ^ (7 * i)<=2 ^ 56:=Nat.pow_le_pow_right (by decide) (by omega);omega
    ·subst hc;have:b.toNat % 128 * 2 ^ (7 * 9)<=1 * 2 ^ (7 * 9):=Nat.mul_le_mul_right _ (by omega);omega
   split at h
   ·split at h
    ·cases h;exact⟨a.1,[b],rfl,by simp⟩
    ·cases h
   ·obtain⟨c,p,rfl,d⟩:=aZu xs (i+1) _ m r a.2 a.1 h;exact⟨c,b::p,rfl,by simp⟩
  ·cases h
theorem aY5 (most:Int):∀ (xs:List Int) (i n:Nat),Bs xs->i<=10->n<2 ^ (7 * i)->n<18446744073709551616 ->
  IsR (loop (λs:List Int×Int×Int=>eG most s.1 s.2.1 s.2.2) (xs,(n:Int),(i:Int))) (match pV i n xs with | some (m,r)=>if (m:Int)<=most then some ((m:Int),r) else none | none=>none)
 | [],i,n,hB,hi,h1,h2=>⟨⟨[]⟩,bE rfl⟩
 | b::xs,i,n,hB,hi,h1,h2=>by
  obtain⟨hb,u⟩:=hB.cons;generalize d:pV i n (b::xs)=pv;have p:gK ⟨b::xs⟩=some (.inl (b,⟨xs⟩)):=aLy (b::xs);obtain⟨c,rfl⟩:∃ c:Nat,b=(c:Int):=⟨b.toNat,by omega⟩;have v:(c:Int)<128\/128<=(c:Int):=by omega
  by_cases hc:i<9\/(i=9/\(c:Int)<2)
  ·
   have hp:2 ^ (7 * (i+1))=128 * 2 ^ (7 * i):=by rw [show 7 * (i+1)=7+7 * i by omega,Nat.pow_add]
   have hm:c % 128 * 2 ^ (7 * i)<=127 * 2 ^ (7 * i):=Nat.mul_le_mul_right _ (by omega);have l:c % 128 * 2 ^ (7 * i)<18446744073709551616/\n+c % 128 * 2 ^ (7 * i)<18446744073709551616:=by
    rcases hc with hc | ⟨hc,hb⟩
    ·have:2 ^ (7 * i)<=2 ^ 56:=Nat.pow_le_pow_right (by decide) (by omega);omega
    ·subst hc;have:c % 128 * 2 ^ (7 * 9)<=1 * 2 ^ (7 * 9):=Nat.mul_le_mul_right _ (by omega);omega
   have w:n+c % 128 * 2 ^ (7 * i)<2 ^ (7 * (i+1)):=by rw [hp];omega
   obtain⟨m,h⟩:∃ m,m=n+c % 128 * 2 ^ (7 * i):=⟨_,rfl⟩;have x:aB7 .u8 (c:Int) 127=((c % 128:Nat):Int):=by have:=aXp (a:=c) (b:=127) (by omega) (by omega);rw [show ((127:Nat):Int)=127 from rfl] at this;rw [this,aWy]
   have y:IntKind.i64.wrap (7 * (i:Int))=((7 * i:Nat):Int):=by rw [w64 (by omega) (by omega)];omega
   have z:xT .u64 ((c % 128:Nat):Int) ((7 * i:Nat):Int)=((c % 128 * 2 ^ (7 * i):Nat):Int):=by rw [aOs _ _ (by omega),Nat.mod_eq_of_lt l.1]
   have A:ior .u64 (n:Int) ((c % 128 * 2 ^ (7 * i):Nat):Int)=(m:Int):=by rw [aXs h2 l.1,aCb h1,h]
   have j:eG most ((c:Int)::xs) (n:Int) (i:Int)=eF most (n:Int) (i:Int) ((c:Int),⟨xs⟩) xs:=by
    unfold eG;rw [p];simp only [bHp,iC];rcases hc with hc | ⟨hc,B⟩
    ·rw [if_pos (by simp only [decide_eq_true_eq];omega),mV];rfl
    ·rw [if_neg (by simp only [decide_eq_true_eq];omega),if_pos (by subst hc;rfl),show decide ((c:Int)<2)=true by simpa using B,mV];rfl
   have f:eF most (n:Int) (i:Int) ((c:Int),⟨xs⟩) xs=if (c:Int)<128 then (if (m:Int)<=most/\(i=0\/0<(c:Int)) then some (.inr (.inl ((m:Int),⟨xs⟩))) else some (.inr (.inr ⟨xs⟩))) else some (.inl (xs,(m:Int),((i+1:Nat):Int))):=by
    unfold eF;simp only [lt_];rw [x,nD (by omega) (by omega),y,bH (by omega),z,A];by_cases g:(c:Int)<128
    ·rw [if_pos (by simpa using g),if_pos g];by_cases e:(m:Int)<=most
     ·rw [if_pos (by simpa using e)];by_cases o:i=0
      ·subst o;rw [if_pos (by rfl),mV,if_pos ⟨e,.inl rfl⟩];rfl
      ·rw [if_neg (by simpa using o)];by_cases k:0<(c:Int)
       ·rw [show decide (0<(c:Int))=true by simpa using k,mV,if_pos ⟨e,.inr k⟩];rfl
       ·rw [show decide (0<(c:Int))=false by simpa using k,sM,if_neg (by rintro⟨_,q | q⟩;exact o q;exact k q)];rfl
     ·rw [if_neg (by simpa using e),sM,if_neg (λq=>e q.1)];rfl
    ·rw [if_neg (by simpa using g),if_neg g,w64 (by omega) (by omega)];rfl
   rw [pV,if_pos hc,Int.toNat_natCast, ← h] at d;rcases v with g | g
   ·rw [if_pos g] at f d;by_cases h0:i=0\/0<(c:Int)
    ·rw [if_pos h0] at d;subst d;simp only;by_cases e:(m:Int)<=most
     ·rw [if_pos ⟨e,h0⟩] at f;rw [if_pos e];exact bE (j.trans f)
     ·rw [if_neg (λq=>e q.1)] at f;rw [if_neg e];exact⟨_,bE (j.trans f)⟩
    ·rw [if_neg h0] at d;subst d;rw [if_neg (λq=>h0 q.2)] at f;exact⟨_,bE (j.trans f)⟩
   ·rw [if_neg (Int.not_lt.2 g)] at f d;rw [bZ (j.trans f)];subst d;exact aY5 most xs (i+1) m u (by omega) (by rw [h];exact w) (by rw [h];exact l.2)
  ·rw [pV,if_neg hc] at d;subst d;refine⟨_,bE (t:=Sum.inr ⟨xs⟩) ?_⟩;show eG most ((c:Int)::xs) (n:Int) (i:Int)=_;unfold eG;rw [p];simp only [bHp,iC];rw [if_neg (by simp only [decide_eq_true_eq];omega)];by_cases C:i=9
   ·rw [if_pos (by subst C;rfl),show decide ((c:Int)<2)=false by simp;omega,sM];rfl
   ·rw [if_neg (by simp;omega),sM];rfl
theorem aDv (most:Int) {xs:List Int} (hB:Bs xs):IsR (bF ⟨xs⟩ most) (pU most xs):=by
 unfold bF pU;have:=aY5 most xs 0 0 hB (by omega) (by simp) (by omega);simp only [Int.natCast_zero] at this;rcases this.cases with ⟨a,r,b,c⟩ | ⟨b,s,c⟩
 ·rw [b];show _=_;rw [c];rfl
 ·rw [b];exact⟨s,by rw [c];rfl⟩
theorem uK {most:Int} {xs r:List Int} {n:Int} (h:pU most xs=some (n,r)):(0<=n/\n<18446744073709551616/\n<=most)/\∃ p,xs=p++r/\0<p.length:=by
 unfold pU at h;split at h
 ·rename_i m r' he;split at h
  ·cases h;obtain⟨b,a⟩:=aZu _ _ _ _ _ (by simp) (by omega) he;exact⟨⟨by omega,by omega,by assumption⟩,a⟩
  ·cases h
 ·cases h
theorem aO1 {most:Int} {xs r:List Int} {n:Int} (hB:Bs xs) (h:pU most xs=some (n,r)):Bs r:=by obtain⟨_,p,rfl,_⟩:=uK h;exact hB.r
theorem aT9 (a:Nat):a &&& 1=a % 2:=Nat.and_two_pow_sub_one_eq_mod a 1
theorem bB7 {a:Nat} (h:a<9223372036854775808):aBi .i64 (a:Int) (-1) = -(a:Int) - 1:=by show IntKind.i64.wrap (((BitVec.ofInt 64 (a:Int) ^^^ BitVec.allOnes 64).toNat:Nat):Int)=_;rw [fP,BitVec.xor_allOnes,BitVec.toNat_not,BitVec.toNat_ofNat,Nat.mod_eq_of_lt (show a<2 ^ 64 by omega),IntWalk.i64_left];unfold wrap64;omega
theorem bFf {a:Nat} (h:a<9223372036854775808):aBi .i64 (a:Int) 0=(a:Int):=by show IntKind.i64.wrap (((BitVec.ofInt 64 (a:Int) ^^^ 0#64).toNat:Nat):Int)=_;rw [fP,BitVec.xor_zero,BitVec.toNat_ofNat,Nat.mod_eq_of_lt (show a<2 ^ 64 by omega),w64 (by omega) (by omega)]
theorem bEy {n:Nat} (h:n<18446744073709551616):aBi .i64 (IntKind.i64.wrap (oG .u64 (n:Int) 1)) (IntKind.i64.wrap (0 - IntKind.i64.wrap (aB7 .u64 (n:Int) 1)))=uz n:=by
 have d:oG .u64 (n:Int) 1=((n / 2:Nat):Int):=lD (k:=.u64) n 1 (by decide);have e:aB7 .u64 (n:Int) 1=((n % 2:Nat):Int):=by have:=aJb (a:=n) (b:=1) h (by omega);rw [show ((1:Nat):Int)=1 from rfl] at this;rw [this,aT9]
 rw [d,e,w64 (n:=((n / 2:Nat):Int)) (by omega) (by omega),w64 (n:=((n % 2:Nat):Int)) (by omega) (by omega),w64 (by omega) (by omega)];unfold uz;by_cases c:n % 2=1
 ·rw [if_pos c,c,show (0:Int) - ((1:Nat):Int) = -1 from rfl,bB7 (by omega)]
 ·rw [if_neg c,show n % 2=0 by omega,show (0:Int) - ((0:Nat):Int)=0 from rfl,bFf (by omega)]
theorem aIl {xs:List Int} (hB:Bs xs):IsR (cU ⟨xs⟩) (pI xs):=by
 unfold cU pI;rcases (aDv 18446744073709551615 hB).cases with ⟨a,r,b,c⟩ | ⟨b,s,c⟩
 ·rw [b,c];obtain⟨⟨d,e,_⟩,_⟩:=uK b;simp only [bHp,iC,lt_];have:=bEy (n:=a.toNat) (by omega);rw [show ((a.toNat:Nat):Int)=a by omega] at this;show _=_;rw [this]
 ·rw [b,c];exact⟨s,rfl⟩
theorem aR2 {xs r:List Int} {n:Int} (hB:Bs xs) (h:pI xs=some (n,r)):Bs r/\i64 n/\∃ p,xs=p++r/\0<p.length:=by
 unfold pI at h;split at h
 ·rename_i m r' he;cases h;refine⟨aO1 hB he,?_,(uK he).2⟩;have:=(uK he).1;unfold i64 uz;split <;> omega
 ·cases h
theorem aL4 (most:Int) {xs:List Int} (hB:Bs xs) (hl:xs.length<9223372036854775808):IsR (fI ⟨xs⟩ most) (pT most xs):=by
 unfold fI pT;rw [lt_];rcases (aDv (IntKind.u64.wrap most) hB).cases with ⟨a,r,b,c⟩ | ⟨b,s,c⟩
 ·rw [b,c];obtain⟨⟨d,e,_⟩,p,hp,_⟩:=uK b;have hr:r.length<=xs.length:=by rw [hp];simp
  simp only [bHp,iC,lt_];rw [nD (by omega) (by omega)];obtain⟨n,rfl⟩:∃ n:Nat,a=(n:Int):=⟨a.toNat,by omega⟩;by_cases hn:(n:Int)<=(r.length:Int)
  ·rw [show decide ((n:Int)<=(r.length:Int))=true by simpa using hn,mV,if_pos hn];simp only [bHp,iC];have c1:=nY (xs:=r) (l:=0) (u:=n) (by omega) (by omega);have c2:=nY (xs:=r) (l:=n) (u:=r.length) (by omega) (by omega);rw [show ((0:Nat):Int)=0 from rfl,List.drop_zero] at c1;rw [List.take_length] at c2;rw [c1];simp only [bHp];rw [c2];rfl
  ·rw [show decide ((n:Int)<=(r.length:Int))=false by simpa using hn,sM,if_neg hn];exact⟨_,rfl⟩
 ·rw [b,c];exact⟨s,rfl⟩
theorem aZv:∀ (k:Nat) (m i n:Nat) (r:List Int),m<128 ^ (k+1)->k+i<=9->m * 2 ^ (7 * i)+n<18446744073709551616->(0<i->0<m)->pV i n (uv m++r)=some (n+m * 2 ^ (7 * i),r)
 | k,m,i,n,r,h,hi,hlt,h0=>by
  by_cases hm:m<128
  ·rw [aDr hm,List.singleton_append,pV];have b:i<9\/(i=9/\(m:Int)<2):=by
    rcases Nat.lt_or_ge i 9 with q | q
    ·exact .inl q
    ·have:i=9:=by omega
     subst this;refine .inr ⟨rfl,?_⟩;rcases Nat.lt_or_ge m 2 with a | a
     ·omega
     ·have:2 * 2 ^ (7 * 9)<=m * 2 ^ (7 * 9):=Nat.mul_le_mul_right _ a;omega
   rw [if_pos b,if_pos (by omega),if_pos (by rcases Nat.eq_zero_or_pos i with q | q;exact .inl q;have:=h0 q;exact .inr (by omega)),Int.toNat_natCast,Nat.mod_eq_of_lt hm]
  ·rw [aDq hm,List.cons_append,pV]
   match k,h,hi with
   | 0,h,_=>exact absurd (by simpa using h) hm
   | k+1,h,hi =>
    rw [if_pos (.inl (by omega)),if_neg (by omega),Int.toNat_natCast,show (m % 128+128) % 128=m % 128 by omega];have hp:2 ^ (7 * (i+1))=128 * 2 ^ (7 * i):=by rw [show 7 * (i+1)=7+7 * i by omega,Nat.pow_add]
    have c:m / 128 * (128 * 2 ^ (7 * i))+m % 128 * 2 ^ (7 * i)=m * 2 ^ (7 * i):=by rw [← Nat.mul_assoc, ← Nat.add_mul];congr 1;omega
    rw [aZv k (m / 128) (i+1) _ r (by rw [Nat.pow_succ] at h;exact Nat.div_lt_of_lt_mul (by rw [Nat.mul_comm];exact h)) (by omega) (by rw [hp];omega) (λ_=>by omega),hp];congr 2;omega
theorem aJs {m:Nat} (h:m<18446744073709551616) (r:List Int) {most:Int} (hm:(m:Int)<=most):pU most (uv m++r)=some ((m:Int),r):=by unfold pU;rw [aZv 9 m 0 0 r (by omega) (by omega) (by simp;omega) (λq=>absurd q (by omega))];simp only [Nat.mul_zero,Nat.pow_zero,Nat.mul_one,Nat.zero_add];rw [if_pos hm]
theorem aOz {x:Int} (h:i64 x) (r:List Int):pI (uv (zz x)++r)=some (x,r):=by unfold pI;have:=yD h;rw [aJs this r (by omega)];simp only [Int.toNat_natCast,bEz]
def bl (n:Nat):Nat:=if h:n=0 then 0 else bl (n / 2)+1
termination_by n
decreasing_by omega
theorem aFw:bl 0=0:=by rw [bl,dif_pos rfl]
theorem aL5 {n:Nat} (h:0<n):bl n=bl (n / 2)+1:=by rw [bl,dif_neg (by omega)]
theorem bCi (n:Nat):n<2 ^ bl n:=by
 induction n using Nat.strongRecOn with
 | _ n ih =>
  rcases Nat.eq_zero_or_pos n with rfl | h
  ·rw [aFw];decide
  ·rw [aL5 h,Nat.pow_succ];have:=ih (n / 2) (by omega);omega
theorem aY7:∀ (k n:Nat),n<2 ^ k->bl n<=k
 | 0,n,h=>by
  have:n=0:=by simpa using h
  rw [this,aFw];exact Nat.le_refl _
 | k+1,n,h=>by
  rcases Nat.eq_zero_or_pos n with rfl | hp
  ·rw [aFw];omega
  ·rw [aL5 hp];have:=aY7 k (n / 2) (by rw [Nat.pow_succ] at h;omega);omega
theorem aC3:∀ (k n:Nat),2 ^ k<=n->bl n=k+bl (n / 2 ^ k)
 | 0,n,_=>by simp
 | k+1,n,h=>by have hp:0<2 ^ k:=Nat.two_pow_pos k;rw [Nat.pow_succ] at h;rw [aL5 (by omega),aC3 k (n / 2) (by omega),Nat.div_div_eq_div_mul,Nat.pow_succ,Nat.mul_comm (2 ^ k) 2];omega
def V (w:Nat):List Nat->Nat
 | []=>0
 | d::ds=>d+2 ^ w * V w ds
def Lt (w:Nat) (ds:List Nat):Prop:=∀ d∈ds,d<2 ^ w
theorem Lt.tail {w d:Nat} {ds:List Nat} (h:Lt w (d::ds)):d<2 ^ w/\Lt w ds:=⟨h d List.mem_cons_self,λx hx=>h x (List.mem_cons_of_mem _ hx)⟩
theorem aWx {w:Nat}:∀ {ds:List Nat},Lt w ds->V w ds<2 ^ (ds.length * w)
 | [],_=>by simp [V]
 | d::ds,h=>by
  have b:=h.tail.1;have a:=aWx h.tail.2;simp only [V,List.length_cons];rw [Nat.add_mul,Nat.one_mul,Nat.pow_add,Nat.mul_comm (2 ^ (ds.length * w))];have:2 ^ w * V w ds+2 ^ w<=2 ^ w * 2 ^ (ds.length * w):=by rw [← Nat.mul_succ];exact Nat.mul_le_mul_left _ a
  omega
theorem aT6 {w:Nat}:∀ {ds:List Nat},Lt w ds->∀ i,V w ds / 2 ^ (i * w)=V w (ds.drop i)
 | ds,_,0=>by simp
 | [],_,i+1=>by simp [V]
 | d::ds,h,i+1=>by rw [List.drop_succ_cons, ← aT6 h.tail.2 i,Nat.add_mul,Nat.one_mul,Nat.add_comm (i * w),Nat.pow_add, ← Nat.div_div_eq_div_mul];congr 1;simp only [V];rw [Nat.add_mul_div_left _ _ (Nat.two_pow_pos w),Nat.div_eq_of_lt h.tail.1,Nat.zero_add]
theorem aY6 {w:Nat} {ds:List Nat} (h:Lt w ds) {i d:Nat} (hd:ds[i]?=some d):V w ds / 2 ^ (i * w) % 2 ^ w=d:=by rw [aT6 h,List.drop_eq_getElem_cons (List.getElem?_eq_some_iff.1 hd).1,(List.getElem?_eq_some_iff.1 hd).2,V,Nat.add_mul_mod_self_left];exact Nat.mod_eq_of_lt (h d (List.mem_of_getElem? hd))
def by_ (m v:Nat):List Nat:=(List.range m).map λj=>v / 2 ^ (8 * j) % 256
theorem uU (m v:Nat):(by_ m v).length=m:=by simp [by_]
theorem aIo {m v j:Nat} (h:j<m):(by_ m v)[j]?=some (v / 2 ^ (8 * j) % 256):=by unfold by_;rw [List.getElem?_map,List.getElem?_range h];rfl
theorem bCk (m v:Nat):Lt 8 (by_ m v):=by intro d hd;unfold by_ at hd;obtain⟨j,_,rfl⟩:=List.mem_map.1 hd;exact Nat.mod_lt _ (by decide)
theorem aUh {xs ys:List Nat} (hl:xs.length=ys.length) (h:∀ j:Nat,j<xs.length->xs[j]?=ys[j]?):xs=ys:=by
 apply List.ext_getElem? λj=>?_;rcases Nat.lt_or_ge j xs.length with a | a
 ·exact h j a
 ·rw [List.getElem?_eq_none a,List.getElem?_eq_none (by omega)]
theorem bCf:∀ (m v:Nat),v<2 ^ (8 * m)->V 8 (by_ m v)=v
 | 0,v,h=>by
  have:v=0:=by simpa using h
  subst this;rfl
 | m+1,v,h=>by
  have e:by_ (m+1) v=v % 256::by_ m (v / 256):=by
   refine aUh (by simp [uU]) λj a=>?_;rw [uU] at a;rw [aIo a];cases j with
   | zero=>simp
   | succ j =>
    rw [List.getElem?_cons_succ,aIo (by omega),show 8 * (j+1)=8+8 * j by omega,Nat.pow_add,Nat.div_div_eq_div_mul]
  rw [e,V,bCf m (v / 256) (by rw [show 8 * (m+1)=8+8 * m by omega,Nat.pow_add] at h;exact Nat.div_lt_of_lt_mul h)];exact Nat.mod_add_div v 256
def bt (v i:Nat):Nat:=v / 2 ^ i % 2
theorem aRe (v i:Nat):bt v i<2:=Nat.mod_lt _ (by decide)
theorem aJk (v i:Nat):v % 2 ^ (i+1)=v % 2 ^ i+bt v i * 2 ^ i:=by rw [Nat.pow_succ,Nat.mod_mul,bt,Nat.mul_comm]
theorem bCj {w:Nat} {ds:List Nat} (h:Lt w ds) {i k d:Nat} (hd:ds[i]?=some d) (hk:k<w):bt (V w ds) (i * w+k)=bt d k:=by
 unfold bt;have hm:=aY6 h hd;rw [Nat.pow_add, ← Nat.div_div_eq_div_mul]
 conv=>rhs;rw [← hm]
 obtain⟨x,hx⟩:∃ x,x=V w ds / 2 ^ (i * w):=⟨_,rfl⟩;rw [← hx];obtain⟨j,rfl⟩:∃ j,w=k+(j+1):=⟨w - k - 1,by omega⟩;rw [Nat.pow_add,Nat.mod_mul_right_div_self,Nat.pow_succ,Nat.mul_comm (2 ^ j) 2,Nat.mod_mul_right_mod]
theorem aLa (v i q w:Nat) (hw:0<w) (f:q≠i / w):v % 2 ^ (i+1) / 2 ^ (q * w) % 2 ^ w=v % 2 ^ i / 2 ^ (q * w) % 2 ^ w:=by
 rw [aJk];rcases Nat.lt_or_ge (i / w) q with a | g
 ·
  have b:(i / w+1) * w<=q * w:=Nat.mul_le_mul_right _ a;have c:i<(i / w+1) * w:=by have h:=Nat.div_add_mod i w;have k:=Nat.mod_lt i hw;rw [Nat.add_mul,Nat.one_mul,Nat.mul_comm (i / w)];omega
  have d:2 ^ (i+1)<=2 ^ (q * w):=Nat.pow_le_pow_right (by decide) (by omega);have l:v % 2 ^ i<2 ^ i:=Nat.mod_lt _ (Nat.two_pow_pos i);have m:=aRe v i;have n:bt v i * 2 ^ i<=1 * 2 ^ i:=Nat.mul_le_mul_right _ (by omega);rw [Nat.pow_succ] at d;rw [Nat.div_eq_of_lt (by omega),Nat.div_eq_of_lt (by omega)]
 ·
  have a:q<i / w:=by omega
  have b:(q+1) * w<=i / w * w:=Nat.mul_le_mul_right _ a;have c:i / w * w<=i:=Nat.div_mul_le_self i w;obtain⟨j,rfl⟩:∃ j,i=q * w+w+j:=⟨i - (q * w+w),by rw [Nat.add_mul] at b;omega⟩;have e:bt v (q * w+w+j) * 2 ^ (q * w+w+j)=2 ^ (q * w) * (2 ^ w * (2 ^ j * bt v (q * w+w+j))):=by rw [Nat.pow_add,Nat.pow_add];ac_rfl
  rw [e,Nat.add_mul_div_left _ _ (Nat.two_pow_pos _),Nat.add_mul_mod_self_left]
theorem aGc (v i w:Nat) (hw:0<w):v % 2 ^ (i+1) / 2 ^ (i / w * w) % 2 ^ w=v % 2 ^ i / 2 ^ (i / w * w) % 2 ^ w+bt v i * 2 ^ (i % w)/\v % 2 ^ i / 2 ^ (i / w * w) % 2 ^ w<2 ^ (i % w):=by
 obtain⟨q,a⟩:∃ q,q=i / w * w:=⟨_,rfl⟩;obtain⟨k,hk⟩:∃ k,k=i % w:=⟨_,rfl⟩;have hi:i=q+k:=by rw [a,hk,Nat.mul_comm];exact (Nat.div_add_mod i w).symm
 have b:k<w:=by rw [hk];exact Nat.mod_lt _ hw
 rw [← a, ← hk,aJk,hi];have c:v % 2 ^ (q+k) / 2 ^ q<2 ^ k:=Nat.div_lt_of_lt_mul (by rw [← Nat.pow_add];exact Nat.mod_lt _ (Nat.two_pow_pos _));have d:2 ^ (k+1)<=2 ^ w:=Nat.pow_le_pow_right (by decide) b;rw [Nat.pow_succ] at d;have hb:=aRe v (q+k);have f:bt v (q+k) * 2 ^ k<=1 * 2 ^ k:=Nat.mul_le_mul_right _ (by omega);have e:bt v (q+k) * 2 ^ (q+k)=2 ^ q * (bt v (q+k) * 2 ^ k):=by rw [Nat.pow_add, ← Nat.mul_assoc, ← Nat.mul_assoc,Nat.mul_comm (bt v (q+k))]
 rw [e,Nat.add_mul_div_left _ _ (Nat.two_pow_pos q),Nat.mod_eq_of_lt (show v % 2 ^ (q+k) / 2 ^ q+bt v (q+k) * 2 ^ k<2 ^ w by omega),Nat.mod_eq_of_lt (show v % 2 ^ (q+k) / 2 ^ q<2 ^ w by omega)];exact⟨rfl,c⟩
def b0 (l:List Int):List Int:=(l.map λx=>uv (zz x)).flatten
def aB8:Int->List Int->Int
 | a,[]=>a
 | _,x::l=>aB8 x l
def bD:Int->List Int->List Int
 | _,[]=>[]
 | a,x::l=>uv (zz (IntKind.i64.wrap (x - a)))++bD x l
def bR:Nat->List Int->List Int
 | _,[]=>[]
 | k,[x]=>uv (zz x)++uv k
 | k,x::y::l=>if y=x then bR (k+1) (y::l) else uv (zz x)++uv k++bR 0 (y::l)
def mn:Int->List Int->Int
 | m,[]=>m
 | m,x::l=>mn (if x<m then x else m) l
def ds (lo:Int) (l:List Int):List Nat:=l.map λx=>(x - lo).toNat
def wdt (D:List Nat):Nat:=D.foldl (λw d=>if w<bl d then bl d else w) 0
def ofN (l:List Nat):List Int:=l.map λ(n:Nat)=>(n:Int)
def pk:List Int->List Int
 | []=>[]
 | x::l=>uv (zz (mn x l))++[(wdt (ds (mn x l) (x::l)):Int)]++ofN (by_ (((x::l).length * wdt (ds (mn x l) (x::l))+7) / 8) (V (wdt (ds (mn x l) (x::l))) (ds (mn x l) (x::l))))
def body:Nat->List Int->List Int
 | 0,l=>b0 l
 | 1,l=>bD 0 l
 | 2,l=>bR 0 l
 | _,l=>pk l
def asL (w:Nat) (l:List Int):List Int:=(w:Int)::(uv l.length++body w l)
def I64 (l:List Int):Prop:=∀ x∈l,i64 x
theorem I64.get {l:List Int} (h:I64 l) {i:Nat} {x:Int} (hx:l[i]?=some x):i64 x:=h x (List.mem_of_getElem? hx)
theorem aMt:∀ {l:List Int},I64 l->(b0 l).length<=10 * l.length
 | [],_=>by simp [b0]
 | x::l,h=>by have c:=aP (yD (h x List.mem_cons_self));have a:=aMt (l:=l) λy b=>h y (List.mem_cons_of_mem _ b);simp only [b0,List.map_cons,List.flatten_cons,List.length_append,List.length_cons] at a ⊢;omega
theorem aQi:∀ (l:List Int) (a:Int),(bD a l).length<=10 * l.length
 | [],_=>by simp [bD]
 | x::l,a=>by have b:=aP (yD (aC6 (x - a)));have c:=aQi l x;simp only [bD,List.length_append,List.length_cons];omega
theorem aQj:∀ (l:List Int) (k:Nat),I64 l->k+l.length<18446744073709551616->(bR k l).length<=20 * l.length
 | [],_,_,_=>by simp [bR]
 | [x],k,h,hk=>by have b:=aP (yD (h x List.mem_cons_self));have c:=aP (n:=k) (by simp at hk;omega);simp only [bR,List.length_append,List.length_cons,List.length_nil];omega
 | x::y::l,k,h,hk=>by
  have b:=aP (yD (h x List.mem_cons_self));simp only [List.length_cons] at hk;have c:=aP (n:=k) (by omega);have a:I64 (y::l):=λz hz=>h z (List.mem_cons_of_mem _ hz);unfold bR;split
  ·have:=aQj (y::l) (k+1) a (by simp only [List.length_cons];omega);simp only [List.length_cons] at this ⊢;omega
  ·have:=aQj (y::l) 0 a (by simp only [List.length_cons];omega);simp only [List.length_append,List.length_cons] at this ⊢;omega
theorem aWz (l:List Int) (x:Int):b0 (l++[x])=b0 l++uv (zz x):=by simp [b0]
theorem aRc:∀ (l:List Int) (a x:Int),bD a (l++[x])=bD a l++uv (zz (IntKind.i64.wrap (x - aB8 a l)))
 | [],a,x=>by simp [bD,aB8]
 | y::l,a,x=>by simp [bD,aB8,aRc l y x]
theorem aHn:∀ (l:List Int) (a x:Int),aB8 a (l++[x])=x
 | [],a,x=>rfl
 | y::l,a,x=>aHn l y x
theorem vC {l:List Int} {k:Nat} {x:Int} (h:l[k]?=some x):l.take (k+1)=l.take k++[x]:=by rw [List.take_add_one,h];rfl
theorem I64.take {l:List Int} (h:I64 l) (k:Nat):I64 (l.take k):=λx hx=>h x (List.mem_of_mem_take hx)
section
variable {l pre:List Int} (hl:l.length<=4096) (hi:I64 l) (hp:pre.length<=20)
include hl hi hp
theorem bF1:loop (λs:List Int×Int=>lZ l s.1 s.2) (pre,0)=some (pre++b0 l):=by
 have:=jJ (b:=λs:List Int×Int=>lZ l s.1 s.2) (λk=>(pre++b0 (l.take k),(k:Int))) (t:=pre++b0 l) l.length (λk hk=>by
  have hx:=List.getElem?_eq_getElem hk;have hlen:=aMt (hi.take k);rw [List.length_take] at hlen;show lZ l (pre++b0 (l.take k)) (k:Int)=_;unfold lZ;rw [if_pos (by simp only [decide_eq_true_eq];omega),bA rfl hx];simp only [bHp];rw [aAq (hi.get hx) _ (by simp only [List.length_append];omega)];simp only [bHp,lt_];rw [w64 (by omega) (by omega),vC hx,aWz,List.append_assoc];rfl) (by
  show lZ l (pre++b0 (l.take l.length)) (l.length:Int)=_;unfold lZ;rw [if_neg (by simp),List.take_length])
 simpa [b0] using this
omit hi in
theorem bF2:loop (λs:List Int×Int×Int=>mA l s.1 s.2.1 s.2.2) (pre,0,0)=some (pre++bD 0 l):=by
 have:=jJ (b:=λs:List Int×Int×Int=>mA l s.1 s.2.1 s.2.2) (λk=>(pre++bD 0 (l.take k),aB8 0 (l.take k),(k:Int))) (t:=pre++bD 0 l) l.length (λk hk=>by
  have hx:=List.getElem?_eq_getElem hk;have hlen:=aQi (l.take k) 0;rw [List.length_take] at hlen;show mA l (pre++bD 0 (l.take k)) (aB8 0 (l.take k)) (k:Int)=_;unfold mA;rw [if_pos (by simp only [decide_eq_true_eq];omega),bA rfl hx];simp only [bHp,lt_];rw [aAq (aC6 _) _ (by simp only [List.length_append];omega)];simp only [bHp];rw [w64 (n:=(k:Int)+1) (by omega) (by omega),vC hx,aRc,aHn,List.append_assoc];rfl) (by
  show mA l (pre++bD 0 (l.take l.length)) (aB8 0 (l.take l.length)) (l.length:Int)=_;unfold mA;rw [if_neg (by simp),List.take_length])
 simpa [bD,aB8] using this
end
theorem aG8 (x:Int):∀ rest:List Int,∃ (m:Nat) (tl:List Int),rest=List.replicate m x++tl/\∀ y,tl[0]?=some y->y≠x
 | []=>⟨0,[],rfl,by simp⟩
 | y::rest=>by
  by_cases h:y=x
  ·obtain⟨m,tl,a,b⟩:=aG8 x rest;exact⟨m+1,tl,by rw [h,a];rfl,b⟩
  ·exact⟨0,y::rest,rfl,λz hz=>by cases hz;exact h⟩
theorem aPu (x:Int) (tl:List Int) (h:∀ y,tl[0]?=some y->y≠x):∀ (m k:Nat),bR k (x::(List.replicate m x++tl))=uv (zz x)++uv (k+m)++bR 0 tl
 | 0,k=>by
  cases tl with
  | nil=>simp [bR]
  | cons y tl =>
   have:=h y rfl;simp only [List.replicate_zero,List.nil_append,bR,if_neg this,Nat.add_zero]
 | m+1,k=>by rw [List.replicate_succ,List.cons_append,bR,if_pos rfl,aPu x tl h m (k+1),show k+1+m=k+(m+1) by omega]
section
variable {l pre:List Int} (hl:l.length<=4096) (hi:I64 l) (hp:pre.length<=20)
include hl hi hp
theorem bF3:loop (λs:List Int×Int=>nT l s.1 s.2) (pre,0)=some (pre++bR 0 l):=by
 obtain⟨t,ht,rfl⟩:=aEa (b:=λs:List Int×Int=>nT l s.1 s.2) (s:=(pre,0))
  (λs=>∃ i:Nat,s.2=i/\i<=l.length/\s.1.length<=20+20 * i/\s.1++bR 0 (l.drop i)=pre++bR 0 l)
  (λs=>((l.length:Int) - s.2).toNat) (λt=>t=pre++bR 0 l) ⟨0,rfl,by omega,by simpa using hp,by simp⟩ (by
   rintro⟨acc,q⟩ ⟨i,d,u,j,a⟩;simp only at d j a;subst d;show (∃ s',nT l acc (i:Int)=some (.inl s')/\_)\/∃ t,nT l acc (i:Int)=some (.inr t)/\_;unfold nT;by_cases e:i<l.length
   ·rw [if_pos (by simp only [decide_eq_true_eq];omega)];have hx:=List.getElem?_eq_getElem e;obtain⟨x,f⟩:∃ x,x=l[i]:=⟨_,rfl⟩;rw [← f] at hx;have hd:l.drop i=x::l.drop (i+1):=by rw [List.drop_eq_getElem_cons e, ← f]
    obtain⟨m,tl,hm,g⟩:=aG8 x (l.drop (i+1));have hlen:l.length=i+1+m+tl.length:=by have:=congrArg List.length hm;simp only [List.length_drop,List.length_append,List.length_replicate] at this;omega
    have o:∀ k,k<m->l[i+1+k]?=some x:=by
     intro k hk;have:(l.drop (i+1))[k]?=some x:=by rw [hm,List.getElem?_append_left (by simpa using hk)];simp [hk]
     rwa [List.getElem?_drop] at this
    have h:l.drop (i+1+m)=tl:=by rw [← List.drop_drop,hm];exact List.drop_left' (by simp)
    
    have p:=jJ (b:=λs:Int=>nU l (i:Int) s) (λk=>((k+1:Nat):Int)) (t:=((m+1:Nat):Int)) m (λk hk=>by
     show nU l (i:Int) ((k+1:Nat):Int)=_;unfold nU;rw [lt_,w64 (by omega) (by omega),if_pos (by simp only [decide_eq_true_eq];omega),bA (n:=i+1+k) (by omega) (o k hk),bA rfl hx];simp only [bHp];unfold qF;rw [if_pos (by simp),lt_,w64 (by omega) (by omega)];rfl) (by
     show nU l (i:Int) ((m+1:Nat):Int)=_;unfold nU;rw [lt_,w64 (by omega) (by omega)];by_cases v:tl.length=0
     ·rw [if_neg (by simp only [decide_eq_true_eq];omega)];unfold qF;rw [if_neg (by simp)]
     ·obtain⟨y,c⟩:∃ y,tl[0]?=some y:=⟨_,List.getElem?_eq_getElem (by omega)⟩;have r:l[i+1+m]?=some y:=by rw [← h,List.getElem?_drop] at c;exact c
      rw [if_pos (by simp only [decide_eq_true_eq];omega),bA (n:=i+1+m) (by omega) r,bA rfl hx];simp only [bHp];unfold qF;rw [if_neg (by simpa using g y c)])
    rw [show (1:Int)=((0+1:Nat):Int) from rfl,p];simp only [bHp];unfold vQ yV;have hz:=aP (yD (hi.get hx));have w:=aP (n:=m) (by omega);rw [bA rfl hx];simp only [bHp];rw [aAq (hi.get hx) _ (by omega)];simp only [bHp,lt_];rw [w64 (n:=((m+1:Nat):Int) - 1) (by omega) (by omega),show ((m+1:Nat):Int) - 1=(m:Int) by omega,nD (by omega) (by omega),tV m _ (by omega) (by simp only [List.length_append];omega)];simp only [bHp];rw [w64 (by omega) (by omega)];refine .inl ⟨_,rfl,⟨i+1+m,?_,by omega,?_,?_⟩,?_⟩
    ·simp only;omega
    ·simp only [List.length_append];omega
    ·rw [h, ← a,hd,hm,aPu x tl g m 0];simp
    ·simp only;omega
   ·rw [if_neg (by simp only [decide_eq_true_eq];omega)];refine .inr ⟨_,rfl,?_⟩;rw [← a,show i=l.length by omega,List.drop_length];simp [bR])
 exact ht
end
theorem aHg {k m:Nat} (a:2 ^ k<=m) (b:m<2 ^ (k+1)):bl m=k+1:=by
 have e:m / 2 ^ k=1:=by rw [Nat.pow_succ] at b;have:=(Nat.le_div_iff_mul_le (Nat.two_pow_pos k)).2 (show 1 * 2 ^ k<=m by omega);have:=(Nat.div_lt_iff_lt_mul (Nat.two_pow_pos k)).2 (show m<2 * 2 ^ k by omega);omega
 rw [aC3 k m a,e,aL5 (by decide),show 1 / 2=0 from rfl,aFw]
def aLs (m:Nat):Nat:=if m<1 then 0 else if m<2 then 1 else if m<4 then 2 else if m<8 then 3 else if m<16 then 4 else if m<32 then 5 else if m<64 then 6 else if m<128 then 7 else 8
theorem aUf {m:Nat} (h:m<256):bl m=aLs m:=by
 unfold aLs
 repeat' split
 ·rw [show m=0 by omega,aFw]
 ·exact aHg (k:=0) (by omega) (by omega)
 ·exact aHg (k:=1) (by omega) (by omega)
 ·exact aHg (k:=2) (by omega) (by omega)
 ·exact aHg (k:=3) (by omega) (by omega)
 ·exact aHg (k:=4) (by omega) (by omega)
 ·exact aHg (k:=5) (by omega) (by omega)
 ·exact aHg (k:=6) (by omega) (by omega)
 ·exact aHg (k:=7) (by omega) (by omega)
set_option maxRecDepth 100000 in
theorem aZn {m:Nat} (h:m<256) (a:Int) (f:0<=a) (g:a<=64):rB (m:Int) a=some (a+(bl m:Int)):=by
 unfold rB;rw [lt_,u8w (by omega) (by omega),aPt];have key:∀ tb:List UInt8,(∀ i:Fin 256,(tb[i.val]?).map (λb:UInt8=>b.toNat)=some (aLs i.val))->((tb[m]?).bind λc=>(ltt (IntKind.i64.wrap (c.toNat:Int)) λd=>(ltt (IntKind.i64.wrap (a+d)) λe=>(some e))))=some (a+(bl m:Int)):=by
  intro tb ht;have:=ht ⟨m,h⟩;simp only [Option.map_eq_some_iff] at this;obtain⟨b,hb,hs⟩:=this;rw [hb];have:aLs m<=8:=by unfold aLs;(repeat' split) <;> omega
  simp only [bHp,lt_];rw [hs,w64 (n:=((aLs m:Nat):Int)) (by omega) (by omega),w64 (by omega) (by omega),aUf h]
 exact key _ (by decide +kernel)
theorem sh {n k:Nat} (hk:k<=64):oG .u64 (n:Int) (k:Int)=((n / 2 ^ k:Nat):Int):=lD (k:=.u64) n k hk
theorem bAi {n:Nat} (h:n<18446744073709551616):zQ (n:Int)=some (bl n:Int):=by
 have b:∀ (m a:Nat),m<65536->a<=56->rA (m:Int) (a:Int)=some ((a:Int)+(bl m:Int)):=by
  intro m a hm d;unfold rA;by_cases hc:256<=m
  ·rw [if_pos (by simp only [decide_eq_true_eq];omega),lt_,lt_];have e:=sh (n:=m) (k:=8) (by omega);rw [show ((8:Nat):Int)=8 from rfl] at e;rw [e,w64 (by omega) (by omega),aZn (by omega) _ (by omega) (by omega),aC3 8 m (by omega)];congr 1;omega
  ·rw [if_neg (by simp only [decide_eq_true_eq];omega),aZn (by omega) _ (by omega) (by omega)]
 have c:∀ (m a:Nat),m<4294967296->a<=32->qZ (m:Int) (a:Int)=some ((a:Int)+(bl m:Int)):=by
  intro m a hm d;unfold qZ;by_cases hc:65536<=m
  ·rw [if_pos (by simp only [decide_eq_true_eq];omega),lt_,lt_];have e:=sh (n:=m) (k:=16) (by omega);rw [show ((16:Nat):Int)=16 from rfl] at e;rw [e,w64 (by omega) (by omega),show (a:Int)+16=((a+16:Nat):Int) by omega,b _ _ (by omega) (by omega),aC3 16 m (by omega)];congr 1;omega
  ·rw [if_neg (by simp only [decide_eq_true_eq];omega),b _ _ (by omega) (by omega)]
 unfold zQ;by_cases hc:4294967296<=n
 ·rw [if_pos (by simp only [decide_eq_true_eq];omega),lt_];have e:=sh (n:=n) (k:=32) (by omega);rw [show ((32:Nat):Int)=32 from rfl] at e;rw [e,show (32:Int)=((32:Nat):Int) from rfl,c _ _ (by omega) (by omega),aC3 32 n (by omega)];congr 1
 ·rw [if_neg (by simp only [decide_eq_true_eq];omega),show (0:Int)=((0:Nat):Int) from rfl,c _ _ (by omega) (by omega)];simp
theorem aRz:∀ (l:List Int) (m x:Int),mn m (l++[x])=if x<mn m l then x else mn m l
 | [],m,x=>rfl
 | y::l,m,x=>aRz l _ x
theorem aVh:∀ (l:List Int) (m:Int),mn m l<=m/\∀ x∈l,mn m l<=x
 | [],m=>⟨Int.le_refl _,λx h=>by cases h⟩
 | y::l,m=>by
  obtain⟨a,c⟩:=aVh l (if y<m then y else m);have b:(if y<m then y else m)<=m/\(if y<m then y else m)<=y:=by split <;> omega
  refine⟨Int.le_trans a b.1,λx hx=>?_⟩;rcases List.mem_cons.1 hx with rfl | hx
  ·exact Int.le_trans a b.2
  ·exact c x hx
theorem aVi:∀ (l:List Int) (m:Int),mn m l=m\/mn m l∈l
 | [],m=>.inl rfl
 | y::l,m=>by
  rcases aVi l (if y<m then y else m) with h | h
  ·simp only [mn];rw [h];split
   ·exact .inr List.mem_cons_self
   ·exact .inl rfl
  ·exact .inr (List.mem_cons_of_mem _ h)
theorem aMx {x:Int} {l:List Int} (h:I64 (x::l)):i64 (mn x l):=by
 rcases aVi l x with e | e
 ·rw [e];exact h x List.mem_cons_self
 ·exact h _ (List.mem_cons_of_mem _ e)
theorem bAr {x lo:Int} (hx:i64 x) (hlo:i64 lo) (h:lo<=x):IntKind.u64.wrap (IntKind.i64.wrap (x - lo))=(((x - lo).toNat:Nat):Int)/\(x - lo).toNat<18446744073709551616:=by unfold i64 at hx hlo;refine⟨?_,by omega⟩;rw [IntKind.wrap_u64,IntWalk.i64_left];unfold wrap64;omega
theorem aJ9 (D:List Nat) (d:Nat):wdt (D++[d])=if wdt D<bl d then bl d else wdt D:=by unfold wdt;rw [List.foldl_append];rfl
theorem aWj:∀ (k:Nat) (D:List Nat),D.length=k->∀ d∈D,bl d<=wdt D
 | 0,D,hk,d,hd=>by rw [List.eq_nil_of_length_eq_zero hk] at hd;cases hd
 | k+1,D,hk,d,hd=>by
  obtain⟨c,x,rfl⟩:∃ c x,D=c++[x]:=⟨D.dropLast,D.getLast (by intro e;rw [e] at hk;cases hk),(List.dropLast_concat_getLast _).symm⟩;rw [aJ9];rcases List.mem_append.1 hd with h | h
  ·have:=aWj k c (by simpa using hk) d h;split <;> omega
  ·rw [List.mem_singleton.1 h];split <;> omega
theorem aWk (b:Nat):∀ (k:Nat) (D:List Nat),D.length=k->(∀ d∈D,bl d<=b)->wdt D<=b
 | 0,D,hk,_=>by rw [List.eq_nil_of_length_eq_zero hk];simp [wdt]
 | k+1,D,hk,h=>by obtain⟨c,x,rfl⟩:∃ c x,D=c++[x]:=⟨D.dropLast,D.getLast (by intro e;rw [e] at hk;cases hk),(List.dropLast_concat_getLast _).symm⟩;rw [aJ9];have a:=aWk b k c (by simpa using hk) λd hd=>h d (List.mem_append.2 (.inl hd));have f:=h x (List.mem_append.2 (.inr (List.mem_singleton.2 rfl)));split <;> omega
theorem aT2 (D:List Nat):Lt (wdt D) D:=λd hd=>Nat.lt_of_lt_of_le (bCi d) (Nat.pow_le_pow_right (by decide) (aWj _ D rfl d hd))
theorem aP2 {lo x:Int} {l:List Int} {i:Nat} (h:l[i]?=some x):(ds lo l)[i]?=some (x - lo).toNat:=by simp [ds,h]
theorem wY (lo:Int) (l:List Int):(ds lo l).length=l.length:=by simp [ds]
theorem aW2 {m v a:Nat} (h:a / 8<m):(ofN (by_ m (v % 2 ^ a))).set (a / 8) ((v % 2 ^ a / 2 ^ (8 * (a / 8)) % 256+bt v a * 2 ^ (a % 8):Nat):Int)=ofN (by_ m (v % 2 ^ (a+1))):=by
 unfold ofN;rw [← List.map_set];congr 1;refine aUh (by simp [uU]) λj b=>?_;rw [List.length_set,uU] at b;rw [aIo b];by_cases e:a / 8=j
 ·subst e;have:=(aGc v a 8 (by decide)).1;rw [Nat.mul_comm (a / 8) 8,show 2 ^ 8=256 from rfl] at this;rw [List.getElem?_set_self (by rw [uU];exact b),this]
 ·have:=aLa v a j 8 (by decide) (Ne.symm e);rw [Nat.mul_comm j 8,show 2 ^ 8=256 from rfl] at this;rw [List.getElem?_set_ne e,aIo b,this]
theorem aXx {D:List Nat} {j d:Nat} (h:D[j]?=some d):(ofN D)[j]?=some (d:Int):=by simp [ofN,h]
theorem aFc (D:List Nat):(ofN D).length=D.length:=by simp [ofN]
section
variable {l:List Int} {lo:Int} {w:Nat} (hl:l.length<=4096) (hi:I64 l) (hlo:i64 lo) (hle:∀ x∈l,lo<=x) (hw:w<=64) (hL:Lt w (ds lo l))
include hl hi hlo hle hw hL
omit hl in
theorem bAo {i:Nat} {x:Int} (hx:l[i]?=some x) {k:Nat} (hk:k<w) :
  oG .u64 (IntKind.u64.wrap (IntKind.i64.wrap (x - lo))) (k:Int)=(((x - lo).toNat / 2 ^ k:Nat):Int)/\bt (V w (ds lo l)) (i * w+k)=(x - lo).toNat / 2 ^ k % 2/\(x - lo).toNat / 2 ^ k<18446744073709551616:=by
 obtain⟨e,e'⟩:=bAr (hi.get hx) hlo (hle x (List.mem_of_getElem? hx));rw [e];exact⟨sh (by omega),bCj hL (aP2 hx) hk,Nat.lt_of_le_of_lt (Nat.div_le_self _ _) e'⟩
omit hi hlo hle hL in
theorem bCh {i k:Nat} (a:i<l.length) (hk:k<w):i * w+k<l.length * w/\l.length * w<=262144/\(i * w+k) / 8<(l.length * w+7) / 8:=by have b:(i+1) * w<=l.length * w:=Nat.mul_le_mul_right _ a;have c:l.length * w<=4096 * 64:=Nat.mul_le_mul hl hw;rw [Nat.add_mul] at b;refine⟨by omega,by omega,by omega⟩
theorem aUm {i:Nat} {x:Int} (hx:l[i]?=some x) :
  loop (λs:Int×List Int×Int=>jE lo (w:Int) x s.1 s.2.1 s.2.2) (((i * w:Nat):Int),ofN (by_ ((l.length * w+7) / 8) (V w (ds lo l) % 2 ^ (i * w))),0)
   = some ((((i+1) * w:Nat):Int),ofN (by_ ((l.length * w+7) / 8) (V w (ds lo l) % 2 ^ ((i+1) * w)))):=by
 have g:=(List.getElem?_eq_some_iff.1 hx).1;have:=jJ (b:=λs:Int×List Int×Int=>jE lo (w:Int) x s.1 s.2.1 s.2.2) (λk=>(((i * w+k:Nat):Int),ofN (by_ ((l.length * w+7) / 8) (V w (ds lo l) % 2 ^ (i * w+k))),(k:Int))) (t:=((((i+1) * w:Nat):Int),ofN (by_ ((l.length * w+7) / 8) (V w (ds lo l) % 2 ^ ((i+1) * w))))) w (λk hk=>by
  obtain⟨h,q,c⟩:=bCh hl hw g hk;obtain⟨j,d,m⟩:=bAo hi hlo hle hw hL hx hk;show jE lo (w:Int) x ((i * w+k:Nat):Int) (ofN (by_ ((l.length * w+7) / 8) (V w (ds lo l) % 2 ^ (i * w+k)))) (k:Int)=_;have e:=aW2 (v:=V w (ds lo l)) c;have f:V w (ds lo l) % 2 ^ (i * w+k) / 2 ^ (8 * ((i * w+k) / 8)) % 256<2 ^ ((i * w+k) % 8):=by
   have:=(aGc (V w (ds lo l)) (i * w+k) 8 (by decide)).2
   rwa [Nat.mul_comm ((i * w+k) / 8) 8] at this
  rw [show i * w+(k+1)=i * w+k+1 by omega];generalize i * w+k=a at h c d e f ⊢;have o:=aXx (aIo (v:=V w (ds lo l) % 2 ^ a) c);unfold jE;rw [if_pos (by simp only [decide_eq_true_eq];omega),lt_,show ((a:Nat):Int).tdiv 8=((a / 8:Nat):Int) from rfl,w64 (n:=((a / 8:Nat):Int)) (by omega) (by omega),bA rfl o];simp only [bHp,lt_];rw [bH (by omega),j,show ((a:Nat):Int).tmod 8=((a % 8:Nat):Int) from rfl,bH (by omega)];have p:aB7 .u64 (((x - lo).toNat / 2 ^ k:Nat):Int) 1=((bt (V w (ds lo l)) a:Nat):Int):=by have:=aJb (a:=(x - lo).toNat / 2 ^ k) (b:=1) m (by omega);rw [show ((1:Nat):Int)=1 from rfl] at this;rw [this,aT9,d]
  have hb:=aRe (V w (ds lo l)) a;have r:2 ^ (a % 8)<=2 ^ 7:=Nat.pow_le_pow_right (by decide) (by omega);have u:bt (V w (ds lo l)) a * 2 ^ (a % 8)<=1 * 2 ^ (a % 8):=Nat.mul_le_mul_right _ (by omega);have hm:bt (V w (ds lo l)) a * 2 ^ (a % 8) % 256=bt (V w (ds lo l)) a * 2 ^ (a % 8):=Nat.mod_eq_of_lt (by omega);rw [p,u8w (by omega) (by omega),aXt _ _ (by omega),hm,aVa (by omega) (by omega),aCb f,w64 (by omega) (by omega),w64 (by omega) (by omega),Int.toNat_natCast,e];rfl) (by
  show jE lo (w:Int) x ((i * w+w:Nat):Int) (ofN (by_ ((l.length * w+7) / 8) (V w (ds lo l) % 2 ^ (i * w+w)))) (w:Int)=_;unfold jE;rw [if_neg (by simp),show i * w+w=(i+1) * w by rw [Nat.add_mul,Nat.one_mul]])
 simpa using this
theorem aW5:loop (λs:Int×List Int×Int=>jD l lo (w:Int) s.1 s.2.1 s.2.2) (0,List.replicate ((l.length * w+7) / 8) 0,0)=some (ofN (by_ ((l.length * w+7) / 8) (V w (ds lo l)))):=by
 have:=jJ (b:=λs:Int×List Int×Int=>jD l lo (w:Int) s.1 s.2.1 s.2.2) (λi=>(((i * w:Nat):Int),ofN (by_ ((l.length * w+7) / 8) (V w (ds lo l) % 2 ^ (i * w))),(i:Int))) (t:=ofN (by_ ((l.length * w+7) / 8) (V w (ds lo l)))) l.length (λi c=>by
  have hx:=List.getElem?_eq_getElem c;show jD l lo (w:Int) ((i * w:Nat):Int) (ofN (by_ ((l.length * w+7) / 8) (V w (ds lo l) % 2 ^ (i * w)))) (i:Int)=_;unfold jD;rw [if_pos (by simp only [decide_eq_true_eq];omega),bA rfl hx];simp only [bHp];rw [aUm hl hi hlo hle hw hL hx];simp only [bHp];unfold sT vW;rw [lt_,w64 (by omega) (by omega)];rfl) (by
  show jD l lo (w:Int) ((l.length * w:Nat):Int) (ofN (by_ ((l.length * w+7) / 8) (V w (ds lo l) % 2 ^ (l.length * w)))) (l.length:Int)=_;unfold jD;have a:=aWx hL;rw [wY] at a;rw [if_neg (by simp),Nat.mod_eq_of_lt a])
 have e0:ofN (by_ ((l.length * w+7) / 8) (V w (ds lo l) % 2 ^ (0 * w)))=List.replicate ((l.length * w+7) / 8) 0:=by rw [Nat.zero_mul,Nat.pow_zero,Nat.mod_one];unfold ofN by_;rw [List.map_map,List.eq_replicate_iff];refine⟨by simp,λb hb=>?_⟩;obtain⟨j,_,rfl⟩:=List.mem_map.1 hb;simp
 rw [e0] at this;simpa using this
end
section
variable {l:List Int} {lo:Int} {w:Nat} (hl:l.length<=4096) (hi:I64 l) (hlo:i64 lo) (hle:∀ x∈l,lo<=x) (hw:w<=64) (hL:Lt w (ds lo l)) {pre:List Int} (hp:pre.length<=100)
include hl hi hlo hle hw hL hp
end
theorem aW6 {x:Int} {l:List Int} (hl:(x::l).length<=4096):jM (x::l)=some (mn x l):=by
 simp only [List.length_cons] at hl;unfold jM;rw [if_neg (by simp only [decide_eq_true_eq,List.length_cons];omega),show at_ (x::l) 0=some x from rfl];simp only [bHp];have:=jJ (b:=λs:Int×Int=>dD (x::l) s.1 s.2) (λk=>(mn x (l.take k),((k+1:Nat):Int))) (t:=mn x l) l.length (λk hk=>by
  have hx:=List.getElem?_eq_getElem hk;show dD (x::l) (mn x (l.take k)) ((k+1:Nat):Int)=_;unfold dD;rw [if_pos (by simp only [decide_eq_true_eq,List.length_cons];omega),bA rfl (by rw [List.getElem?_cons_succ];exact hx)];simp only [bHp,lt_];rw [w64 (by omega) (by omega),vC hx,aRz];rfl) (by
  show dD (x::l) (mn x (l.take l.length)) ((l.length+1:Nat):Int)=_;unfold dD;rw [if_neg (by simp),List.take_length])
 rw [show ((x,1):Int×Int)=(λk=>(mn x (l.take k),((k+1:Nat):Int))) 0 from rfl,this];rfl
section
variable {l:List Int} {lo:Int} (hl:l.length<=4096) (hi:I64 l) (hlo:i64 lo) (hle:∀ x∈l,lo<=x)
include hl hi hlo hle
omit hl in
theorem bCp:∀ d∈ds lo l,bl d<=64:=by intro d hd;obtain⟨x,hx,rfl⟩:=List.mem_map.1 hd;exact aY7 64 _ (bAr (hi x hx) hlo (hle x hx)).2
omit hl in
theorem aNh (k:Nat):wdt ((ds lo l).take k)<=64:=aWk 64 _ _ rfl λd hd=>bCp hi hlo hle d (List.mem_of_mem_take hd)
theorem aW7:loop (λs:Int×Int=>jF l lo s.1 s.2) (0,0)=some (wdt (ds lo l):Int):=by
 have:=jJ (b:=λs:Int×Int=>jF l lo s.1 s.2) (λk=>((wdt ((ds lo l).take k):Int),(k:Int))) (t:=(wdt (ds lo l):Int)) l.length (λk hk=>by
  have hx:=List.getElem?_eq_getElem hk;obtain⟨e,e'⟩:=bAr (hi.get hx) hlo (hle _ (List.mem_of_getElem? hx));show jF l lo (wdt ((ds lo l).take k):Int) (k:Int)=_;unfold jF;rw [if_pos (by simp only [decide_eq_true_eq];omega),bA rfl hx];simp only [bHp,lt_];rw [e,bAi e'];simp only [bHp];rw [w64 (by omega) (by omega),List.take_add_one (i:=k),aP2 hx];show some (Sum.inl _)=some (Sum.inl (((wdt ((ds lo l).take k++[(l[k] - lo).toNat]):Nat):Int),((k+1:Nat):Int)));rw [aJ9];congr 3;split <;> split <;> omega) (by
  show jF l lo (wdt ((ds lo l).take l.length):Int) (l.length:Int)=_;unfold jF;rw [if_neg (by simp),List.take_of_length_le (by rw [wY];exact Nat.le_refl _)])
 simpa [wdt] using this
end
theorem aMw {x:Int} {l:List Int}:∀ y∈x::l,mn x l<=y:=λy a=>by
 rcases List.mem_cons.1 a with rfl | h
 ·exact (aVh l y).1
 ·exact (aVh l x).2 y h
theorem bF4 {l pre:List Int} (hl:l.length<=4096) (hi:I64 l) (hp:pre.length<=20):uW pre l=some (pre++pk l):=by
 cases l with
 | nil=>simp [uW,pk]
 | cons x l =>
  have hlo:=aMx hi;have hle:=aMw (x:=x) (l:=l);unfold uW;rw [if_neg (by simp;omega),aW6 hl];simp only [bHp];rw [aW7 hl hi hlo hle];simp only [bHp];have hw:wdt (ds (mn x l) (x::l))<=64:=by
   have:=aNh hi hlo hle (x::l).length
   rwa [List.take_of_length_le (by rw [wY];exact Nat.le_refl _)] at this
  have hL:=aT2 (ds (mn x l) (x::l));have hz:=aP (yD hlo);simp only [pk];generalize wdt (ds (mn x l) (x::l))=w at hw hL ⊢;have a:(x::l).length * w<=4096 * 64:=Nat.mul_le_mul hl hw;unfold sU vU;rw [aAq hlo _ (by omega)];simp only [bHp,lt_];rw [u8w (n:=(w:Int)) (by omega) (by omega),bH (by simp only [List.length_append,List.length_singleton];omega), ← Int.natCast_mul,w64 (n:=(((x::l).length * w:Nat):Int)) (by omega) (by omega),w64 (n:=(((x::l).length * w:Nat):Int)+7) (by omega) (by omega),
   show ((((x::l).length * w:Nat):Int)+7).tdiv 8=((((x::l).length * w+7) / 8:Nat):Int) from rfl,w64 (by omega) (by omega),bH (by omega),Int.toNat_natCast,aW5 hl hi hlo hle hw hL]
  simp only [bHp];unfold sS vV;rw [bH (by simp only [List.length_append,List.length_singleton,aFc,uU];omega)];simp
theorem bAf {w:Nat} {l:List Int} (hw:w<4) (hl:l.length<=4096) (hi:I64 l):wS (w:Int) l=some (asL w l):=by
 have hu:=aP (n:=l.length) (by omega);unfold wS;rw [lt_,nD (by omega) (by omega),tV _ _ (by omega) (by simp;omega)];simp only [bHp];have hp:([(w:Int)]++uv l.length).length<=20:=by simp;omega
 unfold asL
 match w,hw with
 | 0,_ =>
  rw [if_pos (by rfl),bF1 hl hi hp];simp [vN,yS,jB,body]
 | 1,_ =>
  rw [if_neg (by decide),if_pos (by rfl),bF2 hl hp];simp [vO,yT,jB,body]
 | 2,_ =>
  rw [if_neg (by decide),if_neg (by decide),if_pos (by rfl),bF3 hl hi hp];simp [vP,yU,jB,body]
 | 3,_ =>
  rw [if_neg (by decide),if_neg (by decide),if_neg (by decide),if_pos (by rfl),bF4 hl hi hp];simp [jB,body]
def jL (a b:List Int):List Int:=if b.length<a.length then b else a
def gO (l:List Int):List Int:=jL (jL (jL (asL 0 l) (asL 1 l)) (asL 2 l)) (asL 3 l)
theorem aC2 {l:List Int} (hl:l.length<=4096) (hi:I64 l):nV l=some (gO l):=by
 have hA:∀ w:Nat,w<4->wS (w:Int) l=some (asL w l):=λw hw=>bAf hw hl hi;unfold gO;unfold nV;obtain⟨p,hp⟩:∃ p:Nat->List Int,∀ w,p w=asL w l:=⟨_,λ_=>rfl⟩;have step:∀ (b:List Int) (w:Nat),1<=w->w<4->gJ l b (w:Int)=some (.inl (jL b (p w),((w+1:Nat):Int))):=by
  intro b w c a;unfold gJ rX jL;rw [if_pos (by simp only [decide_eq_true_eq];omega),hA w a,hp];simp only [bHp,lt_];rw [u8w (by omega) (by omega)];by_cases h:(asL w l).length<b.length
  ·rw [if_pos (by simp only [decide_eq_true_eq];omega),if_pos h];rfl
  ·rw [if_neg (by simp only [decide_eq_true_eq];omega),if_neg h];rfl
 have h0:=hA 0 (by decide);rw [show ((0:Nat):Int)=0 from rfl] at h0;rw [h0, ← hp 0, ← hp 1, ← hp 2, ← hp 3];clear hA h0 hp;simp only [bHp];have a:∀ b,gJ l b ((4:Nat):Int)=some (.inr b):=by intro b;unfold gJ;rw [if_neg (by decide)]
 have:=((bZ (b:=λs:List Int×Int=>gJ l s.1 s.2) (s:=(p 0,((1:Nat):Int))) (step (p 0) 1 (by decide) (by decide))).trans
  ((bZ (b:=λs:List Int×Int=>gJ l s.1 s.2) (s:=(jL (p 0) (p 1),((2:Nat):Int))) (step _ 2 (by decide) (by decide))).trans
  ((bZ (b:=λs:List Int×Int=>gJ l s.1 s.2) (s:=(jL (jL (p 0) (p 1)) (p 2),((3:Nat):Int))) (step _ 3 (by decide) (by decide))).trans (bE (b:=λs:List Int×Int=>gJ l s.1 s.2) (s:=(jL (jL (jL (p 0) (p 1)) (p 2)) (p 3),((4:Nat):Int))) (a _)))))
 rw [show (1:Int)=((1:Nat):Int) from rfl,this];rfl
def aCm:Nat->List Int->Option (List Int×List Int)
 | 0,xs=>some ([],xs)
 | n+1,xs=>match pI xs with
  | some (x,r)=>match aCm n r with
   | some (l,r')=>some (x::l,r')
   | none=>none
  | none=>none
def pD:Int->Nat->List Int->Option (List Int×List Int)
 | _,0,xs=>some ([],xs)
 | a,n+1,xs=>match pI xs with
  | some (x,r)=>match pD (IntKind.i64.wrap (a+x)) n r with
   | some (l,r')=>some (IntKind.i64.wrap (a+x)::l,r')
   | none=>none
  | none=>none
def pR:Nat->Nat->List Int->Option (List Int×List Int)
 | 0,_,xs=>some ([],xs)
 | f+1,n,xs=>if n=0 then some ([],xs) else match pI xs with
  | some (x,r)=>match pU ((n - 1:Nat):Int) r with
   | some (k,r')=>match pR f (n - (k.toNat+1)) r' with
    | some (l,r'')=>some (List.replicate (k.toNat+1) x++l,r'')
    | none=>none
   | none=>none
  | none=>none
def toN (xs:List Int):List Nat:=xs.map Int.toNat
def part (n w v:Nat):List Int:=(List.range n).map λq=>IntKind.i64.wrap ((v / 2 ^ (q * w) % 2 ^ w:Nat):Int)
abbrev bI5:=(List Int×List Int)
def pP (n:Nat) (xs:List Int):Option bI5:=match pI xs with
 | some (lo,r)=>match pB r with
  | some (w,r')=>if w<=64/\r'.length=(n * w.toNat+7) / 8/\V 8 (toN r')<2 ^ (n * w.toNat) then some ((part n w.toNat (V 8 (toN r'))).map λx=>IntKind.i64.wrap (x+lo),[]) else none
  | none=>none
 | none=>none
def aK7 (w:Int) (n:Nat) (r:List Int):Option bI5:=if w=0 then aCm n r else if w=1 then pD 0 n r else if w=2 then pR n n r else if 0<n then pP n r else some ([],r)
def aHp (xs:List Int):Option bI5:=match pB xs with
 | some (w,r)=>if w<=3 then (match pU 4096 r with
  | some (n,r')=>aK7 w n.toNat r'
  | none=>none) else none
 | none=>none
theorem aZr {xs r:List Int} {b:Int} (hB:Bs xs) (h:pB xs=some (b,r)):(0<=b/\b<256)/\Bs r/\xs=b::r:=by
 cases xs with
 | nil=>cases h
 | cons c xs=>cases h;exact⟨hB.cons.1,hB.cons.2,rfl⟩
theorem aK3 (n:Nat) (hn:n<=4096):∀ (m k:Nat) (acc xs:List Int),Bs xs->k+m=n->acc.length=k ->
  ∃ y,loop (λs:List Int×List Int×Int=>dJ (n:Int) s.1 s.2.1 s.2.2) (xs,acc,(k:Int))=some y/\match aCm m xs with
   | some (l,r)=>y=.inl (r,acc++l)
   | none=>∃ s,y=.inr (.inr s)
 | 0,k,acc,xs,hB,hk,ha=>by refine⟨_,bE (t:=Sum.inl (xs,acc)) ?_,by simp [aCm]⟩;show dJ (n:Int) xs acc (k:Int)=_;unfold dJ;rw [if_neg (by simp only [decide_eq_true_eq];omega)]
 | m+1,k,acc,xs,hB,hk,ha=>by
  unfold aCm;rcases (aIl hB).cases with ⟨x,r,a,b⟩ | ⟨a,s,b⟩
  ·rw [a];obtain⟨y,c,hm⟩:=aK3 n hn m (k+1) (acc++[x]) r (aR2 hB a).1 (by omega) (by simp [ha]);refine⟨y,(bZ (s':=(r,acc++[x],((k+1:Nat):Int))) ?_).trans c,?_⟩
   ·show dJ (n:Int) xs acc (k:Int)=_;unfold dJ;rw [if_pos (by simp only [decide_eq_true_eq];omega),b];simp only [bHp,iC,lt_];rw [bH (by simp;omega),w64 (by omega) (by omega)];rfl
   ·simp only;revert hm;cases aCm m r with
    | none=>exact id
    | some q=>intro hm;simpa using hm
  ·rw [a];refine⟨_,bE (t:=Sum.inr (.inr s)) ?_,s,rfl⟩;show dJ (n:Int) xs acc (k:Int)=_;unfold dJ;rw [if_pos (by simp only [decide_eq_true_eq];omega),b];rfl
theorem aXu {n:Nat} (hn:n<=4096) {xs:List Int} (hB:Bs xs):IsR (nX (n:Int) ⟨xs⟩) (aCm n xs):=by
 obtain⟨y,a,hm⟩:=aK3 n hn n 0 [] xs hB (by omega) rfl;unfold nX;rw [show (0:Int)=((0:Nat):Int) from rfl,a];simp only [bHp];revert hm;cases aCm n xs with
 | none=>rintro⟨s,rfl⟩;exact⟨s,rfl⟩
 | some q=>intro hm;subst hm;rfl
theorem aRj (n:Nat) (hn:n<=4096):∀ (m k:Nat) (a:Int) (acc xs:List Int),Bs xs->k+m=n->acc.length=k ->
  ∃ y,loop (λs:List Int×List Int×Int×Int=>iB (n:Int) s.1 s.2.1 s.2.2.1 s.2.2.2) (xs,acc,a,(k:Int))=some y/\match pD a m xs with
   | some (l,r)=>y=.inl (r,acc++l)
   | none=>∃ s,y=.inr (.inr s)
 | 0,k,a,acc,xs,hB,hk,ha=>by refine⟨_,bE (t:=Sum.inl (xs,acc)) ?_,by simp [pD]⟩;show iB (n:Int) xs acc a (k:Int)=_;unfold iB;rw [if_neg (by simp only [decide_eq_true_eq];omega)]
 | m+1,k,a,acc,xs,hB,hk,ha=>by
  unfold pD;rcases (aIl hB).cases with ⟨x,r,b,c⟩ | ⟨b,s,c⟩
  ·rw [b];obtain⟨y,d,hm⟩:=aRj n hn m (k+1) (IntKind.i64.wrap (a+x)) (acc++[IntKind.i64.wrap (a+x)]) r (aR2 hB b).1 (by omega) (by simp [ha]);refine⟨y,(bZ (s':=(r,acc++[IntKind.i64.wrap (a+x)],IntKind.i64.wrap (a+x),((k+1:Nat):Int))) ?_).trans d,?_⟩
   ·show iB (n:Int) xs acc a (k:Int)=_;unfold iB;rw [if_pos (by simp only [decide_eq_true_eq];omega),c];simp only [bHp,iC,lt_];rw [bH (by simp;omega),w64 (n:=(k:Int)+1) (by omega) (by omega)];rfl
   ·simp only;revert hm;cases pD (IntKind.i64.wrap (a+x)) m r with
    | none=>exact id
    | some q=>intro hm;simpa using hm
  ·rw [b];refine⟨_,bE (t:=Sum.inr (.inr s)) ?_,s,rfl⟩;show iB (n:Int) xs acc a (k:Int)=_;unfold iB;rw [if_pos (by simp only [decide_eq_true_eq];omega),c];rfl
theorem aV5 (y:Int×S140) (k:Nat) (acc:List Int) (h:acc.length+k<=8192):loop (λs:List Int×Int=>jC y (k:Int) s.1 s.2) (acc,0)=some (acc++List.replicate k y.1):=by
 have:=jJ (b:=λs:List Int×Int=>jC y (k:Int) s.1 s.2) (λj=>(acc++List.replicate j y.1,(j:Int))) (t:=acc++List.replicate k y.1) k (λj a=>by
  show jC y (k:Int) (acc++List.replicate j y.1) (j:Int)=_;unfold jC;rw [if_pos (by simp only [decide_eq_true_eq];omega),bH (by simp;omega),lt_,nD (by omega) (by omega),List.replicate_succ',List.append_assoc];rfl) (by
  show jC y (k:Int) (acc++List.replicate k y.1) (k:Int)=_;unfold jC;rw [if_neg (by simp)])
 simpa using this
theorem aSa (n:Nat) (hn:n<=4096):∀ (f m:Nat) (acc xs:List Int),Bs xs->acc.length+m=n->m<=f ->
  ∃ y,loop (λs:List Int×List Int=>dX (n:Int) s.1 s.2) (xs,acc)=some y/\match pR f m xs with
   | some (l,r)=>y=.inl (r,acc++l)
   | none=>∃ s,y=.inr (.inr s)
 | 0,m,acc,xs,hB,hk,hf=>by refine⟨_,bE (t:=Sum.inl (xs,acc)) ?_,by simp [pR]⟩;show dX (n:Int) xs acc=_;unfold dX;rw [if_neg (by simp only [decide_eq_true_eq];omega)]
 | f+1,m,acc,xs,hB,hk,hf=>by
  unfold pR;by_cases g:m=0
  ·rw [if_pos g];refine⟨_,bE (t:=Sum.inl (xs,acc)) ?_,by simp⟩;show dX (n:Int) xs acc=_;unfold dX;rw [if_neg (by simp only [decide_eq_true_eq];omega)]
  ·rw [if_neg g];rcases (aIl hB).cases with ⟨x,r,b,d⟩ | ⟨b,s,d⟩
   ·rw [b];simp only;have h:=(aR2 hB b).1;have i:IntKind.u64.wrap (IntKind.i64.wrap (IntKind.i64.wrap ((n:Int) - (acc.length:Int)) - 1))=((m - 1:Nat):Int):=by rw [w64 (n:=(n:Int) - (acc.length:Int)) (by omega) (by omega),w64 (by omega) (by omega),nD (by omega) (by omega)];omega
    rcases (aDv ((m - 1:Nat):Int) h).cases with ⟨k,r',a,e⟩ | ⟨a,s,e⟩
    ·rw [a];simp only;obtain⟨o,p,u⟩:=(uK a).1;obtain⟨c,rfl⟩:∃ c:Nat,k=(c:Int):=⟨k.toNat,by omega⟩;rw [Int.toNat_natCast];obtain⟨y,j,hm⟩:=aSa n hn f (m - (c+1)) (acc++List.replicate (c+1) x) r' (aO1 h a) (by simp;omega) (by omega);refine⟨y,(bZ (s':=(r',acc++List.replicate (c+1) x)) ?_).trans j,?_⟩
     ·show dX (n:Int) xs acc=_;unfold dX;rw [if_pos (by simp only [decide_eq_true_eq];omega),d];simp only [bHp,iC,lt_];rw [i,e];simp only [bHp,iC];rw [nD (by omega) (by omega),show (1:Int)+(c:Int)=((c+1:Nat):Int) by omega,aV5 _ _ _ (by omega)];rfl
     ·revert hm;cases pR f (m - (c+1)) r' with
      | none=>exact id
      | some q=>intro hm;simpa using hm
    ·rw [a];refine⟨_,bE (t:=Sum.inr (.inr s)) ?_,s,rfl⟩;show dX (n:Int) xs acc=_;unfold dX;rw [if_pos (by simp only [decide_eq_true_eq];omega),d];simp only [bHp,iC,lt_];rw [i,e];rfl
   ·rw [b];refine⟨_,bE (t:=Sum.inr (.inr s)) ?_,s,rfl⟩;show dX (n:Int) xs acc=_;unfold dX;rw [if_pos (by simp only [decide_eq_true_eq];omega),d];rfl
theorem aYe {xs:List Int} (hB:Bs xs) {j:Nat} (h:j<xs.length):∃ b:Nat,xs[j]?=some (b:Int)/\(toN xs)[j]?=some b/\b<256:=by have hx:=List.getElem?_eq_getElem h;have:=hB _ (List.mem_of_getElem? hx);refine⟨xs[j].toNat,by rw [hx];congr 1;omega,by simp [toN,hx],by omega⟩
theorem bBw {xs:List Int} (hB:Bs xs):Lt 8 (toN xs):=by intro d hd;obtain⟨b,hb,rfl⟩:=List.mem_map.1 hd;have:=hB b hb;omega
theorem sG (n w v:Nat):(part n w v).length=n:=by simp [part]
theorem aGb {n w v q:Nat} (h:q<n):(part n w v)[q]?=some (IntKind.i64.wrap ((v / 2 ^ (q * w) % 2 ^ w:Nat):Int)):=by unfold part;rw [List.getElem?_map,List.getElem?_range h];rfl
theorem aRq {xs ys:List Int} (hl:xs.length=ys.length) (h:∀ j:Nat,j<xs.length->xs[j]?=ys[j]?):xs=ys:=by
 apply List.ext_getElem? λj=>?_;rcases Nat.lt_or_ge j xs.length with a | a
 ·exact h j a
 ·rw [List.getElem?_eq_none a,List.getElem?_eq_none (by omega)]
theorem aJo (a:Nat):BitVec.ofInt 64 (IntKind.i64.wrap (a:Int))=BitVec.ofNat 64 a:=by apply BitVec.eq_of_toNat_eq;rw [BitVec.toNat_ofInt,BitVec.toNat_ofNat,IntWalk.i64_left];unfold wrap64;omega
theorem aVb (a b:Nat) (c:a<18446744073709551616) (hb:b<18446744073709551616):ior .i64 (IntKind.i64.wrap (a:Int)) (IntKind.i64.wrap (b:Int))=IntKind.i64.wrap ((a ||| b:Nat):Int):=by show IntKind.i64.wrap (((BitVec.ofInt 64 (IntKind.i64.wrap (a:Int)) ||| BitVec.ofInt 64 (IntKind.i64.wrap (b:Int))).toNat:Nat):Int)=_;rw [aJo,aJo,BitVec.toNat_or,BitVec.toNat_ofNat,BitVec.toNat_ofNat,Nat.mod_eq_of_lt (show a<2 ^ 64 by omega),Nat.mod_eq_of_lt (show b<2 ^ 64 by omega)]
theorem aTg {n w v i:Nat} (hw:0<w) (h:i / w<n):(part n w (v % 2 ^ i)).set (i / w) (IntKind.i64.wrap ((v % 2 ^ i / 2 ^ (i / w * w) % 2 ^ w+bt v i * 2 ^ (i % w):Nat):Int))=part n w (v % 2 ^ (i+1)):=by
 refine aRq (by simp [sG]) λj a=>?_;rw [List.length_set,sG] at a;rw [aGb a];by_cases e:i / w=j
 ·subst e;rw [List.getElem?_set_self (by rw [sG];exact a),(aGc v i w hw).1]
 ·rw [List.getElem?_set_ne e,aGb a,aLa v i j w hw (Ne.symm e)]
theorem aPh {n w:Nat} (hn:n<=4096) (hw:w<=64) {xs:List Int} (hB:Bs xs) (hlen:xs.length=(n * w+7) / 8) :
  ∃ y,loop (λs:List Int×List Int×Int=>iK (n:Int) (w:Int) ((8 * xs.length:Nat):Int) s.1 s.2.1 s.2.2) (xs,List.replicate n 0,0)=some y /\
   ((V 8 (toN xs)<2 ^ (n * w)/\y=.inl (xs,part n w (V 8 (toN xs))))\/(¬ V 8 (toN xs)<2 ^ (n * w)/\∃ s,y=.inr (.inr s))):=by
 have H:n * w<=4096 * 64:=Nat.mul_le_mul hn hw;have hL:=bBw hB;have m:V 8 (toN xs)<2 ^ (8 * xs.length):=by have:=aWx hL;rw [show (toN xs).length=xs.length by simp [toN],Nat.mul_comm] at this;exact this
 obtain⟨v,e⟩:∃ v,v=V 8 (toN xs):=⟨_,rfl⟩;have x:∀ j t b,(toN xs)[j]?=some b->t<8->bt v (j * 8+t)=bt b t:=λj t b hb ht=>by rw [e];exact bCj hL hb ht
 rw [← e] at m ⊢;clear e hL;refine aEa (b:=λs:List Int×List Int×Int=>iK (n:Int) (w:Int) ((8 * xs.length:Nat):Int) s.1 s.2.1 s.2.2) (s:=(xs,List.replicate n 0,0))
  (λs=>∃ i:Nat,s=(xs,part n w (v % 2 ^ i),(i:Int))/\i<=8 * xs.length/\(n * w<=i->v % 2 ^ i<2 ^ (n * w))) (λs=>(((8 * xs.length:Nat):Int) - s.2.2).toNat)
  (λy=>(v<2 ^ (n * w)/\y=.inl (xs,part n w v))\/(¬ v<2 ^ (n * w)/\∃ s,y=.inr (.inr s))) ⟨0,?_,by omega,λ_=>by rw [Nat.pow_zero,Nat.mod_one];exact Nat.two_pow_pos _⟩ ?_
 ·rw [Nat.pow_zero,Nat.mod_one,show part n w 0=List.replicate n 0 by
   unfold part;rw [List.eq_replicate_iff];refine⟨by simp,λb hb=>?_⟩;obtain⟨q,_,rfl⟩:=List.mem_map.1 hb;simp;rfl]
  rfl
 ·rintro s ⟨i,rfl,I,hz⟩;show (∃ s',iK (n:Int) (w:Int) ((8 * xs.length:Nat):Int) xs (part n w (v % 2 ^ i)) (i:Int)=some (.inl s')/\_)\/∃ t,iK (n:Int) (w:Int) ((8 * xs.length:Nat):Int) xs (part n w (v % 2 ^ i)) (i:Int)=some (.inr t)/\_;unfold iK;by_cases J:i<8 * xs.length
  ·obtain⟨b,z,A,K⟩:=aYe hB (j:=i / 8) (by omega);have o:=x (i / 8) (i % 8) b A (by omega);rw [show i / 8 * 8+i % 8=i by omega] at o;have hb:=aRe v i;have B:oG .u8 (b:Int) ((i % 8:Nat):Int)=((b / 2 ^ (i % 8):Nat):Int):=lD (k:=.u8) b (i % 8) (by show _<=8;omega);have e0:b / 2 ^ (i % 8)<=b:=Nat.div_le_self _ _;have C:aB7 .u64 ((b / 2 ^ (i % 8):Nat):Int) 1=((bt v i:Nat):Int):=by have:=aJb (a:=b / 2 ^ (i % 8)) (b:=1) (by omega) (by omega);rw [show ((1:Nat):Int)=1 from rfl] at this;rw [this,aT9,o];rfl
   rw [if_pos (by simp only [decide_eq_true_eq];omega),lt_,show (i:Int).tdiv 8=((i / 8:Nat):Int) from rfl,w64 (by omega) (by omega),bA rfl z];simp only [bHp,lt_];rw [show (i:Int).tmod 8=((i % 8:Nat):Int) from rfl,bH (by omega),B,nD (Int.natCast_nonneg _) (by omega),C, ← Int.natCast_mul,w64 (n:=((n * w:Nat):Int)) (by omega) (by omega)];by_cases f:i<n * w
   ·
    have c:0<w:=by rcases Nat.eq_zero_or_pos w with h | h;rw [h] at f;simp at f;exact h
    have p:i / w<n:=(Nat.div_lt_iff_lt_mul c).2 f;have hk:i % w<w:=Nat.mod_lt _ c;rw [if_neg (by simp only [decide_eq_true_eq];omega),bH (by omega),show (i:Int).tdiv (w:Int)=((i / w:Nat):Int) from rfl,w64 (n:=((i / w:Nat):Int)) (Int.le_trans (by decide) (Int.natCast_nonneg _)) (by omega),bA rfl (aGb p)];simp only [bHp];obtain⟨L,D⟩:=aGc v i w c;have E:=aTg (v:=v) c p;have hp:2 ^ (i % w)<=2 ^ 63:=Nat.pow_le_pow_right (by decide) (by omega);have M:bt v i * 2 ^ (i % w)<=1 * 2 ^ (i % w):=Nat.mul_le_mul_right _ (by omega);have hm:bt v i * 2 ^ (i % w) % 18446744073709551616=bt v i * 2 ^ (i % w):=Nat.mod_eq_of_lt (by omega);rw [bH (by omega),show (i:Int).tmod (w:Int)=((i % w:Nat):Int) from rfl,bH (by omega),aOs _ _ (by omega),hm,aVb _ _ (by omega) (by omega),aCb D,Int.toNat_natCast,E];unfold mI;rw [lt_,w64 (n:=(i:Int)+1) (by omega) (by omega)];exact .inl ⟨_,rfl,⟨i+1,rfl,by omega,λh=>by
     have g:v % 2 ^ (i+1)<2 ^ (i+1):=Nat.mod_lt _ (Nat.two_pow_pos _);have F:i+1=n * w:=by omega
     rw [F] at g ⊢;exact g⟩,by simp only;omega⟩
   ·rw [if_pos (by simp only [decide_eq_true_eq];omega)];have l:=aJk v i;by_cases r:bt v i=0
    ·rw [r,show (((0:Nat):Int)==0)=true from rfl,mV];simp only [bHp,iC];unfold mI;rw [lt_,w64 (n:=(i:Int)+1) (by omega) (by omega)];rw [r,Nat.zero_mul,Nat.add_zero] at l;exact .inl ⟨_,rfl,⟨i+1,by rw [l];rfl,by omega,λ_=>by rw [l];exact hz (by omega)⟩,by simp only;omega⟩
    ·have d:bt v i=1:=by omega
     rw [d,show (((1:Nat):Int)==0)=false from rfl,sM];refine .inr ⟨_,rfl,.inr ⟨λN=>?_,_,rfl⟩⟩;have g:2 ^ (n * w)<=2 ^ i:=Nat.pow_le_pow_right (by decide) (by omega);unfold bt at d;rw [Nat.div_eq_of_lt (by omega)] at d;cases d
  ·have G:i=8 * xs.length:=by omega
   rw [if_neg (by simp only [decide_eq_true_eq];omega)];have u:v % 2 ^ i=v:=Nat.mod_eq_of_lt (by rw [G];exact m);rw [u];refine .inr ⟨_,rfl,.inl ⟨?_,rfl⟩⟩;have:=hz (by omega)
   rwa [u] at this
theorem aQ0 (lo:Int) (y:Int×S140) (a:y.1=lo) (L:List Int) (h:L.length<=4096):loop (λs:List Int×Int=>gR y L s.1 s.2) (L,0)=some (L.map λx=>IntKind.i64.wrap (x+lo)):=by
 have:=jJ (b:=λs:List Int×Int=>gR y L s.1 s.2) (λk=>((L.take k).map (λx=>IntKind.i64.wrap (x+lo))++L.drop k,(k:Int))) (t:=L.map λx=>IntKind.i64.wrap (x+lo)) L.length (λk hk=>by
  have hx:=List.getElem?_eq_getElem hk;have hd:L.drop k=L[k]::L.drop (k+1):=List.drop_eq_getElem_cons hk;have hlen:((L.take k).map (λx=>IntKind.i64.wrap (x+lo))).length=k:=by simp;omega
  show gR y L ((L.take k).map (λx=>IntKind.i64.wrap (x+lo))++L.drop k) (k:Int)=_;unfold gR;rw [if_pos (by simp only [decide_eq_true_eq];omega),bA (n:=k) (x:=L[k]) rfl (by rw [List.getElem?_append_right (by omega),hlen,Nat.sub_self,hd];rfl)];simp only [bHp,lt_];rw [a,w64 (n:=(k:Int)+1) (by omega) (by omega),Int.toNat_natCast,vC hx,List.map_append,List.append_assoc,List.set_append_right _ _ (by omega),hlen,Nat.sub_self,hd];rfl) (by
  show gR y L _ (L.length:Int)=_;unfold gR;rw [if_neg (by simp),List.take_length,List.drop_length,List.append_nil])
 simpa using this
theorem aTu {n:Nat} (hn:n<=4096) {xs:List Int} (hB:Bs xs) (hl:xs.length<1099511627776):IsR (tW ⟨xs⟩ (n:Int)) (pP n xs):=by
 unfold tW pP;rcases (aIl hB).cases with ⟨lo,r,a,c⟩ | ⟨a,s,c⟩
 ·rw [a,c];obtain⟨f,hlo,p,hp,_⟩:=aR2 hB a;have k:r.length<=xs.length:=by rw [hp];simp
  simp only [bHp,iC];rcases (IsR.cases (aLy r)) with ⟨wb,r',b,d⟩ | ⟨b,s,d⟩
  ·rw [b,d];obtain⟨l,g,h⟩:=aZr f b;have m:r'.length<=r.length:=by rw [h];simp
   obtain⟨w,rfl⟩:∃ w:Nat,wb=(w:Int):=⟨wb.toNat,by omega⟩;simp only [bHp,iC,lt_,Int.toNat_natCast];rw [w64 (n:=(w:Int)) (by omega) (by omega)];by_cases hw:w<=64
   ·have o:n * w<=4096 * 64:=Nat.mul_le_mul hn hw;rw [if_pos (by simp only [decide_eq_true_eq];omega), ← Int.natCast_mul,w64 (n:=((n * w:Nat):Int)) (by omega) (by omega),w64 (n:=((n * w:Nat):Int)+7) (by omega) (by omega),
     show (((n * w:Nat):Int)+7).tdiv 8=(((n * w+7) / 8:Nat):Int) from rfl,w64 (by omega) (by omega)]
    by_cases hlen:r'.length=(n * w+7) / 8
    ·rw [show ((r'.length:Int)==(((n * w+7) / 8:Nat):Int))=true by rw [hlen];simp,mV];simp only [bHp,iC];unfold pG;rw [bH (by omega),lt_,w64 (by omega) (by omega),Int.toNat_natCast];obtain⟨y,i,j⟩:=aPh hn hw g hlen;rw [show (8:Int) * (r'.length:Int)=((8 * r'.length:Nat):Int) by omega,i];simp only [bHp];rcases j with ⟨e,rfl⟩ | ⟨e,s,rfl⟩
     ·rw [if_pos ⟨by omega,hlen,e⟩];simp only;unfold qH sV;rw [aQ0 lo _ rfl _ (by rw [sG];exact hn)];rfl
     ·rw [if_neg (λq=>e q.2.2)];exact⟨s,rfl⟩
    ·rw [show ((r'.length:Int)==(((n * w+7) / 8:Nat):Int))=false by simp;omega,sM,if_neg (λq=>hlen q.2.1)];exact⟨_,rfl⟩
   ·rw [if_neg (by simp only [decide_eq_true_eq];omega),sM,if_neg (λq=>hw (by omega))];exact⟨_,rfl⟩
  ·rw [b,d];exact⟨s,rfl⟩
 ·rw [a,c];exact⟨s,rfl⟩
theorem aRx {xs:List Int} (hB:Bs xs) (hl:xs.length<1099511627776):IsR (uV ⟨xs⟩) (aHp xs):=by
 unfold uV aHp;rcases (IsR.cases (aLy xs)) with ⟨w,r,d,k⟩ | ⟨d,s,k⟩
 ·rw [d,k];obtain⟨hw,t,hr⟩:=aZr hB d;have x:r.length<=xs.length:=by rw [hr];simp
  simp only [bHp,iC];by_cases e:w<=3
  ·rw [show decide (w<=3)=true by simpa using e,mV,if_pos e];simp only [bHp,iC];rcases (aDv 4096 t).cases with ⟨n,r',c,o⟩ | ⟨c,s,o⟩
   ·rw [c,o];obtain⟨⟨z,A,B⟩,p,hp,_⟩:=uK c;have f:=aO1 t c;have C:r'.length<=r.length:=by rw [hp];simp
    obtain⟨n,rfl⟩:∃ m:Nat,n=(m:Int):=⟨n.toNat,by omega⟩;simp only [bHp,iC,lt_,Int.toNat_natCast];rw [w64 (by omega) (by omega)];unfold aK7;by_cases g:w=0
    ·rw [if_pos (by simpa using g),if_pos g];rcases (aXu (n:=n) (by omega) f).cases with ⟨l,v,a,b⟩ | ⟨a,s,b⟩
     ·rw [a,b];rfl
     ·rw [a,b];exact⟨s,rfl⟩
    rw [if_neg (by simpa using g),if_neg g];by_cases h:w=1
    ·rw [if_pos (by simpa using h),if_pos h];obtain⟨y,i,hm⟩:=aRj n (by omega) n 0 0 [] r' f (by omega) rfl;rw [show ((0:Nat):Int)=0 from rfl] at i;rw [i];revert hm;cases pD 0 n r' with
     | none=>rintro⟨s,rfl⟩;exact⟨s,rfl⟩
     | some q=>intro hm;subst hm;rfl
    rw [if_neg (by simpa using h),if_neg h];by_cases j:w=2
    ·rw [if_pos (by simpa using j),if_pos j];obtain⟨y,i,hm⟩:=aSa n (by omega) n n [] r' f (by simp) (Nat.le_refl _);rw [i];revert hm;cases pR n n r' with
     | none=>rintro⟨s,rfl⟩;exact⟨s,rfl⟩
     | some q=>intro hm;subst hm;rfl
    rw [if_neg (by simpa using j),if_neg j,if_pos (by simp;omega)];by_cases u:0<n
    ·rw [if_pos (by simp only [decide_eq_true_eq];omega),if_pos u];rcases (aTu (n:=n) (by omega) f (by omega)).cases with ⟨l,v,a,b⟩ | ⟨a,s,b⟩
     ·rw [a,b];rfl
     ·rw [a,b];exact⟨s,rfl⟩
    ·rw [if_neg (by simp only [decide_eq_true_eq];omega),if_neg u];rfl
   ·rw [c,o];exact⟨s,rfl⟩
  ·rw [show decide (w<=3)=false by simpa using e,sM,if_neg e];exact⟨_,rfl⟩
 ·rw [d,k];exact⟨s,rfl⟩
def wO (xs:List Int):Option (List Int):=match aHp xs with
 | some (l,[])=>some l
 | _=>none
theorem yR {xs:List Int} (hB:Bs xs) (hl:xs.length<1099511627776):jO xs=some (match wO xs with | some l=>(l,0) | none=>([],3)):=by
 unfold jO rG rN wO;rcases (aRx hB hl).cases with ⟨l,r,a,c⟩ | ⟨a,s,c⟩
 ·rw [a,c];simp only [bHp,iC];cases r with
  | nil=>rfl
  | cons b r=>rfl
 ·rw [a,c];rfl
theorem aO0:∀ (l r:List Int),I64 l->aCm l.length (b0 l++r)=some (l,r)
 | [],r,_=>rfl
 | x::l,r,h=>by
  have e:b0 (x::l)++r=uv (zz x)++(b0 l++r):=by simp [b0]
  rw [e,List.length_cons,aCm,aOz (h x List.mem_cons_self)];simp only;rw [aO0 l r λy a=>h y (List.mem_cons_of_mem _ a)]
theorem aTx (a x:Int) (h:i64 x):IntKind.i64.wrap (a+IntKind.i64.wrap (x - a))=x:=by unfold i64 at h;rw [IntWalk.i64_left,IntWalk.i64_left];unfold wrap64;omega
theorem aZs:∀ (l r:List Int) (a:Int),I64 l->pD a l.length (bD a l++r)=some (l,r)
 | [],r,a,_=>rfl
 | x::l,r,a,h=>by rw [bD,List.length_cons,pD,List.append_assoc,aOz (aC6 _)];simp only;rw [aTx a x (h x List.mem_cons_self),aZs l r x λy b=>h y (List.mem_cons_of_mem _ b)]
theorem aZt:∀ (f:Nat) (l r:List Int),I64 l->l.length<=f->l.length<=4096->pR f l.length (bR 0 l++r)=some (l,r)
 | 0,l,r,_,hf,_=>by have:l=[]:=List.eq_nil_of_length_eq_zero (by omega);subst this;rfl
 | f+1,[],r,_,_,_=>rfl
 | f+1,x::l,r,h,hf,hl=>by
  obtain⟨m,tl,hm,a⟩:=aG8 x l;subst hm;have hlen:(x::(List.replicate m x++tl)).length=m+1+tl.length:=by simp;omega
  rw [hlen] at hf hl ⊢;rw [pR,if_neg (by omega),aPu x tl a m 0,Nat.zero_add,List.append_assoc,List.append_assoc,aOz (h x List.mem_cons_self)];simp only;rw [aJs (by omega) _ (by omega)];simp only [Int.toNat_natCast];rw [show m+1+tl.length - (m+1)=tl.length by omega,aZt f tl r (λy b=>h y (List.mem_cons_of_mem _ (List.mem_append.2 (.inr b)))) (by omega) (by omega)];simp only [List.replicate_succ,List.cons_append]
theorem aYf (D:List Nat):toN (ofN D)=D:=by
 unfold toN ofN;rw [List.map_map];have:(Int.toNat ∘ λ(n:Nat)=>(n:Int))=id:=by funext n;simp
 rw [this,List.map_id]
theorem aX1 {x lo:Int} (hm:i64 x) (hlo:i64 lo) (h:lo<=x):IntKind.i64.wrap (IntKind.i64.wrap (((x - lo).toNat:Nat):Int)+lo)=x:=by unfold i64 at hm hlo;rw [IntWalk.i64_left,IntWalk.i64_left];unfold wrap64;omega
theorem bAm {n w:Nat} {D:List Nat} (b:V w D<2 ^ (n * w)):V 8 (by_ ((n * w+7) / 8) (V w D))=V w D:=by refine bCf _ _ (Nat.lt_of_lt_of_le b (Nat.pow_le_pow_right (by decide) ?_));generalize n * w=a;omega
theorem bEe {x:Int} {l:List Int} (hl:(x::l).length<=4096) (hi:I64 (x::l)):pP (x::l).length (pk (x::l))=some (x::l,[]):=by
 have hlo:=aMx hi;have hle:=aMw (x:=x) (l:=l);have hw:wdt (ds (mn x l) (x::l))<=64:=by
  have:=aNh hi hlo hle (x::l).length
  rwa [List.take_of_length_le (by rw [wY];exact Nat.le_refl _)] at this
 have hL:=aT2 (ds (mn x l) (x::l));have a:=aWx hL;rw [wY] at a;unfold pP;simp only [pk];generalize wdt (ds (mn x l) (x::l))=w at hw hL a ⊢;rw [List.append_assoc,aOz hlo];simp only [List.singleton_append,pB,Int.toNat_natCast];have c:=bAm a;rw [aYf,c,if_pos ⟨by omega,by rw [aFc,uU],a⟩];congr 2;refine aRq (by simp [sG]) λj b=>?_;rw [List.length_map,sG] at b;have hx:=List.getElem?_eq_getElem b;have hm:=hi.get hx;have d:=hle _ (List.mem_of_getElem? hx);rw [List.getElem?_map,aGb b,aY6 hL (aP2 hx),hx];simp only [Option.map_some,Option.some.injEq];exact aX1 hm hlo d
theorem aX4 {w:Nat} {l:List Int} (hw:w<4) (hl:l.length<=4096) (hi:I64 l):wO (asL w l)=some l:=by
 unfold wO aHp asL;simp only [pB];rw [if_pos (by omega),aJs (by omega) _ (by omega)];simp only [Int.toNat_natCast];have key:aK7 (w:Int) l.length (body w l)=some (l,[]):=by
  unfold aK7
  match w,hw with
  | 0,_ =>
   rw [if_pos (by rfl)];have:=aO0 l [] hi
   rwa [List.append_nil] at this
  | 1,_ =>
   rw [if_neg (by decide),if_pos (by rfl)];have:=aZs l [] 0 hi
   rwa [List.append_nil] at this
  | 2,_ =>
   rw [if_neg (by decide),if_neg (by decide),if_pos (by rfl)];have:=aZt l.length l [] hi (Nat.le_refl _) hl
   rwa [List.append_nil] at this
  | 3,_ =>
   rw [if_neg (by decide),if_neg (by decide),if_neg (by decide)];cases l with
   | nil=>rfl
   | cons x l=>rw [if_pos (by simp)];exact bEe hl hi
 rw [key]
theorem aFh (a b:List Int):jL a b=a\/jL a b=b:=by
 unfold jL;split
 ·exact .inr rfl
 ·exact .inl rfl
theorem aFg (a b:List Int):(jL a b).length<=a.length/\(jL a b).length<=b.length:=by unfold jL;split <;> omega
theorem aJd (l:List Int):∃ w<4,gO l=asL w l:=by
 unfold gO;rcases aFh (jL (jL (asL 0 l) (asL 1 l)) (asL 2 l)) (asL 3 l) with h | h
 ·rw [h];rcases aFh (jL (asL 0 l) (asL 1 l)) (asL 2 l) with h | h
  ·rw [h];rcases aFh (asL 0 l) (asL 1 l) with h | h
   ·exact⟨0,by decide,h⟩
   ·exact⟨1,by decide,h⟩
  ·exact⟨2,by decide,h⟩
 ·exact⟨3,by decide,h⟩
theorem aU9 (l:List Int) {w:Nat} (hw:w<4):(gO l).length<=(asL w l).length:=by
 have a:=aFg (jL (jL (asL 0 l) (asL 1 l)) (asL 2 l)) (asL 3 l);have b:=aFg (jL (asL 0 l) (asL 1 l)) (asL 2 l);have c:=aFg (asL 0 l) (asL 1 l);unfold gO
 match w,hw with
 | 0,_=>omega
 | 1,_=>omega
 | 2,_=>omega
 | 3,_=>omega
theorem aBt {l:List Int} (hl:l.length<=4096) (hi:I64 l):wO (gO l)=some l:=by obtain⟨w,hw,e⟩:=aJd l;rw [e,aX4 hw hl hi]
theorem Bs.ofN {D:List Nat} (h:Lt 8 D):Bs (ofN D):=by intro b hb;obtain⟨d,hd,rfl⟩:=List.mem_map.1 hb;have:=h d hd;omega
theorem aYy:∀ (l:List Int),Bs (b0 l)
 | []=>Bs.nil
 | x::l=>by
  have e:b0 (x::l)=uv (zz x)++b0 l:=by simp [b0]
  rw [e];exact (Bs.uv _).app (aYy l)
theorem aYz:∀ (l:List Int) (a:Int),Bs (bD a l)
 | [],_=>Bs.nil
 | x::l,a=>(Bs.uv _).app (aYz l x)
theorem aTy:∀ (l:List Int) (k:Nat),Bs (bR k l)
 | [],_=>Bs.nil
 | [x],k=>(Bs.uv _).app (Bs.uv _)
 | x::y::l,k=>by
  unfold bR;split
  ·exact aTy (y::l) _
  ·exact ((Bs.uv _).app (Bs.uv _)).app (aTy (y::l) _)
theorem bCd {l:List Int} (hi:I64 l):Bs (pk l):=by
 cases l with
 | nil=>exact Bs.nil
 | cons x l =>
  have hlo:=aMx hi;have hle:=aMw (x:=x) (l:=l);have hw:wdt (ds (mn x l) (x::l))<=64:=by
   have:=aNh hi hlo hle (x::l).length
   rwa [List.take_of_length_le (by rw [wY];exact Nat.le_refl _)] at this
  exact ((Bs.uv _).app (Bs.mk (by omega) Bs.nil)).app (Bs.ofN (bCk _ _))
theorem bCc {w:Nat} {l:List Int} (hw:w<4) (hi:I64 l):Bs (asL w l):=by
 refine Bs.mk (by omega) ((Bs.uv _).app ?_)
 match w,hw with
 | 0,_=>exact aYy l
 | 1,_=>exact aYz l 0
 | 2,_=>exact aTy l 0
 | 3,_=>exact bCd hi
theorem bBd {l:List Int} (hl:l.length<=4096) (hi:I64 l):(pk l).length<=11+(l.length * 64+7) / 8:=by
 cases l with
 | nil=>simp [pk]
 | cons x l =>
  have hlo:=aMx hi;have hle:=aMw (x:=x) (l:=l);have hw:wdt (ds (mn x l) (x::l))<=64:=by
   have:=aNh hi hlo hle (x::l).length
   rwa [List.take_of_length_le (by rw [wY];exact Nat.le_refl _)] at this
  have hz:=aP (yD hlo);have:=Nat.mul_le_mul_left (x::l).length hw;simp only [pk,List.length_append,List.length_singleton,aFc,uU];generalize (x::l).length=n at *;omega
theorem bBc {w:Nat} {l:List Int} (hw:w<4) (hl:l.length<=4096) (hi:I64 l):(asL w l).length<=1048576:=by
 have hu:=aP (n:=l.length) (by omega);unfold asL;simp only [List.length_cons,List.length_append]
 match w,hw with
 | 0,_=>have:=aMt hi;simp only [body];omega
 | 1,_=>have:=aQi l 0;simp only [body];omega
 | 2,_=>have:=aQj l 0 hi (by omega);simp only [body];omega
 | 3,_=>have:=bBd hl hi;simp only [body];omega
def aTd (a:Nat):Bool:=a / 4503599627370496 % 2048==2047&&a % 4503599627370496 != 0
theorem aQl (d:Ieee.Datum):(d.order d==some .eq) = !d.isNaN:=by
 cases d with
 | number s m p=>simp [Ieee.Datum.order,Ieee.Datum.isNaN]
 | infinity s=>simp [Ieee.Datum.order,Ieee.Datum.isNaN]
 | nan s f=>simp [Ieee.Datum.order,Ieee.Datum.isNaN]
theorem aU3 (a:Nat):feq a a = !aTd a:=by
 unfold feq Ieee.Format.order;rw [aQl];congr 1;unfold Ieee.Format.read aTd;have b:FloatKind.f64.format.signWeight=9223372036854775808:=by decide
 have c:FloatKind.f64.format.binade=4503599627370496:=by decide
 have d:FloatKind.f64.format.infRung=9218868437227405312:=by decide
 simp only [b,c,d];rw [Bool.eq_iff_iff];simp only [Bool.and_eq_true,beq_iff_eq,bne_iff_ne,ne_eq];split
 ·simp [Ieee.Datum.isNaN];omega
 ·split
  ·simp [Ieee.Datum.isNaN];omega
  ·split
   ·simp [Ieee.Datum.isNaN];omega
   ·simp [Ieee.Datum.isNaN];omega
def kU (a:Nat):Nat:=if aTd a then 9221120237041090560 else a
theorem xR (a:Nat):kU (kU a)=kU a:=by
 unfold kU;cases h:aTd a with
 | true=>rw [if_pos rfl,if_pos (by decide)]
 | false=>simp [h]
theorem aN0 {a:Nat} (h:a<18446744073709551616):kU a<18446744073709551616:=by unfold kU;split <;> omega
theorem aO4 (a:Nat):aBp a=some (kU a:Int):=by
 unfold aBp xY kU aTd;have d:oG .u64 (a:Int) 52=((a / 4503599627370496:Nat):Int):=lD (k:=.u64) a 52 (by decide);have e:(((a / 4503599627370496:Nat):Int)).tmod 2048=((a / 4503599627370496 % 2048:Nat):Int):=rfl;have f:((a:Int)).tmod 4503599627370496=((a % 4503599627370496:Nat):Int):=rfl;simp only [lt_];rw [d,e,f];by_cases b:a / 4503599627370496 % 2048=2047
 ·by_cases c:a % 4503599627370496=0
  ·simp [b,c]
  ·simp [b,c];omega
 ·have:((a / 4503599627370496 % 2048:Nat):Int)≠2047:=by omega
  simp only [beq_iff_eq,this,if_false];simp [b]
theorem aKp (a:Nat):xF a=some (kU a):=by unfold xF aCa kU;simp only [bHp,aU3];cases aTd a <;> rfl
theorem aIp (a:Nat):zK a=some (kU a:Int):=by unfold zK;rw [aKp];rfl
theorem aUi (a:Int):aGh a=some (kU a.toNat):=by unfold aGh;rw [aKp];rfl
theorem aVy (a b:Nat):aDg a b=some ((kU a:Int)==(kU b:Int)):=by unfold aDg;rw [aO4,aO4];rfl
def rl (l:List Nat):List Int:=l.map λx=>IntKind.i64.wrap (kU x:Int)
theorem aM7 (l:List Nat):I64 (rl l):=λx hx=>by obtain⟨y,_,rfl⟩:=List.mem_map.1 hx;exact aC6 _
theorem aEj (l:List Nat):(rl l).length=l.length:=by simp [rl]
theorem aX5 {l:List Nat} {k x:Nat} (h:l[k]?=some x):rl (l.take (k+1))=rl (l.take k)++[IntKind.i64.wrap (kU x:Int)]:=by unfold rl;rw [List.take_add_one,h,List.map_append];rfl
theorem aSr {l:List Nat} (h:l.length<=4096):vR l=some (gO (rl l)):=by
 unfold vR;have:=jJ (b:=λs:List Int×Int=>jP l s.1 s.2) (λk=>(rl (l.take k),(k:Int))) (t:=rl l) l.length (λk hk=>by
  have hx:=List.getElem?_eq_getElem hk;have hlen:(rl (l.take k)).length=k:=by rw [aEj,List.length_take];omega
  show jP l (rl (l.take k)) (k:Int)=_;unfold jP;rw [if_pos (by simp only [decide_eq_true_eq];omega),bA rfl hx];simp only [bHp];rw [aIp];simp only [bHp,lt_];rw [bH (by rw [hlen];simp only [List.length_singleton];omega),w64 (n:=(k:Int)+1) (by omega) (by omega), ← aX5 hx];rfl) (by
  show jP l (rl (l.take l.length)) (l.length:Int)=_;unfold jP;rw [if_neg (by simp),List.take_length])
 rw [show (([],0):List Int×Int)=(λk=>(rl (l.take k),(k:Int))) 0 by simp [rl],this];simp only [bHp];unfold rO uG;rw [aC2 (by rw [aEj];exact h) (aM7 l)];rfl
def ub (b:Int):Nat:=(IntKind.u64.wrap b).toNat
theorem aZ5 (b:Int):IntKind.u64.wrap b=(ub b:Int):=by unfold ub;rw [IntKind.wrap_u64];omega
def aG7 (l:List Int):Option (List Nat):=if l.all (λb=>kU (ub b)==ub b)=true then some (l.map ub) else none
theorem aJy (l:List Int) (f:Int) (h:l.length<=4096):∀ (m k:Nat),k+m=l.length->(∀ b∈l.take k,kU (ub b)=ub b) ->
  loop (λs:List Nat×Int=>dP (l,f) s.1 s.2) ((l.take k).map ub,(k:Int))=some (if (l.drop k).all (λb=>kU (ub b)==ub b)=true then .inl (l.map ub) else .inr ([],3))
 | 0,k,hk,ha=>by
  rw [bE (t:=Sum.inl (l.map ub)) (by
   show dP (l,f) ((l.take k).map ub) (k:Int)=_;unfold dP;rw [if_neg (by simp only [decide_eq_true_eq];omega),show k=l.length by omega,List.take_length]),show k=l.length by omega,List.drop_length]
  rfl
 | m+1,k,hk,ha=>by
  have a:k<l.length:=by omega
  have hx:=List.getElem?_eq_getElem a;have hd:l.drop k=l[k]::l.drop (k+1):=List.drop_eq_getElem_cons a;rw [hd,List.all_cons];have hlen:((l.take k).map ub).length=k:=by simp;omega
  by_cases hc:kU (ub l[k])=ub l[k]
  ·rw [show (kU (ub l[k])==ub l[k])=true by simpa using hc,Bool.true_and,bZ (s':=((l.take (k+1)).map ub,((k+1:Nat):Int))) (by
    show dP (l,f) ((l.take k).map ub) (k:Int)=_;unfold dP;rw [if_pos (by simp only [decide_eq_true_eq];omega),bA rfl hx];simp only [bHp,lt_];rw [aZ5,aUi];simp only [bHp];rw [aIp];simp only [bHp,Int.toNat_natCast];rw [xR,hc,if_neg (by simp),bH (by rw [hlen];simp only [List.length_singleton];omega),w64 (by omega) (by omega),vC hx,List.map_append];rfl)]
   exact aJy l f h m (k+1) (by omega) (λb hb=>by
    rw [vC hx] at hb;rcases List.mem_append.1 hb with q | q
    ·exact ha b q
    ·rw [List.mem_singleton.1 q];exact hc)
  ·rw [show (kU (ub l[k])==ub l[k])=false by simpa using hc,Bool.false_and,if_neg (by simp)];refine bE ?_;show dP (l,f) ((l.take k).map ub) (k:Int)=_;unfold dP;rw [if_pos (by simp only [decide_eq_true_eq];omega),bA rfl hx];simp only [bHp,lt_];rw [aZ5,aUi];simp only [bHp];rw [aIp];simp only [bHp,Int.toNat_natCast];rw [xR,if_pos (by simp only [bne_iff_ne,ne_eq,Int.natCast_inj];exact hc)]
theorem aK9:∀ (n:Nat) (xs:List Int) {l r:List Int},aCm n xs=some (l,r)->l.length=n
 | 0,xs,l,r,h=>by cases h;rfl
 | n+1,xs,l,r,h=>by
  unfold aCm at h;split at h
  ·split at h
   ·rename_i he;cases h;simp [aK9 n _ he]
   ·cases h
  ·cases h
theorem aVp:∀ (n:Nat) (a:Int) (xs:List Int) {l r:List Int},pD a n xs=some (l,r)->l.length=n
 | 0,a,xs,l,r,h=>by cases h;rfl
 | n+1,a,xs,l,r,h=>by
  unfold pD at h;split at h
  ·split at h
   ·rename_i he;cases h;simp [aVp n _ _ he]
   ·cases h
  ·cases h
theorem aVq:∀ (f n:Nat) (xs:List Int) {l r:List Int},pR f n xs=some (l,r)->l.length<=n
 | 0,n,xs,l,r,h=>by cases h;simp
 | f+1,n,xs,l,r,h=>by
  unfold pR at h;split at h
  ·cases h;simp
  ·split at h
   ·split at h
    ·rename_i hk;split at h
     ·rename_i he;cases h;have:=aVq f _ _ he;have:=(uK hk).1;simp only [List.length_append,List.length_replicate];omega
     ·cases h
    ·cases h
   ·cases h
theorem bBj (n:Nat) (xs:List Int) {l r:List Int} (h:pP n xs=some (l,r)):l.length=n:=by
 unfold pP at h;split at h
 ·split at h
  ·split at h
   ·cases h;rw [List.length_map,sG]
   ·cases h
  ·cases h
 ·cases h
theorem aTe (w:Int) (n:Nat) (xs:List Int) {l r:List Int} (h:aK7 w n xs=some (l,r)):l.length<=n:=by
 unfold aK7 at h;split at h
 ·exact Nat.le_of_eq (aK9 _ _ h)
 ·split at h
  ·exact Nat.le_of_eq (aVp _ _ _ h)
  ·split at h
   ·exact aVq _ _ _ h
   ·split at h
    ·exact Nat.le_of_eq (bBj _ _ h)
    ·cases h;simp
theorem aK8 {xs l r:List Int} (h:aHp xs=some (l,r)):l.length<=4096:=by
 unfold aHp at h;split at h
 ·split at h
  ·split at h
   ·rename_i hu;have:=aTe _ _ _ h;have:=(uK hu).1;omega
   ·cases h
  ·cases h
 ·cases h
theorem aLh {xs l:List Int} (h:wO xs=some l):l.length<=4096:=by
 unfold wO at h;split at h
 ·cases h;exact aK8 (by assumption)
 ·cases h
theorem aKe {xs:List Int} (hB:Bs xs) (hl:xs.length<1099511627776):pE xs=some (match (wO xs).bind aG7 with | some l=>(l,0) | none=>([],3)):=by
 unfold pE;rw [yR hB hl];simp only [bHp];cases h:wO xs with
 | none=>rfl
 | some l =>
  simp only [bHp];rw [if_neg (by simp)];have:=aJy l 0 (aLh h) l.length 0 (by omega) (λb hb=>by simp at hb);simp only [List.take_zero,List.map_nil,List.drop_zero] at this;rw [show ((0:Nat):Int)=0 from rfl] at this;rw [this];unfold aG7;simp only [bHp];cases (l.all λb=>kU (ub b)==ub b)
  ·rfl
  ·rfl
theorem aQt {l:List Nat} (h:∀ x∈l,x<18446744073709551616):aG7 (rl l)=some (l.map kU):=by
 have hu:∀ x∈l,ub (IntKind.i64.wrap (kU x:Int))=kU x:=by intro x hx;have:=aN0 (h x hx);unfold ub;rw [IntKind.wrap_u64,IntWalk.i64_left];unfold wrap64;omega
 unfold aG7 rl;rw [if_pos]
 ·rw [List.map_map];congr 1;exact List.map_congr_left λx hx=>hu x hx
 ·rw [List.all_eq_true];intro b hb;obtain⟨x,hx,rfl⟩:=List.mem_map.1 hb;rw [hu x hx,xR];simp
def IsT (B acc:List Int) (t:List Int×Int×List Int) (p:Option (List Int×List Int)):Prop:=match p with
 | some (l,r)=>∃ q:Nat,t=(B,(q:Int),acc++l)/\q<=B.length/\B.drop q=r
 | none=>∃ a,t=(B,-1,a)
theorem IsT.cons {B acc:List Int} {t:List Int×Int×List Int} {p:Option (List Int×List Int)} (x:List Int) (h:IsT B (acc++x) t p) :
  IsT B acc t (match (generalizing:=false) p with | some (l,r)=>some (x++l,r) | none=>none):=by
 cases p with
 | none=>exact h
 | some y =>
  obtain⟨q,a,b,c⟩:=h;exact⟨q,by rw [a,List.append_assoc],b,c⟩
section
variable {B:List Int} (hBs:Bs B) (hB:B.length<1099511627776)
include hBs hB
end
section
variable {B:List Int} (hBs:Bs B) (hB:B.length<1099511627776)
include hBs hB
end
section
variable {B xs:List Int} {p:Nat} (hp:p<=B.length) (hx:B.drop p=xs) (hBs:Bs xs) (hB:B.length<1099511627776) (hs:xs.length<=32768)
include hp hx hBs hB hs
end
def aJz (acc:List (List UInt8)) (t:List UInt8):Bool:=match acc[acc.length - 1]? with
 | some y=>Op.bytesLess y t
 | none=>true
def aEw (acc:List (List UInt8)):Nat->List Int->Option (List (List UInt8)×List Int)
 | 0,xs=>some (acc,xs)
 | n+1,xs=>match pT 32 xs with
  | some (t,r)=>if aJz acc t=true then aEw (acc++[t]) n r else none
  | none=>none
def okI (n:Nat) (ix:List Int):Bool:=ix.all λi=>decide (0<=i/\i<(n:Int))
def usd (n:Nat) (ix:List Int):List Bool:=(List.range n).map λ(j:Nat)=>decide ((j:Int)∈ix)
def tx (ds:List (List UInt8)) (ix:List Int):List (List UInt8):=ix.map λi=>ds.getD i.toNat []
def aJr (xs:List Int):Option (List (List UInt8)×List Int):=match pU 4096 xs with
 | some (n,r)=>match aEw [] n.toNat r with
  | some (ds,r')=>match aHp r' with
   | some (ix,r'')=>if okI ds.length ix=true/\false∉usd ds.length ix then some (tx ds ix,r'') else none
   | none=>none
  | none=>none
 | none=>none
theorem aR3 {most:Int} {xs r:List Int} {t:List UInt8} (hB:Bs xs) (h:pT most xs=some (t,r)):Bs r/\r.length<=xs.length:=by
 unfold pT at h;split at h
 ·rename_i n r' he;obtain⟨_,p,hp,_⟩:=uK he;have hb:=aO1 hB he;split at h
  ·cases h;refine⟨hb.drop _,?_⟩;rw [hp];simp;omega
  ·cases h
 ·cases h
theorem aOy:∀ (n:Nat) (acc:List (List UInt8)) (xs:List Int) {ds:List (List UInt8)} {r:List Int},Bs xs->aEw acc n xs=some (ds,r)->Bs r/\r.length<=xs.length/\ds.length=acc.length+n
 | 0,acc,xs,ds,r,hB,h=>by cases h;exact⟨hB,Nat.le_refl _,rfl⟩
 | n+1,acc,xs,ds,r,hB,h=>by
  unfold aEw at h;split at h
  ·rename_i t r' he;obtain⟨a,d⟩:=aR3 hB he;split at h
   ·obtain⟨b,e,c⟩:=aOy n _ _ a h;refine⟨b,by omega,?_⟩;rw [c,List.length_append,List.length_singleton];omega
   ·cases h
  ·cases h
theorem aN6 (l:List Bool) (b:Bool) (h:l.length<1099511627776):hD l b=some (decide (b∈l)):=by
 unfold hD mD;have key:∀ (m k:Nat),k+m=l.length->∃ y,loop (λs:Int=>dU l b s) (k:Int)=some y/\if b∈l.drop k then ∃ j:Nat,y=.inr (j:Int) else y=.inl ():=by
  intro m
  induction m with
  | zero =>
   intro k hk;refine⟨.inl (),bE ?_,?_⟩
   ·unfold dU;rw [if_neg (by simp only [decide_eq_true_eq];omega)]
   ·rw [List.drop_of_length_le (by omega),if_neg (by simp)]
  | succ m ih =>
   intro k hk;have c:k<l.length:=by omega
   have hx:=List.getElem?_eq_getElem c;have hd:l.drop k=l[k]::l.drop (k+1):=List.drop_eq_getElem_cons c;rw [hd];by_cases hb:b=l[k]
   ·refine⟨.inr (k:Int),bE ?_,?_⟩
    ·unfold dU;rw [if_pos (by simp only [decide_eq_true_eq];omega),bA rfl hx];simp only [bHp];rw [if_pos (by simpa using hb)]
    ·rw [if_pos (by rw [hb];exact List.mem_cons_self)];exact⟨k,rfl⟩
   ·obtain⟨y,a,hm⟩:=ih (k+1) (by omega);refine⟨y,(bZ (s':=((k+1:Nat):Int)) ?_).trans a,?_⟩
    ·unfold dU;rw [if_pos (by simp only [decide_eq_true_eq];omega),bA rfl hx];simp only [bHp];rw [if_neg (by simpa using hb),lt_,w64 (by omega) (by omega)];rfl
    ·have he:(b∈l[k]::l.drop (k+1))=(b∈l.drop (k+1)):=propext ⟨λh=>(List.mem_cons.1 h).resolve_left hb,λh=>List.mem_cons_of_mem _ h⟩;simpa only [he] using hm
 obtain⟨y,a,hm⟩:=key l.length 0 (by omega);rw [show ((0:Nat):Int)=0 from rfl] at a;rw [a,List.drop_zero] at *;by_cases hb:b∈l
 ·rw [if_pos hb] at hm;obtain⟨j,rfl⟩:=hm;simp only [bHp];rw [show decide (0<=(j:Int))=true by simp,show decide (b∈l)=true by simpa using hb]
 ·rw [if_neg hb] at hm;subst hm;rw [show decide (b∈l)=false by simpa using hb];rfl
theorem aVl (n:Nat) (ix:List Int) (k:Nat) {x:Int} (h:ix[k]?=some x):okI n (ix.take (k+1))=(okI n (ix.take k)&&decide (0<=x/\x<(n:Int))):=by unfold okI;rw [vC h,List.all_append];simp
theorem aVm {n:Nat} {ix:List Int} (h:okI n ix=true) (k:Nat):okI n (ix.take k)=true:=by unfold okI at *;rw [List.all_eq_true] at *;exact λx hx=>h x (List.mem_of_mem_take hx)
theorem aWg (n:Nat) (ix:List Int) {x:Int} (hx:0<=x/\x<(n:Int)):usd n (ix++[x])=(usd n ix).set x.toNat true:=by
 apply List.ext_getElem? λj=>?_;unfold usd;rw [List.getElem?_set];simp only [List.getElem?_map,List.length_map,List.length_range];rcases Nat.lt_or_ge j n with a | a
 ·rw [List.getElem?_range a];by_cases e:x.toNat=j
  ·rw [if_pos e,if_pos (by omega)];simp;right;omega
  ·rw [if_neg e];have:¬ (j:Int)=x:=by omega
   simp [this]
 ·rw [List.getElem?_eq_none (by simpa using a)];rw [if_neg (by omega)];rfl
theorem aYh (n:Nat):usd n []=List.replicate n false:=by unfold usd;rw [List.eq_replicate_iff];refine⟨by simp,λb hb=>?_⟩;obtain⟨q,_,rfl⟩:=List.mem_map.1 hb;simp
theorem aJ6 (n:Nat) (ix:List Int):(usd n ix).length=n:=by simp [usd]
theorem bBx (n:Nat) (ix:List Int) {x:Int} (hx:0<=x/\x<(n:Int)):∃ b,at_ (usd n ix) x=some b:=by
 have:x.toNat<(usd n ix).length:=by rw [aJ6];omega
 exact⟨_,bA (n:=x.toNat) (by omega) (List.getElem?_eq_getElem this)⟩
theorem bCo (ds:List (List UInt8)) {x:Int} (hx:0<=x/\x<(ds.length:Int)):at_ ds x=some (ds.getD x.toNat []):=by
 have:x.toNat<ds.length:=by omega
 refine bA (n:=x.toNat) (by omega) ?_;rw [List.getD_eq_getElem?_getD,List.getElem?_eq_getElem this];rfl
theorem aYg (ds:List (List UInt8)) (ix:List Int) (x:Int):tx ds (ix++[x])=tx ds ix++[ds.getD x.toNat []]:=by unfold tx;rw [List.map_append];rfl
theorem aTt (ds:List (List UInt8)) (ix:List Int):(tx ds ix).length=ix.length:=by simp [tx]
theorem aKq (ds:List (List UInt8)) (ix:List Int) (Y:S140) (xs:List Int) (hl:ix.length<=4096):∀ (m k:Nat),k+m=ix.length->okI ds.length (ix.take k)=true ->
  ∃ y,loop (λs:List Int×List (List UInt8)×List Bool×Int=>cA ds (ix,Y) s.1 s.2.1 s.2.2.1 s.2.2.2) (xs,tx ds (ix.take k),usd ds.length (ix.take k),(k:Int))=some y /\
   if okI ds.length ix=true then y=.inl (xs,tx ds ix,usd ds.length ix) else ∃ s,y=.inr (.inr s)
 | 0,k,hk,ha=>by
  have g:k=ix.length:=by omega
  subst g;rw [List.take_length] at ha ⊢;refine⟨.inl (xs,tx ds ix,usd ds.length ix),bE ?_,by rw [if_pos ha]⟩;show cA ds (ix,Y) xs (tx ds ix) (usd ds.length ix) (ix.length:Int)=_;unfold cA;rw [if_neg (by simp)]
 | m+1,k,hk,ha=>by
  have i:k<ix.length:=by omega
  have hx:=List.getElem?_eq_getElem i;have d:=aVl ds.length ix k hx;have e:∀ s,cA ds (ix,Y) xs (tx ds (ix.take k)) (usd ds.length (ix.take k)) (k:Int)=some (.inr (.inr (.inr s)))->¬ (0<=ix[k]/\ix[k]<(ds.length:Int)) ->
    ∃ y,loop (λs:List Int×List (List UInt8)×List Bool×Int=>cA ds (ix,Y) s.1 s.2.1 s.2.2.1 s.2.2.2) (xs,tx ds (ix.take k),usd ds.length (ix.take k),(k:Int))=some y /\
   if okI ds.length ix=true then y=.inl (xs,tx ds ix,usd ds.length ix) else ∃ s,y=.inr (.inr s):=by
   intro s hs hn;refine⟨_,bE hs,?_⟩;rw [if_neg]
   ·exact⟨_,rfl⟩
   ·intro h;have:=aVm h (k+1);rw [d] at this;simp only [Bool.and_eq_true,decide_eq_true_eq] at this;exact hn this.2
  by_cases h0:0<=ix[k]
  ·by_cases a:ix[k]<(ds.length:Int)
   ·obtain⟨b,hb⟩:=bBx ds.length (ix.take k) ⟨h0,a⟩;obtain⟨y,f,hm⟩:=aKq ds ix Y xs hl m (k+1) (by omega) (by rw [d,ha];simp [h0,a]);rw [vC hx,aYg,aWg _ _ ⟨h0,a⟩] at f;refine⟨y,(bZ (s':=(xs,tx ds (ix.take k)++[ds.getD ix[k].toNat []],(usd ds.length (ix.take k)).set ix[k].toNat true,((k+1:Nat):Int))) ?_).trans f,hm⟩;show cA ds (ix,Y) xs (tx ds (ix.take k)) (usd ds.length (ix.take k)) (k:Int)=_;unfold cA;rw [if_pos (by simp only [decide_eq_true_eq];omega),bA rfl hx];simp only [bHp];rw [if_pos (by simpa using h0),show decide (ix[k]<(ds.length:Int))=true by simpa using a,mV];simp only [bHp,iC];unfold jW;rw [hb,bCo _ ⟨h0,a⟩];simp only [bHp];rw [bH (by rw [aTt];simp;omega),lt_,w64 (by omega) (by omega)];rfl
   ·refine e (⟨xs⟩,tx ds (ix.take k)) ?_ (λc=>a c.2);unfold cA;rw [if_pos (by simp only [decide_eq_true_eq];omega),bA rfl hx];simp only [bHp];rw [if_pos (by simpa using h0),show decide (ix[k]<(ds.length:Int))=false by simpa using a,sM];rfl
  ·refine e (⟨xs⟩,tx ds (ix.take k)) ?_ (λc=>h0 c.1);unfold cA;rw [if_pos (by simp only [decide_eq_true_eq];omega),bA rfl hx];simp only [bHp];rw [if_neg (by simpa using h0),sM];rfl
theorem aIr (Y:Int×S140) (n:Nat) (a:Y.1=(n:Int)) (hn:n<=4096):∀ (m k:Nat) (acc:List (List UInt8)) (xs:List Int),Bs xs->xs.length<1099511627776->k+m=n->acc.length=k ->
  ∃ y,loop (λs:List Int×List (List UInt8)×Int=>dB [] Y s.1 s.2.1 s.2.2) (xs,acc,(k:Int))=some y/\match aEw acc m xs with
   | some (l,r)=>y=.inl (r,l)
   | none=>∃ s,y=.inr (.inr s)
 | 0,k,acc,xs,hB,hl,hk,ha=>by refine⟨.inl (xs,acc),bE ?_,rfl⟩;show dB [] Y xs acc (k:Int)=_;unfold dB;rw [a,if_neg (by simp only [decide_eq_true_eq];omega)]
 | m+1,k,acc,xs,hB,hl,hk,ha=>by
  unfold aEw;rcases (aL4 32 hB (by omega)).cases with ⟨t,r,b,c⟩ | ⟨b,s,c⟩
  ·rw [b];obtain⟨e,g⟩:=aR3 hB b;have d:∀ (z:S140⊕S140),aJ (⟨r⟩:S140) (aJz acc t)=some z->dB [] Y xs acc (k:Int)=(fV z (λy=>hO acc (k:Int) (t,⟨r⟩) y.f0) (λy=>some (.inr (.inr (.inr (y,[])))))):=by
    intro z hz;unfold dB;rw [a,if_pos (by simp only [decide_eq_true_eq];omega),c];simp only [bHp,iC,lt_];unfold aJz at hz;by_cases h0:acc.length=0
    ·rw [List.getElem?_eq_none (by omega)] at hz;rw [if_pos (by simpa using h0),hz];rfl
    ·have hx:=List.getElem?_eq_getElem (l:=acc) (i:=acc.length - 1) (by omega);rw [hx] at hz;rw [if_neg (by simpa using h0),w64 (by omega) (by omega),bA (n:=acc.length - 1) (by omega) hx];simp only [bHp];rw [hz];rfl
   by_cases hr:aJz acc t=true
   ·obtain⟨y,f,hm⟩:=aIr Y n a hn m (k+1) (acc++[t]) r e (by omega) (by omega) (by simp [ha]);simp only [hr,if_true];refine⟨y,(bZ (s':=(r,acc++[t],((k+1:Nat):Int))) ?_).trans f,hm⟩;refine (d _ (by rw [hr,mV])).trans ?_;rw [iC];unfold hO;rw [bH (by simp;omega),lt_,nD (by omega) (by omega)];rfl
   ·rw [Bool.not_eq_true] at hr;simp only [hr,Bool.false_eq_true,if_false];exact⟨_,bE ((d _ (by rw [hr,sM])).trans rfl),_,rfl⟩
  ·rw [b];refine⟨_,bE (t:=Sum.inr (.inr (s,[]))) ?_,_,rfl⟩;show dB [] Y xs acc (k:Int)=_;unfold dB;rw [a,if_pos (by simp only [decide_eq_true_eq];omega),c];rfl
theorem aWf {xs:List Int} (hB:Bs xs) (hl:xs.length<1099511627776):match aJr xs with
  | some (T,r)=>kK ⟨xs⟩ []=some (.inl (⟨r⟩,T))
  | none=>∃ s,kK ⟨xs⟩ []=some (.inr s):=by
 unfold kK aJr;rcases (aDv 4096 hB).cases with ⟨n,r,b,f⟩ | ⟨b,s,f⟩
 ·rw [b,f];obtain⟨⟨o,q,t⟩,p,hp,_⟩:=uK b;have h:=aO1 hB b;have u:r.length<=xs.length:=by rw [hp];simp
  obtain⟨n,rfl⟩:∃ m:Nat,n=(m:Int):=⟨n.toNat,by omega⟩;simp only [bHp,iC,Int.toNat_natCast];obtain⟨y,a,hm⟩:=aIr ((n:Int),⟨r⟩) n rfl (by omega) n 0 [] r h (by omega) (by omega) rfl;rw [show ((0:Nat):Int)=0 from rfl] at a;rw [a];simp only [bHp];cases hd:aEw [] n r with
  | none =>
   rw [hd] at hm;obtain⟨s,rfl⟩:=hm;exact⟨s,rfl⟩
  | some z =>
   obtain⟨ds,r'⟩:=z;rw [hd] at hm;simp only at hm;subst hm;obtain⟨j,v,k⟩:=aOy n _ _ h hd;have w:ds.length=n:=by simpa using k
   simp only;unfold lK mW;rw [bH (by omega)];rcases (aRx j (by omega)).cases with ⟨ix,i,d,g⟩ | ⟨d,s,g⟩
   ·rw [d,g];have l:=aK8 d;simp only [bHp,iC];obtain⟨y,a,hm⟩:=aKq ds ix ⟨i⟩ i l ix.length 0 (by omega) rfl;rw [List.take_zero,aYh,show ((0:Nat):Int)=0 from rfl] at a;rw [Int.toNat_natCast];have e0:tx ds []=[]:=rfl;rw [e0] at a;rw [a];simp only [bHp];by_cases e:okI ds.length ix=true
    ·rw [if_pos e] at hm;subst hm;simp only;unfold lJ mX;rw [aN6 _ _ (by rw [aJ6];omega)];simp only [bHp];by_cases hu:false∈usd ds.length ix
     ·rw [show decide (false∈usd ds.length ix)=true by simpa using hu,Bool.not_true,sM,if_neg (λc=>c.2 hu)];exact⟨_,rfl⟩
     ·rw [show decide (false∈usd ds.length ix)=false by simpa using hu,Bool.not_false,mV,if_pos ⟨e,hu⟩];rfl
    ·rw [if_neg e] at hm;obtain⟨s,rfl⟩:=hm;rw [if_neg (λc=>e c.1)];exact⟨s,rfl⟩
   ·rw [d,g];exact⟨_,rfl⟩
 ·rw [b,f];exact⟨_,rfl⟩
def aLi (xs:List Int):Option (List (List UInt8)):=match aJr xs with
 | some (T,[])=>some T
 | _=>none
theorem aKf {xs:List Int} (hB:Bs xs) (hl:xs.length<1099511627776):pF xs=some (match aLi xs with | some T=>(T,0) | none=>([],3)):=by
 unfold pF qE aLi;have h:=aWf hB hl;cases hp:aJr xs with
 | none =>
  rw [hp] at h;obtain⟨s,hs⟩:=h;rw [hs];rfl
 | some z =>
  obtain⟨T,r⟩:=z;rw [hp] at h;simp only at h;rw [h];cases r with
  | nil=>rfl
  | cons b r =>
   simp only [bHp,iC];rw [show (((b::r).length:Int)==0)=false by simp;omega];rfl
def aO7 (xs:List Int):Option (List Nat):=(wO xs).bind aG7
structure SWO {α:Type} (lt:α->α->Bool):Prop where
 irr:∀ a,lt a a=false
 trans:∀ a b c,lt a b=true->lt b c=true->lt a c=true
 neg:∀ a b c,lt a c=true->lt a b=true\/lt b c=true
section
variable {α:Type} {lt:α->α->Bool}
def ins (lt:α->α->Bool) (x:α):List α->List α
 | []=>[x]
 | y::l=>if lt x y then x::y::l else y::ins lt x l
def sortL (lt:α->α->Bool) (l:List α):List α:=l.foldl (λacc x=>ins lt x acc) []
def Srt (lt:α->α->Bool) (l:List α):Prop:=l.Pairwise λa b=>lt b a=false
theorem aJc (x:α):∀ l:List α,(ins lt x l).length=l.length+1
 | []=>rfl
 | y::l=>by unfold ins;split <;> simp [aJc x l]
theorem aF4:∀ (l acc:List α),(l.foldl (λacc x=>ins lt x acc) acc).length=acc.length+l.length
 | [],acc=>by simp
 | x::l,acc=>by rw [List.foldl_cons,aF4 l,aJc];simp;omega
theorem aGl (l:List α):(sortL lt l).length=l.length:=by unfold sortL;rw [aF4];simp
theorem aSc {l:List α} (h:Srt lt l) {i j:Nat} {x y:α} (a:i<j) (hx:l[i]?=some x) (b:l[j]?=some y):lt y x=false:=by obtain⟨c,rfl⟩:=List.getElem?_eq_some_iff.1 hx;obtain⟨d,rfl⟩:=List.getElem?_eq_some_iff.1 b;exact List.pairwise_iff_getElem.1 h i j c d a
end
def bef (x y:S61):Bool:=if x.f3==y.f3 then (if x.f2==y.f2 then decide (x.f0<y.f0) else decide (x.f2<y.f2)) else Op.bytesLess x.f3 y.f3
def Anc (i j:Nat):Prop:=∃ m,j / 2 ^ m=i
theorem Anc.refl (i:Nat):Anc i i:=⟨0,by simp⟩
theorem Anc.up {i j:Nat} (h:Anc i j):Anc (i / 2) j:=by obtain⟨m,rfl⟩:=h;exact⟨m+1,by rw [Nat.pow_succ,Nat.div_div_eq_div_mul]⟩
theorem Anc.trans {i j k:Nat} (h:Anc i j) (a:Anc j k):Anc i k:=by obtain⟨m,rfl⟩:=h;obtain⟨b,rfl⟩:=a;exact⟨b+m,by rw [Nat.pow_add,Nat.div_div_eq_div_mul]⟩
theorem Anc.le {i j:Nat} (h:Anc i j):i<=j:=by obtain⟨m,rfl⟩:=h;exact Nat.div_le_self _ _
theorem Anc.half {i j:Nat} (h:Anc i j) (hn:i≠j):Anc i (j / 2):=by
 obtain⟨m,rfl⟩:=h;cases m with
 | zero=>simp at hn
 | succ m=>exact⟨m,by rw [Nat.pow_succ,Nat.mul_comm,Nat.div_div_eq_div_mul]⟩
theorem Anc.one:∀ (j:Nat),1<=j->Anc 1 j:=by
 intro j
 induction j using Nat.strongRecOn with
 | _ j ih =>
  intro a;rcases Nat.lt_or_ge j 2 with h | h
  ·rw [show j=1 by omega];exact Anc.refl 1
  ·exact (ih (j / 2) (by omega) (by omega)).trans ⟨1,rfl⟩
theorem Anc.apart {i j:Nat} (hi:1<=i) (h:Anc (2 * i) j) (c:Anc (2 * i+1) j):False:=by
 obtain⟨m,hm⟩:=h;obtain⟨a,b⟩:=c;rcases Nat.lt_trichotomy m a with e | rfl | e
 ·obtain⟨d,rfl⟩:∃ d,a=m+(d+1):=⟨a - m - 1,by omega⟩;rw [Nat.pow_add, ← Nat.div_div_eq_div_mul,hm,Nat.pow_succ,Nat.mul_comm (2 ^ d), ← Nat.div_div_eq_div_mul] at b;have:=Nat.div_le_self (2 * i / 2) (2 ^ d);omega
 ·omega
 ·obtain⟨d,rfl⟩:∃ d,m=a+(d+1):=⟨m - a - 1,by omega⟩;rw [Nat.pow_add, ← Nat.div_div_eq_div_mul,b,Nat.pow_succ,Nat.mul_comm (2 ^ d), ← Nat.div_div_eq_div_mul] at hm;have:=Nat.div_le_self ((2 * i+1) / 2) (2 ^ d);omega
structure STO (k:Nat) (lt:Nat->Nat->Bool):Prop where
 irr:∀ a,lt a a=false
 trans:∀ a b c,lt a b=true->lt b c=true->lt a c=true
 tot:∀ a b,a<k->b<k->a≠b->lt a b=true\/lt b a=true
def Inn (lt:Nat->Nat->Bool) (W node:Nat->Nat) (i:Nat):Prop:=lt (W i) (node i)=true/\((W i=W (2 * i)/\node i=W (2 * i+1))\/(W i=W (2 * i+1)/\node i=W (2 * i)))
structure Tour (k:Nat) (lt:Nat->Nat->Bool) (W node:Nat->Nat):Prop where
 leaf:∀ i,i<k->W (k+i)=i
 inner:∀ i,1<=i->i<k->Inn lt W node i
section
variable {k:Nat} {lt:Nat->Nat->Bool} {W node:Nat->Nat}
theorem below (leaf:∀ i,i<k->W (k+i)=i) (i0:Nat) (h0:1<=i0) (inner:∀ i,i0<=i->i<k->(W i=W (2 * i)\/W i=W (2 * i+1))) :
  ∀ (n i:Nat),i0<=i->i<2 * k->2 * k - i=n->W i<k/\Anc i (W i+k):=by
 intro n
 induction n using Nat.strongRecOn with
 | _ n ih =>
  intro i hi hk hn;rcases Nat.lt_or_ge i k with h | h
  ·rcases inner i hi h with a | a
   ·obtain⟨b,c⟩:=ih (2 * k - 2 * i) (by omega) (2 * i) (by omega) (by omega) rfl;rw [a];exact⟨b,by have:=c.up;rwa [show 2 * i / 2=i by omega] at this⟩
   ·obtain⟨b,c⟩:=ih (2 * k - (2 * i+1)) (by omega) (2 * i+1) (by omega) (by omega) rfl;rw [a];exact⟨b,by have:=c.up;rwa [show (2 * i+1) / 2=i by omega] at this⟩
  ·have:=leaf (i - k) (by omega);rw [show k+(i - k)=i by omega] at this;rw [this];exact⟨by omega,by rw [show i - k+k=i by omega];exact Anc.refl i⟩
theorem Inn.or {i:Nat} (h:Inn lt W node i):W i=W (2 * i)\/W i=W (2 * i+1):=h.2.elim (λh=>.inl h.1) λh=>.inr h.1
theorem Tour.below (h:Tour k lt W node) {i:Nat} (hi:1<=i) (hk:i<2 * k):W i<k/\Anc i (W i+k) :=
 P.below h.leaf 1 (Nat.le_refl _) (λi a b=>(h.inner i a b).or) _ i hi hk rfl
theorem Tour.min (h:Tour k lt W node) (o:STO k lt):∀ (n i:Nat),1<=i->i<2 * k->2 * k - i=n->∀ j,j<k->Anc i (j+k)->j=W i\/lt (W i) j=true:=by
 intro n
 induction n using Nat.strongRecOn with
 | _ n ih =>
  intro i hi hk hn j p e;rcases Nat.lt_or_ge i k with f | f
  ·have q:=e.half (by omega);obtain⟨m,hm⟩:=q;have key:∀ c,(c=2 * i\/c=2 * i+1)->Anc c (j+k)->j=W i\/lt (W i) j=true:=by
    intro c hc r;obtain⟨g,l⟩:=h.inner i hi f;have:=ih (2 * k - c) (by omega) c (by omega) (by omega) rfl j p r;have a:W i=W c\/lt (W i) (W c)=true:=by
     rcases hc with rfl | rfl
     ·rcases l with ⟨b,d⟩ | ⟨b,d⟩
      ·exact .inl b
      ·exact .inr (d▸g)
     ·rcases l with ⟨b,d⟩ | ⟨b,d⟩
      ·exact .inr (d▸g)
      ·exact .inl b
    rcases a with a | a
    ·rw [a];exact this
    ·rcases this with rfl | this
     ·exact .inr a
     ·exact .inr (o.trans _ _ _ a this)
   obtain⟨m,hm⟩:=e;cases m with
   | zero=>simp at hm;omega
   | succ m =>
    rw [Nat.pow_succ, ← Nat.div_div_eq_div_mul] at hm;exact key _ (by omega) ⟨m,rfl⟩
  ·have:=h.leaf (i - k) (by omega);rw [show k+(i - k)=i by omega] at this;obtain⟨m,hm⟩:=e;cases m with
   | zero=>simp at hm;exact .inl (by omega)
   | succ m =>
    rw [Nat.pow_succ,Nat.mul_comm, ← Nat.div_div_eq_div_mul] at hm;have:=Nat.div_le_self ((j+k) / 2) (2 ^ m);omega
theorem Tour.first (h:Tour k lt W node) (a:STO k lt) (hk:1<=k) {j:Nat} (b:j<k) (hn:j≠W 1):lt (W 1) j=true :=
 (h.min a _ 1 (Nat.le_refl _) (by omega) rfl j b (Anc.one _ (by omega))).resolve_left hn
theorem Tour.path (h:Tour k lt W node) (hk:1<=k):∀ (i:Nat),1<=i->Anc i (W 1+k)->W i=W 1:=by
 intro i
 induction i using Nat.strongRecOn with
 | _ i ih =>
  intro hi b;have hw:=(h.below (i:=1) (by omega) (by omega)).1;have e:i<2 * k:=by have:=b.le;omega
  rcases Nat.lt_or_ge i 2 with d | d
  ·rw [show i=1 by omega]
  ·have hp:=ih (i / 2) (by omega) (by omega) b.up;rcases (h.inner (i / 2) (by omega) (by omega)).or with a | a
   ·have hb:=h.below (i:=2 * (i / 2)) (by omega) (by omega);rw [← a,hp] at hb;rcases Nat.mod_two_eq_zero_or_one i with c | c
    ·rw [show i=2 * (i / 2) by omega, ← a,hp]
    ·exact (Anc.apart (i:=i / 2) (by omega) hb.2 (by rw [show 2 * (i / 2)+1=i by omega];exact b)).elim
   ·have hb:=h.below (i:=2 * (i / 2)+1) (by omega) (by omega);rw [← a,hp] at hb;rcases Nat.mod_two_eq_zero_or_one i with c | c
    ·exact (Anc.apart (i:=i / 2) (by omega) (by rw [show 2 * (i / 2)=i by omega];exact b) hb.2).elim
    ·rw [show i=2 * (i / 2)+1 by omega, ← a,hp]
structure Way (k:Nat) (lt lt':Nat->Nat->Bool) (W node:Nat->Nat) (c:Nat) (W' node':Nat->Nat):Prop where
 c1:1<=c
 anc:Anc c (W 1+k)
 leaf:∀ i,i<k->W' (k+i)=i
 inner:∀ i,1<=i->i<k->¬ (Anc i c/\i≠c)->Inn lt' W' node' i
 todo:∀ i,Anc i c->i≠c->node' i=node i
 rest:∀ j,1<=j->¬ Anc j (W 1+k)->W' j=W j
 rng:W' c<k/\Anc c (W' c+k)
theorem Way.start {c:Nat->Nat->Bool} (h:Tour k lt W node) (hk:1<=k) (hl:∀ a b,a≠W 1->b≠W 1->c a b=lt a b):Way k lt c W node (W 1+k) W node:=by
 have hw:=(h.below (i:=1) (by omega) (by omega)).1;refine⟨by omega,Anc.refl _,h.leaf,λi d g hn=>?_,λ_ _ _=>rfl,λ_ _ _=>rfl,?_⟩
 ·have l:¬ Anc i (W 1+k):=λm=>hn ⟨m,by omega⟩;obtain⟨n,f⟩:=h.inner i d g;have hd:∀ j,1<=j->j<2 * k->Anc i j->W j≠W 1:=by intro j o p q he;have:=(h.below (i:=j) o p).2;rw [he] at this;exact l (q.trans this)
  have r:=hd i d (by omega) (Anc.refl i);have s:=hd (2 * i) (by omega) (by omega) ⟨1,by omega⟩;have t:=hd (2 * i+1) (by omega) (by omega) ⟨1,by omega⟩;refine⟨?_,f⟩;rw [hl _ _ r (by rcases f with ⟨_,e⟩ | ⟨_,e⟩ <;> rw [e] <;> assumption)];exact n
 ·have:=h.leaf (W 1) hw;rw [Nat.add_comm] at this;rw [this];exact⟨hw,Anc.refl _⟩
def upd (f:Nat->Nat) (i v:Nat):Nat->Nat:=λj=>if j=i then v else f j
theorem Way.step {d:Nat->Nat->Bool} {c:Nat} {a node':Nat->Nat} (h:Tour k lt W node) (hk:1<=k) (H:STO k d) (hw:Way k lt d W node c a node') (hc:2<=c) :
  node (c / 2)<k/\(d (node (c / 2)) (a c)=true->Way k lt d W node (c / 2) (upd a (c / 2) (node (c / 2))) (upd node' (c / 2) (a c))) /\
   (d (node (c / 2)) (a c)=false->Way k lt d W node (c / 2) (upd a (c / 2) (a c)) node'):=by
 have N:=(h.below (i:=1) (by omega) (by omega)).1;have O:c<2 * k:=by have:=hw.anc.le;omega
 obtain⟨i,hi⟩:∃ i,i=c / 2:=⟨_,rfl⟩;rw [← hi];have n:1<=i:=by omega
 have I:i<k:=by omega
 have w:=h.path hk i n (by rw [hi];exact hw.anc.up);have P:=h.path hk c hw.c1 hw.anc;obtain⟨s,u⟩:∃ s,(s=2 * i/\c=2 * i+1)\/(s=2 * i+1/\c=2 * i):=by
  rcases Nat.mod_two_eq_zero_or_one c with J | J
  ·exact⟨2 * i+1,.inr ⟨rfl,by omega⟩⟩
  ·exact⟨2 * i,.inl ⟨rfl,by omega⟩⟩
 have z:∀ j,Anc c j->Anc s j->False:=by
  intro j b f;rcases u with ⟨rfl,e⟩ | ⟨rfl,e⟩ <;> rw [e] at b
  ·exact Anc.apart n f b
  ·exact Anc.apart n b f
 have r:1<=s/\s<2 * k/\s / 2=i:=by omega
 have A:¬ Anc s (W 1+k):=λg=>z _ hw.anc g;have B:=hw.rest s r.1 A;have l:=h.below (i:=s) r.1 r.2.1;have C:W s≠W 1:=λe=>A (e▸l.2);have D:node i=W s:=by
  obtain⟨_,o⟩:=h.inner i n I;rcases u with ⟨rfl,e⟩ | ⟨rfl,e⟩ <;> rcases o with ⟨b,f⟩ | ⟨b,f⟩
  ·exact absurd (b.symm.trans w) C
  ·exact f
  ·exact f
  ·exact absurd (b.symm.trans w) C
 have K:a c≠W s:=λe=>z _ hw.rng.2 (e▸l.2);have mk:∀ (x y:Nat) (node'':Nat->Nat),d x y=true->((x=a c/\y=W s)\/(x=W s/\y=a c))->node'' i=y->(∀ j,j≠i->node'' j=node' j)->Way k lt d W node i (upd a i x) node'':=by
  intro x y node'' L o E F;have G:Anc i (W 1+k):=by have:=hw.anc.up;rwa [← hi] at this
  refine⟨n,G,λj m=>?_,λj b f hn=>?_,λj g m=>?_,λj b hn=>?_,?_⟩
  ·simp only [upd,if_neg (show k+j≠i by omega)];exact hw.leaf j m
  ·by_cases t:j=i
   ·subst t;refine⟨by simp only [upd,if_true];rw [E];exact L,?_⟩;simp only [upd,if_true,if_neg (show 2 * j≠j by omega),if_neg (show 2 * j+1≠j by omega)];rw [E];rcases u with ⟨p,q⟩ | ⟨p,q⟩
    ·rw [show a (2 * j)=W s by rw [← p,B],show a (2 * j+1)=a c by rw [← q]];exact o.elim .inr .inl
    ·rw [show a (2 * j+1)=W s by rw [← p,B],show a (2 * j)=a c by rw [← q]];exact o
   ·have v:¬ Anc j i:=λg=>hn ⟨g,t⟩;have M:=hw.inner j b f λ⟨g,hjc⟩=>v (by have:=g.half hjc;rwa [← hi] at this);have p:2 * j≠i:=λe=>v ⟨1,by omega⟩;have q:2 * j+1≠i:=λe=>v ⟨1,by omega⟩;unfold Inn;simp only [upd,if_neg t,if_neg p,if_neg q];rw [F j t];exact M
  ·rw [F j m];exact hw.todo j (g.trans ⟨1,by omega⟩) (by have:=g.le;omega)
  ·simp only [upd,if_neg (show j≠i from λe=>hn (e▸G))];exact hw.rest j b hn
  ·simp only [upd,if_true];rcases o with ⟨rfl,_⟩ | ⟨rfl,_⟩
   ·exact⟨hw.rng.1,by have:=hw.rng.2.up;rwa [← hi] at this⟩
   ·exact⟨l.1,by have:=l.2.up;rwa [r.2.2] at this⟩
 rw [D];refine⟨l.1,λht=>?_,λhf=>?_⟩
 ·exact mk _ (a c) _ ht (.inr ⟨rfl,rfl⟩) (by simp [upd]) λj m=>by simp [upd,m]
 ·refine mk _ (W s) _ ?_ (.inl ⟨rfl,rfl⟩) ?_ λj m=>rfl
  ·rcases H.tot _ _ hw.rng.1 l.1 K with b | b
   ·exact b
   ·rw [b] at hf;cases hf
  ·rw [hw.todo i ⟨1,by omega⟩ (by omega),D]
theorem Way.done {a:Nat->Nat->Bool} {b node':Nat->Nat} (hw:Way k lt a W node 1 b node'):Tour k a b node' :=
 ⟨hw.leaf,λi c d=>hw.inner i c d λ⟨ha,hn⟩=>hn (by have:=ha.le;omega)⟩
structure Rise (k:Nat) (lt:Nat->Nat->Bool) (i:Nat) (W node:Nat->Nat):Prop where
 leaf:∀ j,j<k->W (k+j)=j
 inner:∀ j,i<j->j<k->1<=j->Inn lt W node j
theorem Rise.step (d:STO k lt) {i:Nat} (f:1<=i) (p:i<k) (h:Rise k lt i W node) :
  W (2 * i)<k/\W (2 * i+1)<k/\(lt (W (2 * i+1)) (W (2 * i))=true->Rise k lt (i - 1) (upd W i (W (2 * i+1))) (upd node i (W (2 * i)))) /\
   (lt (W (2 * i+1)) (W (2 * i))=false->Rise k lt (i - 1) (upd W i (W (2 * i))) (upd node i (W (2 * i+1)))):=by
 have hb:=P.below h.leaf (i+1) (by omega) λj a b=>(h.inner j (by omega) b (by omega)).or;have b1:=hb _ (2 * i) (by omega) (by omega) rfl;have b2:=hb _ (2 * i+1) (by omega) (by omega) rfl;have g:W (2 * i)≠W (2 * i+1):=λe=>Anc.apart f b1.2 (by rw [e];exact b2.2);have mk:∀ x y,lt x y=true->((x=W (2 * i)/\y=W (2 * i+1))\/(x=W (2 * i+1)/\y=W (2 * i)))->Rise k lt (i - 1) (upd W i x) (upd node i y):=by
  intro x y l m;refine⟨λj n=>?_,λj a b o=>?_⟩
  ·simp only [upd,if_neg (show k+j≠i by omega)];exact h.leaf j n
  ·unfold Inn;by_cases c:j=i
   ·subst c;simp only [upd,if_true,if_neg (show 2 * j≠j by omega),if_neg (show 2 * j+1≠j by omega)];exact⟨l,m⟩
   ·simp only [upd,if_neg c,if_neg (show 2 * j≠i by omega),if_neg (show 2 * j+1≠i by omega)];exact h.inner j (by omega) b o
 refine⟨b1.1,b2.1,λht=>mk _ _ ht (.inr ⟨rfl,rfl⟩),λhf=>mk _ _ ?_ (.inl ⟨rfl,rfl⟩)⟩;rcases d.tot _ _ b1.1 b2.1 g with a | a
 ·exact a
 ·rw [a] at hf;cases hf
theorem Rise.done (h:Rise k lt 0 W node):Tour k lt W node:=⟨h.leaf,λi a b=>h.inner i a b a⟩
end
def hd (R:List (List S61)) (i:Nat):Option S61:=R[i]?.bind List.head?
def bF0 (p q:Option S61) (a b:Nat):Bool:=match p,q with
 | none,none=>decide (a<b)
 | none,some _=>false
 | some _,none=>true
 | some x,some y=>bef x y||(!bef y x&&decide (a<b))
def ahd (R:List (List S61)) (a b:Nat):Bool:=bF0 (hd R a) (hd R b) a b
structure bHo (R:List (List S61)) (nd:List Int) (W node:Nat->Nat):Prop where
 pos:1<=R.length
 small:R.length<2 ^ 40
 len:nd.length=R.length
 tour:Tour R.length (ahd R) W node
 top:nd[0]?=some (W 1:Int)
 inner:∀ i,1<=i->i<R.length->nd[i]?=some (node i:Int)
section
variable {α:Type} {lt:α->α->Bool}
end
section
variable {α:Type} {lt:α->α->Bool}
theorem SWO.lt_of_lt_of_le (h:SWO lt) {a b c:α} (d:lt a b=true) (e:lt c b=false):lt a c=true:=by
 rcases h.neg a c b d with q | q
 ·exact q
 ·simp_all
theorem SWO.lt_of_le_of_lt (h:SWO lt) {a b c:α} (e:lt b a=false) (d:lt b c=true):lt a c=true:=by
 rcases h.neg b a c d with q | q
 ·simp_all
 ·exact q
end
section
variable {α:Type} {lt:α->α->Bool}
inductive Blk (lt:α->α->Bool) (n:Nat):List α->List α->Prop
 | last {O:List α}:O.length<=n->Blk lt n O (sortL lt O)
 | cons {O1 O2 L2:List α}:O1.length=n->Blk lt n O2 L2->Blk lt n (O1++O2) (sortL lt O1++L2)
theorem Blk.length {n:Nat} {O L:List α} (h:Blk lt n O L):L.length=O.length:=by
 induction h with
 | last _=>exact aGl _
 | cons _ _ ih=>simp [aGl,ih]
theorem Blk.done {n:Nat} {O L:List α} (h:Blk lt n O L) (hn:O.length<=n):L=sortL lt O:=by
 cases h with
 | last _=>rfl
 | @cons O1 O2 L2 h1 h2 =>
  have hl:=h2.length;simp only [List.length_append] at hn;have a:=List.eq_nil_of_length_eq_zero (show O2.length=0 by omega);subst a;have b:=List.eq_nil_of_length_eq_zero hl;rw [b];simp
end
section
variable {α:Type} {lt:α->α->Bool}
theorem bHm (h:SWO lt) {l m:List α} (hl:Srt lt l) (hm:Srt lt m) (hp:l.Perm m) {i:Nat} {x y:α} (hx:l[i]?=some x) (b:m[i]?=some y):lt x y=false:=by
 cases hxy:lt x y with
 | false=>rfl
 | true =>
  exfalso;have hc:=hp.countP_eq (λz=>lt z y);obtain⟨d,f⟩:=List.getElem?_eq_some_iff.1 hx;obtain⟨g,_⟩:=List.getElem?_eq_some_iff.1 b;have k:(l.take (i+1)).countP (λz=>lt z y)=i+1:=by
   have e:(l.take (i+1)).length=i+1:=by rw [List.length_take];omega
   refine (List.countP_eq_length.2 ?_).trans e;intro z hz;obtain⟨j,a⟩:=List.getElem?_of_mem hz;rw [List.getElem?_take] at a;split at a
   ·rcases Nat.lt_or_ge j i with c | c
    ·have hs:=aSc hl c a hx;rcases h.neg x z y hxy with q | q
     ·rw [hs] at q;cases q
     ·exact q
    ·have:j=i:=by omega
     subst this;rw [hx] at a;cases a;exact hxy
   ·cases a
  have n:(m.drop i).countP (λz=>lt z y)=0:=by
   rw [List.countP_eq_zero];intro z hz;obtain⟨j,a⟩:=List.getElem?_of_mem hz;rw [List.getElem?_drop] at a;rcases Nat.eq_zero_or_pos j with q | q
   ·subst q;rw [Nat.add_zero,b] at a;cases a;rw [h.irr];simp
   ·rw [aSc hm (show i<i+j by omega) b a];simp
  have o:(m.take i).countP (λz=>lt z y)<=i:=Nat.le_trans List.countP_le_length (by rw [List.length_take];omega);have p:l.countP (λz=>lt z y)=(l.take (i+1)).countP (λz=>lt z y)+(l.drop (i+1)).countP (λz=>lt z y):=by rw [← List.countP_append,List.take_append_drop]
  have r:m.countP (λz=>lt z y)=(m.take i).countP (λz=>lt z y)+(m.drop i).countP (λz=>lt z y):=by rw [← List.countP_append,List.take_append_drop]
  omega
end
section
variable {α:Type}
end
theorem zR (a:List UInt8):Op.bytesLess a a=false:=by rw [bytesLess_eq];simp [List.lt_irrefl]
theorem aFv {a b c:List UInt8} (d:Op.bytesLess a b=true) (e:Op.bytesLess b c=true):Op.bytesLess a c=true:=by rw [bytesLess_eq] at *;simp only [decide_eq_true_eq] at *;exact List.lt_trans d e
theorem aL6 {a b:List UInt8} (h:Op.bytesLess a b=false) (c:Op.bytesLess b a=false):a=b:=by rw [bytesLess_eq] at *;simp only [decide_eq_false_iff_not] at *;exact List.le_antisymm (List.not_lt.1 c) (List.not_lt.1 h)
def lA (l:List S98):Prop:=l.Pairwise λx y=>Op.bytesLess x.f0 y.f0=true
def pos (l:List S98) (n:List UInt8):Nat:=(l.takeWhile λx=>Op.bytesLess x.f0 n).length
theorem aVw (l:List S98) (n:List UInt8):pos l n<=l.length:=(List.takeWhile_sublist _).length_le
theorem aGd:∀ {l:List S98} (hl:lA l) (n:List UInt8) {h:Nat} {x:S98},l[h]?=some x->(Op.bytesLess x.f0 n=true↔h<pos l n)
 | [],_,n,h,x,hx=>by simp at hx
 | y::l,hl,n,h,x,hx=>by
  obtain⟨a,b⟩:=List.pairwise_cons.1 hl;unfold pos;rw [List.takeWhile_cons];cases hyn:Op.bytesLess y.f0 n with
  | true =>
   rw [if_pos rfl,List.length_cons];cases h with
   | zero=>cases hx;simp [hyn]
   | succ h =>
    have:=aGd b n (h:=h) (x:=x) (by simpa using hx);unfold pos at this;rw [this];omega
  | false =>
   rw [if_neg (by simp),List.length_nil];cases h with
   | zero=>cases hx;simp [hyn]
   | succ h =>
    have c:x∈l:=List.mem_of_getElem? (by simpa using hx);constructor
    ·intro d;have:=aFv (a x c) d;rw [hyn] at this;cases this
    ·intro h;omega
theorem aOi (x:S98) (n:List UInt8):kO x n=some (if Op.bytesLess x.f0 n=true then -1 else if x.f0=n then 0 else 1):=by
 unfold kO;cases h:Op.bytesLess x.f0 n with
 | true=>rfl
 | false =>
  simp only [Bool.false_eq_true,if_false,Bool.false_or];by_cases e:x.f0=n
  ·simp [e]
  ·simp [e]
def has (l:List S98) (n:List UInt8):Bool:=match l[pos l n]? with
 | some x=>x.f0==n
 | none=>false
theorem aPv (l:List S98) (hl:lA l) (hlen:l.length<1099511627776) (n:List UInt8):bL l n=some ((pos l n:Int),has l n):=by
 unfold bL;have hp:=aVw l n;obtain⟨y,d,hm⟩:=aEa (b:=λs:Int×Int=>aW l n s.1 s.2) (s:=(0,(l.length:Int)))
  (λs=>∃ i j:Nat,s=((i:Int),(j:Int))/\i<=pos l n/\pos l n<=j/\j<=l.length) (λs=>(s.2 - s.1).toNat) (λt=>t=((pos l n:Nat):Int)) ⟨0,l.length,rfl,Nat.zero_le _,hp,Nat.le_refl _⟩ (by
  rintro s ⟨i,j,rfl,f,g,h⟩;show (∃ s',aW l n (i:Int) (j:Int)=some (.inl s')/\_)\/∃ t,aW l n (i:Int) (j:Int)=some (.inr t)/\_;unfold aW;by_cases p:i<j
  ·have hx:=List.getElem?_eq_getElem (l:=l) (i:=(i+j) / 2) (by omega);have c:=aGd hl n hx;have m:oG .u64 (((i+j:Nat)):Int) 1=(((i+j) / 2:Nat):Int):=lD (k:=.u64) (i+j) 1 (by decide);rw [if_pos (by simp only [decide_eq_true_eq];omega)];simp only [lt_];rw [w64 (n:=(i:Int)+(j:Int)) (by omega) (by omega),nD (by omega) (by omega),show (i:Int)+(j:Int)=((i+j:Nat):Int) by omega,m,w64 (by omega) (by omega),bA rfl hx];simp only [bHp];rw [aOi];simp only [bHp];unfold bG;by_cases a:Op.bytesLess (l[(i+j) / 2]).f0 n=true
   ·have:=c.1 a;rw [if_pos a,if_pos (by decide),w64 (by omega) (by omega)];exact .inl ⟨_,rfl,⟨(i+j) / 2+1,j,rfl,by omega,g,h⟩,by simp only;omega⟩
   ·have:¬ (i+j) / 2<pos l n:=λq=>a (c.2 q);rw [if_neg a,if_neg (by split <;> decide)];exact .inl ⟨_,rfl,⟨i,(i+j) / 2,rfl,f,by omega,by omega⟩,by simp only;omega⟩
  ·rw [if_neg (by simp only [decide_eq_true_eq];omega)];exact .inr ⟨_,rfl,by rw [show i=pos l n by omega]⟩)
 rw [d,hm];simp only [bHp];unfold bQ bW has;by_cases a:pos l n<l.length
 ·have hx:=List.getElem?_eq_getElem a;have c:=aGd hl n hx;have o:¬ Op.bytesLess (l[pos l n]).f0 n=true:=λq=>by have:=c.1 q;omega
  rw [if_pos (by simp only [decide_eq_true_eq];omega),bA rfl hx,hx];simp only [bHp];rw [aOi];simp only [bHp];rw [if_neg o];congr 2;by_cases e:(l[pos l n]).f0=n
  ·rw [if_pos e];simp [e]
  ·rw [if_neg e];simp [e]
 ·rw [if_neg (by simp only [decide_eq_true_eq];omega),List.getElem?_eq_none (by omega)]
theorem aRr (s:S77) (hl:lA s.f0) (hlen:s.f0.length<1099511627776) (n:List UInt8):eV s n=some ((pos s.f0 n:Int),has s.f0 n):=by unfold eV;rw [aPv s.f0 hl hlen n];rfl
end Go.Proofs.YtdkpjpoajlmmfaaGreatDoor.P
