/- Texts of the claim, joined: what it uses of Ei, Ej, Ek, El, Em, En, Eo, Ep, Eh, Eq, Es, Er, Et, Eu, Ev, Ey, Ds, Kd. -/
import Derived.Test.YtdkpjpoajlmmfaaGreatDoorZa
import Derived.Recover
import Derived.Lib.AppendStr
import Derived.Lib.ConvBytes
import Derived.Laws.BytesString
import Derived.Lib.AppendZerosOnto
import Derived.Lib.Overlaps
import Derived.Laws.Strings2
import Derived.Deep.Slices
import Derived.Deep.Fields
import Derived.SizedLaws
import Derived.Below
import Derived.Carry
import Derived.WalkKit
import Derived.ProofKit
import Derived.OpenShut
import Derived.ShutString
import Derived.ChangeOld
import Derived.FnData
import Derived.LaidMore
import Derived.LaidLaws
import Derived.MakeChecks
import Derived.RangeFuncCalls
import Derived.RangeFuncLeaves
import Derived.RangeFuncRecord
import Derived.RangeFuncSeq
import Derived.OrdersIn
import Derived.TacticsIn
import Derived.OwnWalkIn
import Derived.Laws.StructEq
import Derived.Lib.SlicesCompact
import Derived.Sort.OwnSorted
import Derived.Shelf.SlIter.Collect
import Derived.Shelf.Vars
import Derived.HandedShaped
import Derived.Deep.Draws
import Derived.Lib.CutLaws
import Derived.Lib.ParseIntB
import Derived.LaidSub
import Derived.Lib.LaidU8
import Derived.Lib.LaidTab
import Derived.Sort.Grow
import Derived.Lib.ItoaNum
namespace Go.Proofs.YtdkpjpoajlmmfaaGreatDoor.E
open Go Go.RowKit
set_option linter.unusedVariables false
set_option linter.unusedSimpArgs false
def ltt {α β:Type} (x:α) (f:α->Option β):Option β:=f x
def fN {α β γ:Type} (x:α⊕β) (f:α->Option γ) (g:β->Option γ):Option γ:=match x with
 | .inl a=>f a
 | .inr b=>g b
theorem gX {α β:Type} {e:α} {f:α->Option β} {y:β} (h:ltt e f=some y):∃ x,x=e/\f x=some y:=⟨e,rfl,h⟩
theorem xB {α β γ:Type} {a:α} {f:α->Option γ} {g:β->Option γ} {y:γ} (h:fN (.inl a) f g=some y):f a=some y:=h
theorem xC {α β γ:Type} {b:β} {f:α->Option γ} {g:β->Option γ} {y:γ} (h:fN (.inr b) f g=some y):g b=some y:=h
section
variable {P:Program} {ops:Array Oper} {Q:Exit->Act->World->Prop} {rest:List Oper} {o:Oper} {a:Act} {w w':World} {K:Act->World->Prop}
 {n:Nat} {D:List Deferred} {F:List (Nat×Value)} {r:World} {L:List HP} {α:Type} {d:Kd α} {x y c:Operand} {t' e T xt yt:TypeId} {v:Value} {t:Nat} {k:IntKind} {i j:Int} {s u:List UInt8}
theorem cM {e:Int} {x:Int} (h:x=e) (hr:RunV P o a w (.int k e)):RunV P o a w (.int k x):=h▸hr
def RetS {ρ π:Type} (P:Program) (f:FuncId) (args:Array Value) (w:World) (ch:List PanicEntry) (y:ρ⊕π) (R:ρ->Value->World->Prop) (Rp:π->World->Prop):Prop:=match y with
 | .inl a=>Ret P f args w (R a)
 | .inr b=>Calls P f args w λe w'=>e=.panicked ch/\Rp b w'
theorem RetS.lf {ρ π:Type} {f:FuncId} {args:Array Value} {ch:List PanicEntry} {a:ρ} {R:ρ->Value->World->Prop} {Rp:π->World->Prop} (h:RetS P f args w ch (.inl a) R Rp):Ret P f args w (R a):=h
theorem RetS.rf {ρ π:Type} {f:FuncId} {args:Array Value} {ch:List PanicEntry} {b:π} {R:ρ->Value->World->Prop} {Rp:π->World->Prop} (h:RetS P f args w ch (.inr b) R Rp):Calls P f args w λe w'=>e=.panicked ch/\Rp b w':=h
theorem vY {ρ π:Type} {f:FuncId} {fn:Func} {cd:Code} {args:Array Value} {ch:List PanicEntry} {y:ρ⊕π} {R:ρ->Value->World->Prop} {Rp:π->World->Prop} {n:Nat} (hf:P.funcs[f]?=some fn) (hb:fn.body=some cd) (hn:fn.ntmps=n)
  (F:List (Nat×Value)) (d:F.map (λp=>args[p.1]?)=F.map λp=>some p.2) (hle:(args.size<=n)=True)
  (h:∀ a,FR n [] a F->∀ Qf:Exit->Act->World->Prop,(∀ a0,y=.inl a0->∀ a w,bodyPost P fn (λe w'=>∃ v,e=.returned v/\R a0 v w') .ret a w->Qf .ret a w) ->
   (∀ a0,y=.inl a0->∀ a w,bodyPost P fn (λe w'=>∃ v,e=.returned v/\R a0 v w') .normal a w->Qf .normal a w) ->
   (∀ b,y=.inr b->∀ (a:Act) w,a.defers=[]->Rp b w->Qf (.panic ch) a w)->cd.wp P Qf a w):RetS P f args w ch y R Rp:=by
 cases y with
 | inl a0=>exact enter hf hb hn F d hle λa hA Qf g i=>h a hA Qf (λj e a w q=>by cases e;exact g a w q) (λj e a w q=>by cases e;exact i a w q) (λb e=>by cases e)
 | inr b =>
  refine calls_of_wp (R:=λe w'=>e=.panicked ch/\Rp b w') hf hb (h _ ⟨?_,rfl,?_⟩ _ (λa0 e=>by cases e) (λa0 e=>by cases e) λo e a w hd l=>?_)
  ·have:=of_eq_true hle;simp [hn];omega
  ·intro t v c;clear h
   induction F with
   | nil=>cases c
   | cons p q ih =>
    obtain⟨k,u⟩:=p;simp only [List.map_cons,List.cons.injEq] at d;simp only [lk] at c;by_cases e:Nat.beq k t=true
    ·rw [e] at c;have e':=Nat.eq_of_beq_eq_true e;subst e';cases c;have m:=(Array.getElem?_eq_some_iff.1 d.1).1;show (args++_)[k]?=_;rw [Array.getElem?_append_left m];exact d.1
    ·rw [Bool.eq_false_iff.2 e] at c;exact ih d.2 c
  ·cases e;exact⟨hd,rfl,l⟩
theorem aLi {f:FuncId} {fx:Operand} {az:Array Operand} {ts:Array TypeId} {fs vs caps vals:Array Value} {ch:List PanicEntry} {Rp:World->Prop} (hf:EN P f) (b:o.op=.call { callee:=.value fx,args:=az,argTypes:=ts }) (c:a.eval fx=.func (.func f) fs caps) (d:az.map a.eval=vs) (g:fs++vs++caps=vals)
  (hC:Calls P f vals w λe w'=>e=.panicked ch/\Rp w') (hK:∀ w',Rp w'->Q (.panic ch) a w'):o.wp P a w K Q:=by
 have h:(execOp a.eval o).run P w=.ok (.enter f vals) w:=by unfold execOp;rw [b];simp only [resolve,c,Deferred.ofValue,Sem.run_bind,Sem.run_pure,Result.andThen_ok,invoke];subst g;have:=hf (fs++vs++caps) w;simpa [d] using this
 unfold Oper.wp;rw [h];exact Calls.mono hC λe w' ⟨he,hR⟩=>by subst he;exact hK w' hR
theorem aHe {f:FuncId} {fx:Operand} {az:Array Operand} {ts:Array TypeId} {fs vs caps vals:Array Value} {R:Value->World->Prop} (hf:EN P f) (b:o.op=.call { callee:=.value fx,args:=az,argTypes:=ts }) (c:a.eval fx=.func (.func f) fs caps) (d:az.map a.eval=vs) (g:fs++vs++caps=vals)
  (hC:Ret P f vals w R) (hK:∀ v w',R v w'->K (a.put o.dst v) w'):o.wp P a w K Q:=by
 have h:(execOp a.eval o).run P w=.ok (.enter f vals) w:=by unfold execOp;rw [b];simp only [resolve,c,Deferred.ofValue,Sem.run_bind,Sem.run_pure,Result.andThen_ok,invoke];subst g;have:=hf (fs++vs++caps) w;simpa [d] using this
 unfold Oper.wp;rw [h];exact Calls.mono hC λe w' ⟨v,he,hR⟩=>by subst he;exact hK v w' hR
theorem aRd {f:FuncId} {fx:Operand} {az:Array Operand} {ts:Array TypeId} {fs vs caps vals:Array Value} {ch:List PanicEntry} {Rp:World->Prop} (hf:EN P f) (hA:FR n D a F) (hC:Calls P f vals w λe w'=>e=.panicked ch/\Rp w') (kk:∀ w',Rp w'->Q (.panic ch) a w')
  (b:o.op=.call { callee:=.value fx,args:=az,argTypes:=ts }:=by rfl) (c:ev F fx=some (.func (.func f) fs caps):=by rfl) (d:az.toList.map (ev F)=vs.toList.map some:=by rfl) (g:fs++vs++caps=vals:=by rfl) (hg:o.guard=none:=by rfl):wpList P ops Q (o::rest) a w :=
 mG hg λK hK=>aLi hf b (hA.ev c) (evs hA d) g hC kk
theorem bDv {f:FuncId} {fx:Operand} {az:Array Operand} {ts:Array TypeId} {fs vs caps vals:Array Value} {ch:List PanicEntry} {Rp:World->Prop} (hf:EN P f) (hA:FR n D a F) (hC:Calls P f vals w λe w'=>e=.panicked ch/\Rp w') (b:(o.op,ev F fx,az.toList.map (ev F),fs++vs++caps,o.guard)=(.call { callee:=.value fx,args:=az,argTypes:=ts },some (.func (.func f) fs caps),vs.toList.map some,vals,none)) (kk:∀ w',Rp w'->Q (.panic ch) a w'):wpList P ops Q (o::rest) a w:=aRd (hf:=hf) (hA:=hA) (hC:=hC) (kk:=kk) (congrArg (·.1) b) (congrArg (·.2.1) b) (congrArg (·.2.2.1) b) (congrArg (·.2.2.2.1) b) (congrArg (·.2.2.2.2) b)
theorem aXs {f:FuncId} {fx:Operand} {az:Array Operand} {ts:Array TypeId} {fs vs caps vals:Array Value} {ch:List PanicEntry} {Rp:World->Prop} (hf:EN P f) (hA:FR n D a F) (hC:Calls P f vals w λe w'=>e=.panicked ch/\Rp w') (kk:∀ w',Rp w'->Q (.panic ch) a w')
  (b:o.op=.call { callee:=.value fx,args:=az,argTypes:=ts }:=by rfl) (c:ev F fx=some (.func (.func f) fs caps):=by rfl) (d:az.toList.map (ev F)=vs.toList.map some:=by rfl) (g:fs++vs++caps=vals:=by rfl):o.wp P a w K Q:=aLi hf b (hA.ev c) (evs hA d) g hC kk
theorem qE {f:FuncId} {fx:Operand} {az:Array Operand} {ts:Array TypeId} {fs vs caps vals:Array Value} {ch:List PanicEntry} {Rp:World->Prop} (hf:EN P f) (hA:FR n D a F) (hC:Calls P f vals w λe w'=>e=.panicked ch/\Rp w') (b:(o.op,ev F fx,az.toList.map (ev F),fs++vs++caps)=(.call { callee:=.value fx,args:=az,argTypes:=ts },some (.func (.func f) fs caps),vs.toList.map some,vals)) (kk:∀ w',Rp w'->Q (.panic ch) a w'):o.wp P a w K Q:=aXs (hf:=hf) (hA:=hA) (hC:=hC) (kk:=kk) (congrArg (·.1) b) (congrArg (·.2.1) b) (congrArg (·.2.2.1) b) (congrArg (·.2.2.2) b)
theorem aRe {f:FuncId} {fx:Operand} {az:Array Operand} {ts:Array TypeId} {fs vs caps vals:Array Value} {R:Value->World->Prop} (hf:EN P f) (hA:FR n D a F) (hC:Ret P f vals w R) (kk:∀ v a' w',R v w'->FR n D a' ((t,v)::F)->wpList P ops Q rest a' w')
  (b:o.op=.call { callee:=.value fx,args:=az,argTypes:=ts }:=by rfl) (c:ev F fx=some (.func (.func f) fs caps):=by rfl) (d:az.toList.map (ev F)=vs.toList.map some:=by rfl) (e:fs++vs++caps=vals:=by rfl) (hd:o.dst=some t:=by rfl) (hg:o.guard=none:=by rfl) (ht:Nat.blt t n=true:=by rfl):wpList P ops Q (o::rest) a w :=
 mG hg λK hK=>aHe hf b (hA.ev c) (evs hA d) e hC λv w' g=>hK _ _ (kk v _ w' g (by rw [hd];exact hA.put t _ (by have:=Nat.le_of_ble_eq_true ht;omega)))
theorem bDx {f:FuncId} {fx:Operand} {az:Array Operand} {ts:Array TypeId} {fs vs caps vals:Array Value} {R:Value->World->Prop} (hf:EN P f) (hA:FR n D a F) (hC:Ret P f vals w R) (b:(o.op,ev F fx,az.toList.map (ev F),fs++vs++caps,o.dst,o.guard,Nat.blt t n)=(.call { callee:=.value fx,args:=az,argTypes:=ts },some (.func (.func f) fs caps),vs.toList.map some,vals,some t,none,true)) (kk:∀ v a' w',R v w'->FR n D a' ((t,v)::F)->wpList P ops Q rest a' w'):wpList P ops Q (o::rest) a w:=aRe (hf:=hf) (hA:=hA) (hC:=hC) (kk:=kk) (congrArg (·.1) b) (congrArg (·.2.1) b) (congrArg (·.2.2.1) b) (congrArg (·.2.2.2.1) b) (congrArg (·.2.2.2.2.1) b) (congrArg (·.2.2.2.2.2.1) b) (congrArg (·.2.2.2.2.2.2) b)
theorem aXt {f:FuncId} {fx:Operand} {az:Array Operand} {ts:Array TypeId} {fs vs caps vals:Array Value} {R:Value->World->Prop} (hf:EN P f) (hA:FR n D a F) (hC:Ret P f vals w R) (kk:∀ v w',R v w'->K (a.put o.dst v) w')
  (b:o.op=.call { callee:=.value fx,args:=az,argTypes:=ts }:=by rfl) (c:ev F fx=some (.func (.func f) fs caps):=by rfl) (d:az.toList.map (ev F)=vs.toList.map some:=by rfl) (e:fs++vs++caps=vals:=by rfl):o.wp P a w K Q:=aHe hf b (hA.ev c) (evs hA d) e hC kk
theorem qF {f:FuncId} {fx:Operand} {az:Array Operand} {ts:Array TypeId} {fs vs caps vals:Array Value} {R:Value->World->Prop} (hf:EN P f) (hA:FR n D a F) (hC:Ret P f vals w R) (b:(o.op,ev F fx,az.toList.map (ev F),fs++vs++caps)=(.call { callee:=.value fx,args:=az,argTypes:=ts },some (.func (.func f) fs caps),vs.toList.map some,vals)) (kk:∀ v w',R v w'->K (a.put o.dst v) w'):o.wp P a w K Q:=aXt (hf:=hf) (hA:=hA) (hC:=hC) (kk:=kk) (congrArg (·.1) b) (congrArg (·.2.1) b) (congrArg (·.2.2.1) b) (congrArg (·.2.2.2) b)
theorem aWb {ty:TypeId} {v0:Value} (b:o.op=.panic x) (hx:a.eval x=.iface ty v0) (hK:Q (.panic [{ v:=.iface ty v0,recovered:=false }]) a w):o.wp P a w K Q:=by
 have h:(execOp a.eval o).run P w=.halt (.panic (.iface ty v0)) w:=by unfold execOp;rw [b];simp only [hx];rfl
 unfold Oper.wp;rw [h];exact hK
theorem aXn {ty:TypeId} {v0:Value} (hA:FR n D a F) (hK:Q (.panic [{ v:=.iface ty v0,recovered:=false }]) a w) (b:o.op=.panic x:=by rfl) (hx:ev F x=some (.iface ty v0):=by rfl) (hg:o.guard=none:=by rfl):wpList P ops Q (o::rest) a w :=
 mG hg λK c=>aWb b (hA.ev hx) hK
theorem aVm {ty:TypeId} {v0:Value} (hA:FR n D a F) (hK:Q (.panic [{ v:=.iface ty v0,recovered:=false }]) a w) (b:(o.op,ev F x,o.guard)=(.panic x,some (.iface ty v0),none)):wpList P ops Q (o::rest) a w:=aXn (hA:=hA) (hK:=hK) (congrArg (·.1) b) (congrArg (·.2.1) b) (congrArg (·.2.2) b)
theorem aQ3 {ds:TypeDesc} {vx:Value} (hu:P.underlying xt=some ds) (hn:(match ds with | .interface _=>false | _=>true)=true) (b:o.op=.makeInterface xt x) (hx:a.eval x=vx):RunV P o a w (.iface xt vx):=by unfold RunV execOp;rw [b];simp only [hx,Instr.makeInterface,Sem.run_bind,run_underlying hu];cases ds <;> first | rfl | cases hn
theorem aWa {f:FuncId} {fx:Operand} {az:Array Operand} {ts:Array TypeId} {fs vs caps:Array Value} (b:o.op=.defer { callee:=.value fx,args:=az,argTypes:=ts }) (c:a.eval fx=.func (.func f) fs caps) (d:az.map a.eval=vs)
  (hK:K ({ a with defers:={ target:=.fn (.func f) caps,args:=fs++vs }::a.defers }.put o.dst undef) w):o.wp P a w K Q:=by
 have h:(execOp a.eval o).run P w=.ok (.defer { target:=.fn (.func f) caps,args:=fs++vs }) w:=by unfold execOp;rw [b];simp only [resolve,c,Deferred.ofValue,Sem.run_bind,Sem.run_pure,Result.andThen_ok,d]
 unfold Oper.wp;rw [h];exact hK
theorem FR.defer (h:FR n D a F) (d:Deferred):FR n (d::D) { a with defers:=d::a.defers } F:=⟨h.size,by show d::a.defers=_;rw [h.defers],h.at_⟩
theorem aXm {f:FuncId} {fx:Operand} {az:Array Operand} {ts:Array TypeId} {fs vs caps:Array Value} (hA:FR n D a F) (kk:∀ a',FR n ({ target:=.fn (.func f) caps,args:=fs++vs }::D) a' F->wpList P ops Q rest a' w)
  (b:o.op=.defer { callee:=.value fx,args:=az,argTypes:=ts }:=by rfl) (c:ev F fx=some (.func (.func f) fs caps):=by rfl) (d:az.toList.map (ev F)=vs.toList.map some:=by rfl) (hd:o.dst=none:=by rfl) (hg:o.guard=none:=by rfl):wpList P ops Q (o::rest) a w :=
 mG hg λK hK=>aWa b (hA.ev c) (evs hA d) (hK _ _ (kk _ (by rw [hd];exact hA.defer _)))
theorem aZy {f:FuncId} {fn:Func} {cd:Code} {args:Array Value} {R:Value->World->Prop} {n:Nat} (hf:P.funcs[f]?=some fn) (hb:fn.body=some cd) (hn:fn.ntmps=n)
  (F:List (Nat×Value)) (c:F.map (λp=>args[p.1]?)=F.map λp=>some p.2) (hle:(args.size<=n)=True)
  (h:∀ a,FR n [] a F->cd.wp P (bodyPostD P fn (λe w'=>∃ v,e=.returned v/\R v w')) a w):Ret P f args w R:=by
 refine calls_of_wp_defers hf hb (h _ ⟨?_,rfl,?_⟩)
 ·have:=of_eq_true hle;simp [hn];omega
 ·intro t v b;clear h
  induction F with
  | nil=>cases b
  | cons p q ih =>
   obtain⟨k,u⟩:=p;simp only [List.map_cons,List.cons.injEq] at c;simp only [lk] at b;by_cases e:Nat.beq k t=true
   ·rw [e] at b;have e':=Nat.eq_of_beq_eq_true e;subst e';cases b;have d:=(Array.getElem?_eq_some_iff.1 c.1).1;show (args++_)[k]?=_;rw [Array.getElem?_append_left d];exact c.1
   ·rw [Bool.eq_false_iff.2 e] at b;exact ih c.2 b
def stb (s:List UInt8):List Int:=s.map λb=>(b.toNat:Int)
theorem aOb (s:List UInt8):Lib.strCells ⟨s.toArray⟩=(stb s).map λn=>Value.int .u8 n:=by simp [Lib.strCells,stb]
theorem aT9:∀ l:List Int,Lay (kI .u8) l (l.map λn=>Value.int .u8 n)
 | []=>rfl
 | x::l=>⟨[.int .u8 x],_,rfl,rfl,aT9 l⟩
theorem aZm (i:Nat) {n1 c:Nat} {A:Option Addr} {xs:List Int} {L':List HP} {t u:TypeId} (hS:SH r L w) (hL:pk i L=own (kI .u8) e A n1 c xs::L')
  (ht:P.underlying t=some (.slice e)) (hu:P.underlying u=some .string) (hi:(P.info? e).map (λi=>(i.zero,i.size,i.bytes))=some (some (.int .u8 0),1,1))
  (I:o.op=.call { callee:=.builtin .append,args:=#[x,y],argTypes:=#[t,u] }) (hx:a.eval x=.slice A n1 c) (J:a.eval y=str s) (hb:xs.length+s.length<=140737488355328 / 1)
  (hK:∀ d E f w',SH r (own (kI .u8) e d E f (xs++stb s)::L') w'->K (a.put o.dst (.slice d E f)) w'):o.wp P a w K Q:=by
 have B:=hS.pk i;rw [hL] at B;obtain⟨S1,S2,M,N,hd,⟨O,⟨inner,F,n⟩,G⟩,R⟩:=B.sep;subst O;obtain⟨inf,p,C,q,D⟩:=info_parts hi;have b:(⟨s.toArray⟩:ByteArray).size=s.length:=aDc s;have T:xs.length+s.length<=maxLen:=by simp only [maxLen];omega
 obtain⟨v,w',l,z,hg,_⟩:=Lib.run_append_own_string (P:=P) w 0 t u o.type e inf ht hu p C q D _ _ _ n ⟨s.toArray⟩ (by rw [b];exact T) (by rw [b];omega) (Nat.zero_le _);rw [b] at z;have U:v.ownBlock=(Value.slice A xs.length c).ownBlock\/∃ k,v.ownBlock=some k/\w.heap.size<=k:=by
  rcases n.2 with ⟨m,hn⟩ | ⟨g,cap,cur,m,a6,W,a7,a8,hs,a9⟩
  ·injection m with hA hn' hc;subst hA hc;rw [hn'] at l n;obtain⟨v2,w2,H,X,b3,_⟩:=Lib.run_append_own_string (P:=P) w w.heap.size t u o.type e inf ht hu p C q D _ _ _ (show w.ownsRow w.heap.size e 1 (.slice none 0 0) 0 [] from World.ownsRow_nil w w.heap.size e 1) ⟨s.toArray⟩ (by rw [b];omega) (by rw [b];omega) (Nat.le_refl _);rw [l] at H;cases H;rcases hb':v.ownBlock with _ | k
   ·left;simp [Value.ownBlock]
   ·exact .inr ⟨k,rfl,(X.lt k hb').1⟩
  ·injection m with hA hn' hc;subst hA hc;by_cases Y:xs.length+s.length<=c
   ·have Z:inf.size=1:=q;have:=Lib.run_append_room_string (P:=P) w t u o.type e inf ht hu p Z g xs.length c cur W ⟨s.toArray⟩ (by rw [b];exact Y) (by rw [b,hs];show _<=c * 1;omega);rw [l] at this;cases this;exact .inl rfl
   ·have:=Lib.run_append_grow_string (P:=P) w t u o.type e inf _ ht hu p C ⟨g,0,none⟩ xs.length c inner (by rw [F.length,q];rfl) (n.cells (g:=g) rfl) ⟨s.toArray⟩ (by rw [b];omega) (by rw [b];omega) (growslice_fits (by rw [b];omega) (by rw [b,D];omega));rw [l] at this;cases this;exact .inr ⟨_,rfl,Nat.le_refl _⟩
 have m:∃ d f,v=.slice d (xs.length+s.length) f:=by
  rcases z.2 with ⟨rfl,hn⟩ | ⟨g,cap,cur,rfl,_⟩
  ·exact⟨none,0,by rw [hn]⟩
  ·exact⟨_,_,rfl⟩
 obtain⟨d,f,rfl⟩:=m;have h:(execOp a.eval o).run P w=.ok (.value (.slice d (xs.length+s.length) f)) w':=by
  unfold execOp;rw [I];simp only [resolve,Sem.run_bind,Sem.run_pure,Result.andThen_ok,invoke];have e1:#[x,y].map a.eval=#[.slice A xs.length c,.string ⟨s.toArray⟩]:=by simp [hx,J,str]
  rw [e1];show (do pure (.value (← Builtin.append_ #[t,u] o.type _)):Sem Next).run P w=_;rw [Sem.run_bind,l];rfl
 unfold Oper.wp;rw [h];have hlen:(stb s).length=s.length:=by simp [stb]
 refine hK _ _ _ _ (B.upd M N hd R hg.os hg.tape hg.output hg.size (λk hk a1=>hg.block k hk λe=>a1 (G k e.symm)) (Ls:=[own (kI .u8) e d (xs.length+s.length) f (xs++stb s)]) λS a2 a3 _ =>
  ⟨S,λ_=>False,λ_ h=>h,λ_ h=>h.elim,λ_ _ h=>h,⟨by simp [hlen],⟨_,F.append (aT9 _),by rw [List.length_append,hlen, ← aOb];exact z⟩,λg j=>?_⟩,trivial⟩)
 rw [List.length_append,hlen] at j;rcases U with h | ⟨k,h,hk⟩
 ·rw [h] at j;exact a2 _ (G _ j)
 ·have a4:=(z.lt g j).2;rw [h] at j;cases j;exact a3 _ hk a4
theorem bAs (q:Nat) {n1 c1:Nat} {A:Option Addr} {xs:List Int} {L':List HP} {t0 f:TypeId} (hi:(P.info? e).map (λi=>(i.zero,i.size,i.bytes))=some (some (.int .u8 0),1,1)) (ht':P.underlying t0=some (.slice e)) (hu:P.underlying f=some .string) (hA:FR n D a F) (hS:SH r L w)
  (hb:xs.length+s.length<=140737488355328 / 1) (hL:pk q L=own (kI .u8) e A n1 c1 xs::L')
  (kk:∀ b c d a' w',SH r (own (kI .u8) e b c d (xs++stb s)::L') w'->FR n D a' ((t,.slice b c d)::F)->wpList P ops Q rest a' w')
  (g:o.op=.call { callee:=.builtin .append,args:=#[x,y],argTypes:=#[t0,f] }:=by rfl) (hx:ev F x=some (.slice A n1 c1):=by rfl) (h:ev F y=some (str s):=by rfl)
  (hd:o.dst=some t:=by rfl) (hg:o.guard=none:=by rfl) (ht:Nat.blt t n=true:=by rfl):wpList P ops Q (o::rest) a w :=
 mG hg λK hK=>aZm q hS hL ht' hu hi g (hA.ev hx) (hA.ev h) hb λb c d w' j=>hK _ _ (kk b c d _ w' j (by rw [hd];exact hA.put t _ (by have:=Nat.le_of_ble_eq_true ht;omega)))
theorem aXi (q:Nat) {n1 c1:Nat} {A:Option Addr} {xs:List Int} {L':List HP} {t0 c:TypeId} (hi:(P.info? e).map (λi=>(i.zero,i.size,i.bytes))=some (some (.int .u8 0),1,1)) (ht':P.underlying t0=some (.slice e)) (hu:P.underlying c=some .string) (hA:FR n D a F) (hS:SH r L w)
  (hb:xs.length+s.length<=140737488355328 / 1) (hL:pk q L=own (kI .u8) e A n1 c1 xs::L') (b:(o.op,ev F x,ev F y,o.dst,o.guard,Nat.blt t n)=(.call { callee:=.builtin .append,args:=#[x,y],argTypes:=#[t0,c] },some (.slice A n1 c1),some (str s),some t,none,true)) (kk:∀ d f g a' w',SH r (own (kI .u8) e d f g (xs++stb s)::L') w'->FR n D a' ((t,.slice d f g)::F)->wpList P ops Q rest a' w'):wpList P ops Q (o::rest) a w:=bAs (q:=q) (hi:=hi) (ht':=ht') (hu:=hu) (hA:=hA) (hS:=hS) (hb:=hb) (hL:=hL) (kk:=kk) (congrArg (·.1) b) (congrArg (·.2.1) b) (congrArg (·.2.2.1) b) (congrArg (·.2.2.2.1) b) (congrArg (·.2.2.2.2.1) b) (congrArg (·.2.2.2.2.2) b)
def bts (l:List Int):List UInt8:=l.map λn=>UInt8.ofNat n.toNat
theorem aVy (s:List UInt8):bts (stb s)=s:=by
 induction s with
 | nil=>rfl
 | cons b s ih=>show UInt8.ofNat (b.toNat:Int).toNat::bts (stb s)=_;rw [ih];simp
theorem bC6 {A:Option Addr} {m c:Nat} {xs:List Int} (hs:P.underlying xt=some (.slice e)) (he:P.underlying e=some (.int .u8)) (hd:P.underlying yt=some .string) (hr:Rd (kI .u8) w A xs/\xs.length=m/\m<=c/\c<=maxLen)
  (g:o.op=.convert xt yt x) (hx:a.eval x=.slice A m c):RunV P o a w (str (bts xs)):=by
 unfold RunV execOp;rw [g];simp only [hx,Sem.run_bind,run_convert_bytes_string w xt yt e A m c hs he hd];obtain⟨d,i,t,v⟩:=hr;have key:(Conv.bytesToString (.slice A m c)).run P w=.ok (str (bts xs)) w:=by
  have k:∀ (l:List Int) (b:ByteArray),l.foldl (λr n=>r.push (UInt8.ofNat n.toNat)) b=⟨b.data++(bts l).toArray⟩:=by
   intro l
   induction l with
   | nil=>intro b;simp [bts]
   | cons n l ih=>intro b;rw [List.foldl_cons,ih];simp [bts,ByteArray.push]
  rcases A with _ | ad
  ·have:xs=[]:=by
    rcases Nat.eq_zero_or_pos xs.length with h | h
    ·exact List.eq_nil_of_length_eq_zero h
    ·obtain⟨_,p,_⟩:=d h;cases p
   subst this;rfl
  ·have hl:(loadCells ad m).run P w=.ok (xs.map (Value.int .u8)).toArray w:=by
    subst i;have hc:∀ j u,(xs.map (Value.int .u8))[j]?=some u->w.cell? (ad.add j)=some u:=by intro j u f;rw [List.getElem?_map,Option.map_eq_some_iff] at f;obtain⟨n,hn,rfl⟩:=f;obtain⟨y,hA,q⟩:=d (by have:=(List.getElem?_eq_some_iff.1 hn).1;omega);cases hA;obtain⟨cs,s,hg⟩:=q j n hn;have:=hg 0 (.int .u8 n) (by rw [show cs=[.int .u8 n] from s];rfl);simpa [kI] using this
    have:=run_loadCells_list (P:=P) w ad (xs.map (Value.int .u8)) hc;simpa using this
   rw [run_bytesToString w ad m c xs hl,k];simp [str]
 rw [key];rfl
theorem bDt {A:Option Addr} {m c:Nat} {xs:List Int} (hs:P.underlying xt=some (.slice e)) (he:P.underlying e=some (.int .u8)) (hd':P.underlying yt=some .string) (hr:Rd (kI .u8) w A xs/\xs.length=m/\m<=c/\c<=maxLen) (hA:FR n D a F) (kk:∀ a',FR n D a' ((t,str (bts xs))::F)->wpList P ops Q rest a' w)
  (b:o.op=.convert xt yt x:=by rfl) (hx:ev F x=some (.slice A m c):=by rfl) (hd:o.dst=some t:=by rfl) (hg:o.guard=none:=by rfl) (ht:Nat.blt t n=true:=by rfl):wpList P ops Q (o::rest) a w:=eK hA (bC6 hs he hd' hr b (hA.ev hx)) kk hd hg ht
theorem aVj {A:Option Addr} {m c:Nat} {xs:List Int} (hs:P.underlying xt=some (.slice e)) (he:P.underlying e=some (.int .u8)) (hd':P.underlying yt=some .string) (hr:Rd (kI .u8) w A xs/\xs.length=m/\m<=c/\c<=maxLen) (hA:FR n D a F) (b:(o.op,ev F x,o.dst,o.guard,Nat.blt t n)=(.convert xt yt x,some (.slice A m c),some t,none,true)) (kk:∀ a',FR n D a' ((t,str (bts xs))::F)->wpList P ops Q rest a' w):wpList P ops Q (o::rest) a w:=bDt (hs:=hs) (he:=he) (hd':=hd') (hr:=hr) (hA:=hA) (kk:=kk) (congrArg (·.1) b) (congrArg (·.2.1) b) (congrArg (·.2.2.1) b) (congrArg (·.2.2.2.1) b) (congrArg (·.2.2.2.2) b)
def ownm (e:TypeId) (A:Option Addr) (n c:Nat) (xs:List Int):HP where
 P w S:=xs.length=n/\n<=c/\c<=maxLen/\∃ g,A=some ⟨g,0,none⟩/\S g/\RdA (kI .u8) w ⟨g,0,none⟩ xs
 fr h hk:=by obtain⟨b,d,f,g,i,a,k⟩:=h;refine⟨b,d,f,g,i,a,λj x hx=>?_⟩;obtain⟨cs,l,hc⟩:=k j x hx;exact⟨cs,l,λq u hu=>by rw [← hc q u hu];exact World.cell?_of_block (by rw [aAs];exact hk _ a)⟩
 mono h hs:=by obtain⟨b,d,f,g,i,a,k⟩:=h;exact⟨b,d,f,g,i,hs _ a,k⟩
theorem RdL.ownm {A:Option Addr} {m c:Nat} {xs:List Int} (i:Nat) (hi:L[i]?=some (E.ownm e A m c xs)) (h:SH r L w):RdL L (kI .u8) A m c xs:=by obtain⟨S,a,k,b,g,hA,l,n⟩:=h.get i hi;refine⟨a,by omega,b,λw' o d _=>?_⟩;obtain⟨p,q,s,t,u,f,v,j⟩:=SH.getL i hi d;exact⟨_,f,j⟩
theorem SH.freezem {Z:Nat->Prop} {wz:World} {A:Option Addr} {m c:Nat} {xs:List Int} (h:SH r (E.ownm e A m c xs::zone Z wz::L) w) :
  ∃ Z' wz',SH r (zone Z' wz'::L) w/\Imm Z' wz' (kI .u8) A m c xs/\Sub Z wz Z' wz':=by
 obtain⟨S1,t,i,b,hd,⟨j,u,l,g,a,n,o⟩,d,p,s,f,hd',hB,hL⟩:=h.sep;exact⟨λk=>S1 k\/d k,w,⟨h.os,h.tape,h.output,λk=>S1 k\/d k,p,λk q=>q.elim (i k) (λq=>b k (s k q)),λk q=>b k (f k q),λk q a=>q.elim (λq=>hd k q (f k a)) (λq=>hd' k q a),
  ⟨λ_ q=>q,λ_ _=>rfl⟩,hL⟩,⟨j,by omega,l,λv=>⟨_,a,.inl n,o⟩⟩,λk hk=>⟨.inr (hB.1 k hk),hB.2 k hk⟩⟩
theorem bBi (hs:P.underlying yt=some (.slice e)) (he:P.underlying e=some (.int .u8)) (hd:P.underlying xt=some .string) (hS:SH r L w) (f:o.op=.convert xt yt x) (hx:a.eval x=str s) (hl:s.length<=maxLen)
  (hK:∀ A n c w',SH r (ownm e A n c (stb s)::L) w'->K (a.put o.dst (.slice A n c)) w'):o.wp P a w K Q:=by
 have d:(⟨s.toArray⟩:ByteArray).size=s.length:=aDc s;have h:(execOp a.eval o).run P w=.ok (.value (.slice (some ⟨w.heap.size,0,none⟩) s.length (grownCap w s.length 0 e))) (Lib.bytesWorld w e ⟨s.toArray⟩):=by unfold execOp;rw [f];simp only [hx,str,Sem.run_bind];rw [Lib.run_convert_string_bytes w xt yt e ⟨s.toArray⟩ hd hs he,d];rfl
 unfold Oper.wp;rw [h];refine hK _ _ _ _ (hS.new (w':=Lib.bytesWorld w e ⟨s.toArray⟩) rfl rfl rfl (by rw [Lib.bytesWorld_size];omega) (λk hk=>Lib.bytesWorld_at_old w e _ k hk) (Ls:=[ownm e (some ⟨w.heap.size,0,none⟩) s.length (grownCap w s.length 0 e) (stb s)]) λS g =>
  ⟨S,λ_=>False,λ_ h=>h,λ_ h=>h.elim,λ_ _ h=>h,⟨by simp [stb],grownCap_ge w _ _ e,grownCap_le_maxLen w _ _ e hl,_,rfl,g _ (Nat.le_refl _) (by rw [Lib.bytesWorld_size];omega),λj x hx=>⟨_,rfl,λq u hu=>?_⟩⟩,trivial⟩)
 cases q with
 | succ q=>simp at hu
 | zero =>
  simp only [List.getElem?_cons_zero,Option.some.injEq] at hu;subst hu;unfold stb at hx;rw [List.getElem?_map,Option.map_eq_some_iff] at hx;obtain⟨b,hb,rfl⟩:=hx;have i:=(List.getElem?_eq_some_iff.1 hb).1;have:=Lib.bytesWorld_cell w e ⟨s.toArray⟩ j (by rw [d];exact i);rw [show j * (kI .u8).sz+0=j by show j * 1+0=j;omega,gJ,Nat.zero_add,this];simp [List.getD,hb]
theorem bD5 (hs:P.underlying yt=some (.slice e)) (he:P.underlying e=some (.int .u8)) (hd':P.underlying xt=some .string) (hA:FR n D a F) (hS:SH r L w) (hl:s.length<=maxLen) (kk:∀ A m c a' w',SH r (ownm e A m c (stb s)::L) w'->FR n D a' ((t,.slice A m c)::F)->wpList P ops Q rest a' w')
  (b:o.op=.convert xt yt x:=by rfl) (hx:ev F x=some (str s):=by rfl) (hd:o.dst=some t:=by rfl) (hg:o.guard=none:=by rfl) (ht:Nat.blt t n=true:=by rfl):wpList P ops Q (o::rest) a w :=
 mG hg λK hK=>bBi hs he hd' hS b (hA.ev hx) hl λA m c w' d=>hK _ _ (kk A m c _ w' d (by rw [hd];exact hA.put t _ (by have:=Nat.le_of_ble_eq_true ht;omega)))
theorem bAx (hs:P.underlying yt=some (.slice e)) (he:P.underlying e=some (.int .u8)) (hd':P.underlying xt=some .string) (hA:FR n D a F) (hS:SH r L w) (hl:s.length<=maxLen) (b:(o.op,ev F x,o.dst,o.guard,Nat.blt t n)=(.convert xt yt x,some (str s),some t,none,true)) (kk:∀ A m c a' w',SH r (ownm e A m c (stb s)::L) w'->FR n D a' ((t,.slice A m c)::F)->wpList P ops Q rest a' w'):wpList P ops Q (o::rest) a w:=bD5 (hs:=hs) (he:=he) (hd':=hd') (hA:=hA) (hS:=hS) (hl:=hl) (kk:=kk) (congrArg (·.1) b) (congrArg (·.2.1) b) (congrArg (·.2.2.1) b) (congrArg (·.2.2.2.1) b) (congrArg (·.2.2.2.2) b)
theorem aR9 {ty:TypeId} {v0:Value} {ms:Array (String×TypeId)} (hu:P.underlying xt=some (.interface ms)) (c:o.op=.binOp .neq xt x y yt) (hx:a.eval x=.iface ty v0) (e:a.eval y=.nilIface):RunV P o a w (.bool true) :=
 oB c hx e λw=>by show (do pure (.bool (!(← Op.equal xt (.iface ty v0) .nilIface))):Sem Value).run P w=_;rw [Sem.run_bind,aAv (b:=false) λd=>by simp [Op.equalIn,run_underlying hu]];rfl
theorem aSa {ms:Array (String×TypeId)} (hu:P.underlying xt=some (.interface ms)) (c:o.op=.binOp .neq xt x (.const .nilIface) yt) (hx:a.eval x=.nilIface):RunV P o a w (.bool false):=by
 unfold RunV execOp;rw [c];simp only [hx,show a.eval (.const .nilIface)=.nilIface from rfl];have e:(eqGuard .neq xt x (.const .nilIface) .nilIface .nilIface).run P w=.ok () w:=by unfold eqGuard;cases x <;> simp
 have f:(binOp .neq xt .nilIface .nilIface).run P w=.ok (.bool false) w:=by show (do pure (.bool (!(← Op.equal xt .nilIface .nilIface))):Sem Value).run P w=_;rw [Sem.run_bind,aAv (b:=true) λd=>by simp [Op.equalIn,run_underlying hu]];rfl
 simp only [Sem.run_bind,e,Result.andThen_ok,f];rfl
theorem aL8 {xty ty:TypeId} {v0:Value} {ds:TypeDesc} (hu:P.underlying ty=some ds) (hn:(match ds with | .interface _=>false | _=>true)=true) (b:o.op=.typeAssert x xty ty true) (hx:a.eval x=.iface ty v0):RunV P o a w (.tuple #[v0,.bool true]):=by unfold RunV execOp;rw [b];simp only [hx,Instr.typeAssert,Sem.run_bind,run_underlying hu,Result.andThen_ok];cases ds <;> first | (simp;done) | cases hn
theorem Ret.mono_ {f:FuncId} {args:Array Value} {R a:Value->World->Prop} (h:Ret P f args w R) (hr:∀ v w',R v w'->a v w'):Ret P f args w a :=
 Calls.mono h λe w' ⟨v,he,hR⟩=>⟨v,he,hr v w' hR⟩
theorem SH.unpure {p:Prop} (h:SH r (zZ p::L) w):p/\SH r L w:=by obtain⟨S1,a,b,c,hd,hA,hL⟩:=h.sep;exact⟨hA,h.tail⟩
theorem SH.pure_ {p:Prop} (hp:p) (h:SH r L w):SH r (zZ p::L) w :=
 ⟨h.os,h.tape,h.output,λ_=>False,_,λ_ h=>h.elim,λ_ h=>h,λ_ h=>h.elim,hp,h.sep⟩
end
abbrev Hd:=Option Addr×Nat×Nat
def kE {α:Type} (dp:Kd (α×Hd)):Kd α where
 sz:=dp.sz
 V x cs:=∃ h,dp.V (x,h) cs
 len h:=by obtain⟨q,h⟩:=h;exact dp.len h
 one h:=by obtain⟨q,h⟩:=h;exact dp.one h
section
variable {r w:World} {L:List HP} {α β:Type} {dp:Kd (α×Hd)} {d:Kd β} {e e':TypeId} {g:α->List β} {A:Option Addr} {n c:Nat} {xs:List α} {ps:List (α×Hd)}
def inn (d:Kd β) (e':TypeId) (g:α->List β) (p:α×Hd):HP:=own d e' p.2.1 p.2.2.1 p.2.2.2 (g p.1)
def uK (d:Kd β) (e':TypeId) (g:α->List β) (ps:List (α×Hd)):HP:=star (ps.map (inn d e' g))
def own2 (dp:Kd (α×Hd)) (d:Kd β) (e':TypeId) (g:α->List β) (e:TypeId) (A:Option Addr) (n c:Nat) (xs:List α):HP :=
 ex λps:List (α×Hd)=>star [own dp e A n c ps,uK d e' g ps,zZ (ps.map Prod.fst=xs)]
theorem SH.tl {B:HP} {L L':List HP} (h:SH r (B::L) w) (hi:∀ S,Sep L w S->Sep L' w S):SH r (B::L') w:=by obtain⟨S1,a,b,c,hd,hB,hL⟩:=h.sep;exact⟨h.os,h.tape,h.output,S1,a,b,c,hd,hB,hi _ hL⟩
theorem SH.sh {L':List HP} (h:SH r L w) (hi:∀ S,Sep L w S->Sep L' w S):SH r L' w:=⟨h.os,h.tape,h.output,hi _ h.sep⟩
theorem Sep.unstar:∀ {Ls L:List HP} {S:Nat->Prop},Sep (E.star Ls::L) w S->Sep (Ls++L) w S
 | [],L,S,⟨S1,S2,h1,h2,hd,hA,hL⟩=>hL.mono h2
 | B::Ls,L,S,⟨S1,S2,h1,h2,hd,⟨T1,T2,g1,g2,gd,hB,hLs⟩,hL⟩ =>
  ⟨T1,λk=>T2 k\/S2 k,λk q=>h1 k (g1 k q),λk q=>q.elim (λq=>h1 k (g2 k q)) (λq=>h2 k q),λk q a=>a.elim (gd k q) (λa=>hd k (g1 k q) a),hB,
   Sep.unstar (Ls:=Ls) ⟨T2,S2,λ_=>.inl,λ_=>.inr,λk q a=>hd k (g2 k q) a,hLs,hL⟩⟩
theorem Sep.tl {B:HP} {L L':List HP} {S:Nat->Prop} (h:Sep (B::L) w S) (hi:∀ S,Sep L w S->Sep L' w S):Sep (B::L') w S:=by obtain⟨S1,a,b,c,hd,hB,hL⟩:=h;exact⟨S1,a,b,c,hd,hB,hi _ hL⟩
theorem qK {p:α×Hd} {S:Nat->Prop}:Sep (uK d e' g (p::ps)::L) w S↔Sep (inn d e' g p::uK d e' g ps::L) w S:=by
 constructor
 ·intro h;have a:Sep (inn d e' g p::(ps.map (inn d e' g)++L)) w S:=Sep.unstar (Ls:=(p::ps).map (inn d e' g)) h;exact a.tl λS hS=>Sep.star hS
 ·intro h;have a:Sep (inn d e' g p::(ps.map (inn d e' g)++L)) w S:=h.tl λS hS=>Sep.unstar hS;exact Sep.star (Ls:=(p::ps).map (inn d e' g)) a
theorem aBu:∀ {ps:List (α×Hd)} {i:Nat} {p:α×Hd} {L:List HP} {S:Nat->Prop},ps[i]?=some p->(Sep (uK d e' g ps::L) w S↔Sep (inn d e' g p::uK d e' g (ps.eraseIdx i)::L) w S)
 | [],i,p,L,S,h=>by simp at h
 | q::ps,0,p,L,S,h=>by simp only [List.getElem?_cons_zero,Option.some.injEq] at h;subst h;exact qK
 | q::ps,i+1,p,L,S,h=>by
  have ih:∀ {S},Sep (uK d e' g ps::L) w S↔Sep (inn d e' g p::uK d e' g (ps.eraseIdx i)::L) w S:=aBu (by simpa using h);rw [qK,List.eraseIdx_cons_succ];constructor
  ·intro h;exact (Sep.swap (h.tl λS hS=>ih.1 hS)).tl λS hS=>qK.2 hS
  ·intro h;exact (Sep.swap (h.tl λS hS=>qK.1 hS)).tl λS hS=>ih.2 hS
theorem aU4 {i:Nat} {p:α×Hd} {S:Nat->Prop} (hi:i<ps.length) (h:Sep (inn d e' g p::uK d e' g (ps.eraseIdx i)::L) w S):Sep (uK d e' g (ps.set i p)::L) w S:=by have a:(ps.set i p)[i]?=some p:=List.getElem?_set_self hi;rw [aBu a,List.eraseIdx_set_eq];exact h
theorem aZ1 {i:Int} {x:α} (a:ps.map Prod.fst=xs) (hx:at_ xs i=some x):∃ b c d,at_ ps i=some (x,b,c,d):=by
 have h:=(jL hx).2.2;have h0:=(jL hx).1;rw [← a,List.getElem?_map] at h;cases hq:ps[i.toNat]? with
 | none=>rw [hq] at h;cases h
 | some q=>rw [hq] at h;cases h;exact⟨q.2.1,q.2.2.1,q.2.2.2,by unfold at_;rw [if_pos h0];exact hq⟩
theorem aGc (h:SH r (own2 dp d e' g e A n c xs::L) w):∃ ps,ps.map Prod.fst=xs/\SH r (own dp e A n c ps::uK d e' g ps::L) w:=by
 obtain⟨ps,h⟩:=h.unex;have a:SH r (own dp e A n c ps::uK d e' g ps::zZ (ps.map Prod.fst=xs)::L) w:=h.unstar;obtain⟨S,hS⟩:=a.get 2 rfl;exact⟨ps,hS,a.tl λS hS=>hS.tl λS hS=>by
  obtain⟨S1,f,a,b,hd,hA,hL⟩:=hS;exact hL.mono b⟩
theorem aDp (a:ps.map Prod.fst=xs) (h:SH r (own dp e A n c ps::uK d e' g ps::L) w):SH r (own2 dp d e' g e A n c xs::L) w:=by refine SH.ex ps (SH.star (Ls:=[own dp e A n c ps,uK d e' g ps,zZ (ps.map Prod.fst=xs)]) (h.tl λS hS=>hS.tl λS hS=>?_));exact⟨λ_=>False,S,λ_ h=>h.elim,λ_ h=>h,λ_ h=>h.elim,a,hS⟩
theorem aA0 {i:Int} {x:α} (h:SH r (own2 dp d e' g e A n c xs::L) w) (hx:at_ xs i=some x) :
  ∃ ps a b f,ps.map Prod.fst=xs/\at_ ps i=some (x,a,b,f)/\SH r (own dp e A n c ps::own d e' a b f (g x)::uK d e' g (ps.eraseIdx i.toNat)::L) w:=by
 obtain⟨ps,j,h⟩:=aGc h;obtain⟨a,b,f,hp⟩:=aZ1 j hx;exact⟨ps,a,b,f,j,hp,h.tl λS hS=>(aBu (jL hp).2.2).1 hS⟩
theorem aUi {i:Int} {x:α} {a:Option Addr} {b f:Nat} (j:ps.map Prod.fst=xs) (hp:at_ ps i=some (x,a,b,f)) (h:SH r (own dp e A n c ps::own d e' a b f (g x)::uK d e' g (ps.eraseIdx i.toNat)::L) w) :
  SH r (own2 dp d e' g e A n c xs::L) w:=aDp j (h.tl λS hS=>(aBu (jL hp).2.2).2 hS)
theorem aL2 {i:Int} {p:α×Hd} {x':α} {a:Option Addr} {b f:Nat} (j:ps.map Prod.fst=xs) (hp:at_ ps i=some p) (h:SH r (own dp e A n c (ps.set i.toNat (x',a,b,f))::own d e' a b f (g x')::uK d e' g (ps.eraseIdx i.toNat)::L) w) :
  SH r (own2 dp d e' g e A n c (xs.set i.toNat x')::L) w:=by
 refine aDp (ps:=ps.set i.toNat (x',a,b,f)) ?_ (h.tl λS hS=>aU4 (List.getElem?_eq_some_iff.1 (jL hp).2.2).1 hS);rw [List.map_set,j]
theorem Lay.fst {dp:Kd (α×Hd)}:∀ {ps:List (α×Hd)} {cs:List Value},Lay dp ps cs->Lay (kE dp) (ps.map Prod.fst) cs
 | [],_,h=>h
 | p::ps,_,⟨c1,c2,e,hV,hL⟩=>⟨c1,c2,e,⟨p.2,hV⟩,Lay.fst hL⟩
theorem Rd.fst {w:World} (a:ps.map Prod.fst=xs) (h:Rd dp w A ps):Rd (kE dp) w A xs:=by
 subst a;intro b;obtain⟨ad,rfl,hr⟩:=h (by simpa using b);refine⟨ad,rfl,λj x hx=>?_⟩;rw [List.getElem?_map] at hx;cases hq:ps[j]? with
 | none=>rw [hq] at hx;cases hx
 | some q =>
  rw [hq] at hx;cases hx;obtain⟨cs,c,hc⟩:=hr j q hq;exact⟨cs,⟨q.2,c⟩,hc⟩
theorem SH.rdp (hS:SH r L w) (q:Nat) (h:L[q]?=some (own dp e A n c ps)) (a:ps.map Prod.fst=xs):Rd (kE dp) w A xs/\xs.length=n/\n<=c/\c<=maxLen:=by obtain⟨b,d,f,g⟩:=hS.rd q h;exact⟨b.fst a,by rw [← a,List.length_map];exact d,f,g⟩
theorem aUj (h:SH r L w):SH r (own2 dp d e' g e none 0 0 []::L) w:=aDp (ps:=[]) rfl ((SH.nil_own h).tl λS hS=>Sep.star (Ls:=[]) hS)
end
end Go.Proofs.YtdkpjpoajlmmfaaGreatDoor.E
namespace Go.Proofs.YtdkpjpoajlmmfaaGreatDoor.E
open Go Go.RowKit Go.Lib
set_option linter.unusedVariables false
set_option linter.unusedSimpArgs false
section
variable {α:Type} {d:Kd α}
def LayO (d:Kd α):List (Option α)->List Value->Prop
 | [],cs=>cs=[]
 | o::os,cs=>∃ c1 c2,cs=c1++c2/\c1.length=d.sz/\(∀ x,o=some x->d.V x c1)/\LayO d os c2
theorem LayO.length:∀ {os:List (Option α)} {cs:List Value},LayO d os cs->cs.length=os.length * d.sz
 | [],_,h=>by cases h;simp
 | o::os,_,⟨c1,c2,e,hl,hV,hL⟩=>by rw [e,List.length_append,hl,LayO.length hL,List.length_cons,Nat.add_mul];omega
theorem LayO.of_lay:∀ {xs:List α} {cs:List Value},Lay d xs cs->LayO d (xs.map some) cs
 | [],_,h=>h
 | x::xs,_,⟨c1,c2,e,hV,hL⟩=>⟨c1,c2,e,d.len hV,λy a=>by cases a;exact hV,LayO.of_lay hL⟩
theorem LayO.lay:∀ {xs:List α} {cs:List Value},LayO d (xs.map some) cs->Lay d xs cs
 | [],_,h=>h
 | x::xs,_,⟨c1,c2,e,hl,hV,hL⟩=>⟨c1,c2,e,hV x rfl,LayO.lay hL⟩
theorem LayO.none_:∀ (m:Nat) {cs:List Value},cs.length=m * d.sz->LayO d (List.replicate m none) cs
 | 0,cs,h=>List.eq_nil_of_length_eq_zero (by simpa using h)
 | m+1,cs,h=>by rw [Nat.add_mul,Nat.one_mul] at h;exact⟨cs.take d.sz,cs.drop d.sz,(List.take_append_drop _ _).symm,by rw [List.length_take];omega,(λx hx=>nomatch hx),LayO.none_ m (by rw [List.length_drop];omega)⟩
theorem LayO.append:∀ {os ps:List (Option α)} {c1 c2:List Value},LayO d os c1->LayO d ps c2->LayO d (os++ps) (c1++c2)
 | [],_,_,_,h,h2=>by cases h;exact h2
 | o::os,ps,_,c2,⟨q1,q2,e,hl,hV,hL⟩,h2=>⟨q1,q2++c2,by rw [e,List.append_assoc],hl,hV,LayO.append hL h2⟩
theorem LayO.take:∀ {os:List (Option α)} {cs:List Value},LayO d os cs->∀ m,LayO d (os.take m) (cs.take (m * d.sz))
 | [],_,h,m=>by cases h;simp [LayO]
 | o::os,_,⟨c1,c2,e,hl,hV,hL⟩,0=>by simp [LayO]
 | o::os,_,⟨c1,c2,e,hl,hV,hL⟩,m+1=>by subst e;refine⟨c1,_,?_,hl,hV,LayO.take hL m⟩;rw [show (m+1) * d.sz=c1.length+m * d.sz by rw [hl,Nat.add_mul];omega,List.take_append,List.take_of_length_le (by omega),Nat.add_sub_cancel_left]
theorem LayO.drop:∀ {os:List (Option α)} {cs:List Value},LayO d os cs->∀ m,LayO d (os.drop m) (cs.drop (m * d.sz))
 | [],_,h,m=>by cases h;simp [LayO]
 | o::os,cs,h,0=>by simpa using h
 | o::os,_,⟨c1,c2,e,hl,hV,hL⟩,m+1=>by subst e;show LayO d (os.drop m) _;rw [show (m+1) * d.sz=c1.length+m * d.sz by rw [hl,Nat.add_mul];omega,List.drop_append,List.drop_eq_nil_of_le (show c1.length<=c1.length+m * d.sz by omega),List.nil_append,Nat.add_sub_cancel_left];exact LayO.drop hL m
def row (d:Kd α) (e:TypeId) (g c:Nat) (os:List (Option α)):HP where
 P w S:=(S g/\os.length=c/\c<=maxLen)/\∃ cur:Array Value,w.heap[g]?=some (.cells cur e (0,0))/\LayO d os cur.toList
 fr h hk:=⟨h.1,by obtain⟨cur,a,b⟩:=h.2;exact⟨cur,(hk _ h.1.1).trans a,b⟩⟩
 mono h hs:=⟨⟨hs _ h.1.1,h.1.2⟩,h.2⟩
end
section
variable {r w:World} {L:List HP} {α:Type} {d:Kd α} {e:TypeId} {A:Option Addr} {n c g:Nat} {xs:List α} {os:List (Option α)}
theorem aWv (hc:0<c) (h:SH r (own d e A n c xs::L) w):∃ g,A=some ⟨g,0,none⟩/\SH r (row d e g c (xs.map some++List.replicate (c - n) none)::L) w:=by
 obtain⟨S1,b,f,i,hd,⟨hn,⟨inner,j,k⟩,hS⟩,hL⟩:=h.sep;subst hn;rcases k.2 with ⟨a,_⟩ | ⟨g,cap,cur,a,_,l,p,m,hs,ht⟩
 ·injection a with _ _ h3;omega
 ·injection a with hA _ hc';subst hA hc';refine⟨g,rfl,h.os,h.tape,h.output,S1,b,f,i,hd,⟨⟨hS _ rfl,by simp;omega,m⟩,cur,l,?_⟩,hL⟩;have o:cur.toList=inner++cur.toList.drop (xs.length * d.sz):=by rw [← ht,List.take_append_drop]
  rw [o];refine (LayO.of_lay j).append (LayO.none_ _ ?_);rw [List.length_drop,Array.length_toList,hs,Nat.sub_mul]
theorem aQ6 (h:SH r (row d e g c os::L) w) (hx:os.take xs.length=xs.map some) (hn:xs.length=n):SH r (own d e (some ⟨g,0,none⟩) n c xs::L) w:=by
 refine h.imp λS hS=>?_;obtain⟨⟨hg,hl,b⟩,cur,f,a⟩:=hS;have hle:xs.length<=c:=by have:=congrArg List.length hx;rw [List.length_take,List.length_map] at this;omega
 refine aDq f hg hn hle b (by have:=a.length;simpa [hl] using this) ?_;have:=a.take xs.length;rw [hx] at this;exact this.lay
theorem aU3 {lo:Nat} {ys:List α} (h:SH r L w) (q:Nat) (b:L[q]?=some (row d e g c os)) (f:(os.drop lo).take ys.length=ys.map some):Rd d w (some ⟨g,lo * d.sz,none⟩) ys:=by
 obtain⟨S,⟨hg,hl,l⟩,cur,i,k⟩:=h.get q b;intro _;have a:=(k.drop lo).take ys.length;rw [f] at a;refine⟨_,rfl,RdA.of_lay a.lay λj u hu=>?_⟩;rw [gJ];simp only [World.cell?,i];rw [List.getElem?_take] at hu;split at hu
 ·rw [List.getElem?_drop] at hu;simpa using hu
 ·cases hu
end
section
variable {P:Program} {r w:World} {L:List HP} {α:Type} {d:Kd α} {e t:TypeId} {n c g:Nat} {os:List (Option α)} {o:Oper} {a:Act} {K:Act->World->Prop} {Q:Exit->Act->World->Prop} {x y:Operand}
theorem aMc {lo:Nat} {ys:List α} {cells:List Value} {L':List HP} (hS:SH r (row d e g c os::L') w) (hlo:lo+ys.length<=c) (hL:Lay d ys cells) {cur:Array Value} (a:w.heap[g]?=some (.cells cur e (0,0))) :
  SH r (row d e g c (os.take lo++ys.map some++os.drop (lo+ys.length))::L') (w.setRow g (cur.toList.take (lo * d.sz)++cells++cur.toList.drop (lo * d.sz+cells.length)).toArray):=by
 obtain⟨S1,p,i,j,hd,⟨⟨hg,hl,l⟩,q,b,f⟩,m⟩:=hS.sep;rw [a] at b;cases b;refine hS.upd (w':=w.setRow g (cur.toList.take (lo * d.sz)++cells++cur.toList.drop (lo * d.sz+cells.length)).toArray) i j hd m rfl rfl rfl (by simp [World.setRow]) (λk hk n=>aBv λe=>n (by rw [e];exact hg)) (Ls:=[row d e g c (os.take lo++ys.map some++os.drop (lo+ys.length))]) λS o _ _ =>
  ⟨S,λ_=>False,λ_ h=>h,λ_ h=>h.elim,λ_ _ h=>h,⟨⟨o _ hg,by simp;omega,l⟩,_,setRow_heap w g _ _ e (0,0) a,?_⟩,trivial⟩
 rw [List.toList_toArray,hL.length, ← Nat.add_mul];exact ((f.take lo).append (LayO.of_lay hL)).append (f.drop (lo+ys.length))
theorem aMb (hS:SH r (row d e g c os::L) w):∃ cur:Array Value,w.heap[g]?=some (.cells cur e (0,0))/\cur.size=c * d.sz/\os.length=c:=by obtain⟨S,⟨hg,hl,f⟩,cur,a,b⟩:=hS.get 0 rfl;exact⟨cur,a,by have:=b.length;rw [hl] at this;simpa using this,hl⟩
theorem aI3 {A:Option Addr} {ys:List α} (hr:Rd d w A ys) (h:0<ys.length):∃ ad cells,A=some ad/\Lay d ys cells/\∀ j u,cells[j]?=some u->w.cell? (ad.add j)=some u:=by obtain⟨ad,hA,a⟩:=hr h;obtain⟨cells,hL,hc⟩:=a.cells;exact⟨ad,cells,hA,hL,hc⟩
theorem aTm (i:Nat) {lo dl dc n2 c2:Nat} {A2:Option Addr} {ys:List α} {t':TypeId} {L':List HP} (hS:SH r L w) (hL:pk i L=row d e g c os::L') (ht:P.underlying t=some (.slice e)) (hi:(P.info? e).map (·.size)=some d.sz)
  (n:o.op=.call { callee:=.builtin .copy,args:=#[x,y],argTypes:=#[t,t'] }) (hx:a.eval x=.slice (some ⟨g,lo * d.sz,none⟩) dl dc) (p:a.eval y=.slice A2 n2 c2) (hr:Rd d w A2 (ys.take (min n2 dl))) (hk:0<min n2 dl) (hlen:min n2 dl<=ys.length)
  (hlo:lo+min n2 dl<=c) (hK:∀ v w',SH r (row d e g c (os.take lo++(ys.take (min n2 dl)).map some++os.drop (lo+min n2 dl))::L') w'->K (a.put o.dst v) w'):o.wp P a w K Q:=by
 have b:=hS.pk i;rw [hL] at b;have f:(ys.take (min n2 dl)).length=min n2 dl:=by rw [List.length_take];omega
 obtain⟨ad,cells,rfl,j,hc⟩:=aI3 hr (by omega);obtain⟨cur,k,D,E⟩:=aMb b;obtain⟨inf,q,s⟩:=Option.map_eq_some_iff.1 hi;have u:cells.length=min n2 dl * d.sz:=by rw [j.length,f]
 have z:(lo+min n2 dl) * d.sz<=c * d.sz:=Nat.mul_le_mul_right _ hlo;rw [Nat.add_mul] at z;have l:=run_storeCells_at P g (lo * d.sz) e cells 0 cur w k (by omega) j.one;have m:=run_loadCells_list (P:=P) w ad cells hc;rw [u] at m;have A:(Builtin.copy_ #[t,t'] o.type #[.slice (some ⟨g,lo * d.sz,none⟩) dl dc,.slice (some ad) n2 c2]).run P w=.ok (goInt ((Nat.min n2 dl:Nat):Int)) (w.setRow g (cur.toList.take (lo * d.sz)++cells++cur.toList.drop (lo * d.sz+cells.length)).toArray):=by simp only [Nat.add_zero] at l;have B:(loadCells ad (Nat.min n2 dl * d.sz)).run P w=.ok cells.toArray w:=m;simp [Builtin.copy_,run_underlying ht,sizeOf,typeInfo,q,s,Builtin.lenOf,Builtin.firstCells,B,l]
 have h:(execOp a.eval o).run P w=.ok (.value (goInt ((Nat.min n2 dl:Nat):Int))) (w.setRow g (cur.toList.take (lo * d.sz)++cells++cur.toList.drop (lo * d.sz+cells.length)).toArray):=by
  unfold execOp;rw [n];simp only [resolve,Sem.run_bind,Sem.run_pure,Result.andThen_ok,invoke];have C:#[x,y].map a.eval=#[.slice (some ⟨g,lo * d.sz,none⟩) dl dc,.slice (some ad) n2 c2]:=by simp [hx,p]
  rw [C];show (do pure (.value (← Builtin.copy_ #[t,t'] o.type _)):Sem Next).run P w=_;rw [Sem.run_bind,A];rfl
 unfold Oper.wp;rw [h];have:=aMc b (lo:=lo) (by rw [f];exact hlo) j k;rw [f] at this;exact hK _ _ this
theorem aGh (z:Array Value) (k:Nat):(Builtin.zeroCells z k).toList=(List.replicate k z.toList).flatten:=by
 apply List.ext_getElem?;intro i;rcases Nat.lt_or_ge i (k * z.size) with hi | hi
 ·have hz:0<z.size:=Nat.pos_of_ne_zero λh=>by rw [h] at hi;omega
  have hm:i % z.size<z.size:=Nat.mod_lt _ hz;rw [qS _ _ _ (by simpa using hi)];simp [Builtin.zeroCells,hi,hm]
 ·rw [List.getElem?_eq_none (by simp [size_zeroCells,hi]),List.getElem?_eq_none (by simp [List.length_flatten,hi])]
theorem aJ3 {z:Array Value} {z0:α} (hz:d.V z0 z.toList) (k:Nat):Lay d (List.replicate k z0) (Builtin.zeroCells z k).toList:=by
 rw [aGh]
 induction k with
 | zero=>rfl
 | succ k ih=>exact⟨_,_,rfl,hz,ih⟩
theorem aV9 (i:Nat) {lo m mc:Nat} {z:Value} {z0:α} {L':List HP} (hS:SH r L w) (hL:pk i L=row d e g c os::L') (ht:P.underlying t=some (.slice e)) (hi:(P.info? e).bind (·.zero)=some z) (hz:d.V z0 z.cells.toList)
  (n:o.op=.call { callee:=.builtin .clear,args:=#[x],argTypes:=#[t] }) (hx:a.eval x=.slice (some ⟨g,lo * d.sz,none⟩) m mc) (hm:0<m) (hlo:lo+m<=c)
  (hK:∀ v w',SH r (row d e g c (os.take lo++(List.replicate m z0).map some++os.drop (lo+m))::L') w'->K (a.put o.dst v) w'):o.wp P a w K Q:=by
 have b:=hS.pk i;rw [hL] at b;obtain⟨cur,j,A,B⟩:=aMb b;have f:=aJ3 hz m;obtain⟨inf,p,q⟩:=Option.bind_eq_some_iff.1 hi;have C:(Builtin.zeroCells z.cells m).toList.length=m * d.sz:=by rw [f.length,List.length_replicate]
 have s:(lo+m) * d.sz<=c * d.sz:=Nat.mul_le_mul_right _ hlo;rw [Nat.add_mul] at s;have l:=run_storeCells_at P g (lo * d.sz) e (Builtin.zeroCells z.cells m).toList 0 cur w j (by omega) f.one;have u:(Builtin.clear_ #[t] o.type #[.slice (some ⟨g,lo * d.sz,none⟩) m mc]).run P w=.ok (.tuple #[]) (w.setRow g (cur.toList.take (lo * d.sz)++(Builtin.zeroCells z.cells m).toList++cur.toList.drop (lo * d.sz+(Builtin.zeroCells z.cells m).toList.length)).toArray):=by simp only [Nat.add_zero] at l;obtain⟨k,rfl⟩:∃ k,m=k+1:=⟨m - 1,by omega⟩;simp [Builtin.clear_,run_underlying ht,zeroValue,typeInfo,p,q,l]
 have h:(execOp a.eval o).run P w=.ok (.value (.tuple #[])) (w.setRow g (cur.toList.take (lo * d.sz)++(Builtin.zeroCells z.cells m).toList++cur.toList.drop (lo * d.sz+(Builtin.zeroCells z.cells m).toList.length)).toArray):=by
  unfold execOp;rw [n];simp only [resolve,Sem.run_bind,Sem.run_pure,Result.andThen_ok,invoke];have y:#[x].map a.eval=#[.slice (some ⟨g,lo * d.sz,none⟩) m mc]:=by simp [hx]
  rw [y];show (do pure (.value (← Builtin.clear_ #[t] o.type _)):Sem Next).run P w=_;rw [Sem.run_bind,u];rfl
 unfold Oper.wp;rw [h];have:=aMc b (lo:=lo) (ys:=List.replicate m z0) (by rw [List.length_replicate];exact hlo) f j;rw [List.length_replicate] at this;exact hK _ _ this
theorem aLh (i:Nat) {k n2 c2:Nat} {A2:Option Addr} {ys:List α} {L':List HP} (hS:SH r L w) (hL:pk i L=row d e g c os::L') (ht:P.underlying t=some (.slice e)) (hi:(P.info? e).map (·.size)=some d.sz)
  (q:o.op=.call { callee:=.builtin .append,args:=#[x,y],argTypes:=#[t,t] }) (hx:a.eval x=.slice (some ⟨g,0,none⟩) k c) (s:a.eval y=.slice A2 n2 c2) (hr:Rd d w A2 ys) (hn2:ys.length=n2) (b:k+n2<=c)
  (hK:∀ w',SH r (row d e g c (os.take k++ys.map some++os.drop (k+n2))::L') w'->K (a.put o.dst (.slice (some ⟨g,0,none⟩) (k+n2) c)) w'):o.wp P a w K Q:=by
 subst hn2;have f:=hS.pk i;rw [hL] at f;rcases Nat.eq_zero_or_pos ys.length with v | h0
 ·have z:=List.eq_nil_of_length_eq_zero v;subst z;obtain⟨inf,n,j⟩:=Option.map_eq_some_iff.1 hi;have l:(Builtin.append_ #[t,t] o.type #[.slice (some ⟨g,0,none⟩) k c,.slice A2 0 c2]).run P w=.ok (.slice (some ⟨g,0,none⟩) k c) w:=by
   have A:k<=c:=by simpa using b
   have B:∀ ad,(loadCells ad 0).run P w=.ok #[] w:=λad=>by simp [loadCells,loadCellsFrom]
   cases A2 <;> simp [Builtin.append_,run_underlying ht,sizeOf,typeInfo,n,Builtin.lenOf,Builtin.firstCells,A,storeCells,B]
  have h:(execOp a.eval o).run P w=.ok (.value (.slice (some ⟨g,0,none⟩) k c)) w:=by
   unfold execOp;rw [q];simp only [resolve,Sem.run_bind,Sem.run_pure,Result.andThen_ok,invoke];have p:#[x,y].map a.eval=#[.slice (some ⟨g,0,none⟩) k c,.slice A2 0 c2]:=by simp [hx,s]
   rw [p];show (do pure (.value (← Builtin.append_ #[t,t] o.type _)):Sem Next).run P w=_;rw [Sem.run_bind,l];rfl
  unfold Oper.wp;rw [h];have:=hK w;simp only [List.map_nil,List.append_nil,List.length_nil,Nat.add_zero,List.take_append_drop] at this;exact this f
 obtain⟨ad,cells,rfl,m,hc⟩:=aI3 hr h0;obtain⟨cur,u,D,E⟩:=aMb f;obtain⟨inf,n,j⟩:=Option.map_eq_some_iff.1 hi;have C:(k+ys.length) * d.sz<=c * d.sz:=Nat.mul_le_mul_right _ b;rw [Nat.add_mul] at C;have l:=run_append_room (P:=P) w t o.type e inf ht n g k c cur u ad ys.length c2 cells (by rw [j];exact m.length) hc m.one b (by rw [j,m.length];omega);rw [j] at l;have h:(execOp a.eval o).run P w=.ok (.value (.slice (some ⟨g,0,none⟩) (k+ys.length) c)) (w.setRow g (cur.toList.take (k * d.sz)++cells++cur.toList.drop (k * d.sz+cells.length)).toArray):=by
  unfold execOp;rw [q];simp only [resolve,Sem.run_bind,Sem.run_pure,Result.andThen_ok,invoke];have p:#[x,y].map a.eval=#[.slice (some ⟨g,0,none⟩) k c,.slice (some ad) ys.length c2]:=by simp [hx,s]
  rw [p];show (do pure (.value (← Builtin.append_ #[t,t] o.type _)):Sem Next).run P w=_;rw [Sem.run_bind,l];rfl
 unfold Oper.wp;rw [h];exact hK _ (aMc f b m u)
theorem aH3 {k m cS bytes:Nat} {A:Option Addr} {z:Value} {z0:α} {kq kn:IntKind} {tn:TypeId} {ys:List α} (hS:SH r L w) (ht:P.underlying t=some (.slice e)) (htn:P.underlying tn=some (.int kn))
  (hi:(P.info? e).map (λi=>(i.zero,i.size,i.bytes))=some (some z,d.sz,bytes)) (hz:d.V z0 z.cells.toList) (p:o.op=.call { callee:=.builtin .append,args:=#[x,y],argTypes:=#[t,tn] })
  (hx:a.eval x=.slice A k cS) (q:a.eval y=.int kq (m:Int)) (hr:Rd d w A ys) (hk:ys.length=k) (h0:0<m) (hs:0<d.sz) (hg:cS<k+m) (hb:(k+m) * bytes<=140737488355328) (s:0<bytes)
  (hK:∀ c f w',SH r (own d e (some ⟨c,0,none⟩) (k+m) f (ys++List.replicate m z0)::L) w'->K (a.put o.dst (.slice (some ⟨c,0,none⟩) (k+m) f)) w'):o.wp P a w K Q:=by
 subst hk;obtain⟨inf,v,B,g,l⟩:=info_parts hi;obtain⟨cells,b,C⟩:∃ cells,Lay d ys cells/\(Builtin.firstCells inf.size ys.length (.slice A ys.length cS)).run P w.drew=.ok cells.toArray w.drew:=by
  rcases Nat.eq_zero_or_pos ys.length with h | h
  ·have:=List.eq_nil_of_length_eq_zero h;subst this;cases A with
   | none=>exact⟨[],rfl,run_firstCells_none (P:=P) (w:=w.drew) inf.size 0 0 cS⟩
   | some ad=>exact⟨[],rfl,run_firstCells_some (P:=P) (w:=w.drew) inf.size 0 ad 0 cS [] (by simp) (λj u hu=>by simp at hu)⟩
  ·obtain⟨D,cells,hA,b,hc⟩:=aI3 hr h;cases hA;exact⟨cells,b,run_firstCells_some (P:=P) (w:=w.drew) inf.size ys.length D ys.length cS cells (by rw [g];exact b.length) hc⟩
 have hle:(ys.length+m) * 1<=(ys.length+m) * bytes:=Nat.mul_le_mul_left _ s;have N:m * bytes<=(ys.length+m) * bytes:=Nat.mul_le_mul_right _ (by omega);have E:=run_append_grow_zeros (P:=P) w t tn o.type e inf z kq kn ht htn v B A ys.length cS cells C m h0 (by rw [g];exact hs) hg (by omega) (by rw [l];omega) (by rw [l];exact growslice_fits hg hb);have h:(execOp a.eval o).run P w=.ok (.value (.slice (some ⟨w.heap.size,0,none⟩) (ys.length+m) (grownCap w (ys.length+m) cS e)))
   (w.drew.alloc (.cells (cells.toArray++Builtin.zeroCells z.cells m++Builtin.zeroCells z.cells (grownCap w (ys.length+m) cS e - (ys.length+m))) e)):=by
  unfold execOp;rw [p];simp only [resolve,Sem.run_bind,Sem.run_pure,Result.andThen_ok,invoke];have F:#[x,y].map a.eval=#[.slice A ys.length cS,.int kq (m:Int)]:=by simp [hx,q]
  rw [F];show (do pure (.value (← Builtin.append_ #[t,tn] o.type _)):Sem Next).run P w=_;rw [Sem.run_bind,E];rfl
 unfold Oper.wp;rw [h];have G:z.cells.size=d.sz:=by simpa using d.len hz
 have O:=grownCap_ge w (ys.length+m) cS e;have H:grownCap w (ys.length+m) cS e<=maxLen:=grownCap_le_maxLen w (ys.length+m) cS e (by simp only [maxLen];omega);generalize R:grownCap w (ys.length+m) cS e=cap at *;refine hK _ _ _ (hS.new (w':=w.drew.alloc (.cells (cells.toArray++Builtin.zeroCells z.cells m++Builtin.zeroCells z.cells (cap - (ys.length+m))) e)) rfl rfl rfl (by simp) (λk hk=>heap_alloc_old w.drew _ hk) (Ls:=[own d e (some ⟨w.heap.size,0,none⟩) (ys.length+m) cap (ys++List.replicate m z0)]) λS I =>
  ⟨S,λ_=>False,λ_ h=>h,λ_ h=>h.elim,λ_ _ h=>h,?_,trivial⟩)
 have n:Lay d (ys++List.replicate m z0) (cells++(Builtin.zeroCells z.cells m).toList):=b.append (aJ3 hz m);have J:=n.length;refine aDq (heap_alloc_new w.drew _) (I _ (Nat.le_refl _) (by simp)) (by simp) (by simp;omega) H ?_ ?_
 ·simp only [Array.size_append,List.size_toArray,size_zeroCells,G,b.length, ← Nat.add_mul];congr 1;omega
 ·have M:(cells.toArray++Builtin.zeroCells z.cells m++Builtin.zeroCells z.cells (cap - (ys.length+m))).toList=(cells++(Builtin.zeroCells z.cells m).toList)++(Builtin.zeroCells z.cells (cap - (ys.length+m))).toList:=by simp
  rw [M, ← J,List.take_left];exact n
def aPu:List (Option α)->Option (List α)
 | []=>some []
 | none::_=>none
 | some x::os=>(aPu os).map (x::·)
theorem aKr:∀ {os:List (Option α)} {ys:List α},aPu os=some ys->os=ys.map some
 | [],ys,h=>by cases h;rfl
 | none::os,ys,h=>by cases h
 | some x::os,ys,h=>by
  unfold aPu at h;cases hq:aPu os with
  | none=>rw [hq] at h;cases h
  | some zs=>rw [hq] at h;cases h;rw [aKr hq];rfl
theorem aOa:∀ (ys:List α),aPu (ys.map some)=some ys
 | []=>rfl
 | y::ys=>by show (aPu (ys.map some)).map (y::·)=_;rw [aOa ys];rfl
def rdo (os:List (Option α)) (lo k:Nat):Option (List α):=if lo+k<=os.length then aPu ((os.drop lo).take k) else none
theorem aCz {lo k:Nat} {ys:List α} (h:rdo os lo k=some ys):ys.length=k/\(os.drop lo).take ys.length=ys.map some/\lo+k<=os.length:=by
 unfold rdo at h;split at h
 ·have e:=aKr h;have hl:=congrArg List.length e;rw [List.length_map,List.length_take,List.length_drop] at hl;have hk:ys.length=k:=by omega
  exact⟨hk,by rw [hk];exact e,by assumption⟩
 ·cases h
theorem aFf {A:Option Addr} {xs:List α} (hc:0<c) (h:SH r (own d e A n c xs::L) w):∃ g,A=some ⟨g,0,none⟩/\SH r (row d e g c (xs.map some++List.replicate (c - xs.length) none)::L) w:=by obtain⟨S,hS⟩:=h.get 0 rfl;have:=hS.1;rw [this];exact aWv hc h
theorem aL9 {xs:List α} {L':List HP} (h:SH r (row d e g c os::L') w) (hx:rdo os 0 n=some xs):SH r (own d e (some ⟨g,0,none⟩) n c xs::L') w:=by obtain⟨b,a,_⟩:=aCz hx;rw [List.drop_zero] at a;exact aQ6 h a b
theorem aO0 (i:Nat) {lo dl dc n2 c2:Nat} {A2:Option Addr} {xs ys:List α} {t':TypeId} {L':List HP} (hS:SH r L w) (hL:pk i L=own d e (some ⟨g,0,none⟩) n c xs::L') (ht:P.underlying t=some (.slice e)) (hi:(P.info? e).map (·.size)=some d.sz)
  (h:o.op=.call { callee:=.builtin .copy,args:=#[x,y],argTypes:=#[t,t'] }) (hx:a.eval x=.slice (some ⟨g,lo * d.sz,none⟩) dl dc) (j:a.eval y=.slice A2 n2 c2) (hr:Rd d w A2 (ys.take (min n2 dl))) (hk:0<min n2 dl) (hlen:min n2 dl<=ys.length)
  (hlo:lo+min n2 dl<=xs.length) (hK:∀ v w',SH r (own d e (some ⟨g,0,none⟩) n c (xs.take lo++ys.take (min n2 dl)++xs.drop (lo+min n2 dl))::L') w'->K (a.put o.dst v) w'):o.wp P a w K Q:=by
 have b:=hS.pk i;rw [hL] at b;obtain⟨S,f⟩:=b.get 0 rfl;have p:=f.1;have q:=(aCm f).1;obtain⟨s,hg,k⟩:=aFf (by omega) b;injection hg with hg;injection hg with hg;subst hg;refine aTm 0 k rfl ht hi h hx j hr hk hlen (by omega) λv w' l=>hK v w' (aQ6 l ?_ ?_)
 ·have m:(ys.take (min n2 dl)).length=min n2 dl:=by rw [List.length_take];omega
  simp only [List.map_append,List.length_append,m];rw [List.take_append_of_le_length (l₁:=xs.map some) (by rw [List.length_map];omega),List.drop_append_of_le_length (by rw [List.length_map];omega), ← List.append_assoc,
   List.take_append_of_le_length (by simp;omega),List.take_of_length_le (by simp;omega)]
  simp [List.map_take,List.map_drop]
 ·simp;omega
theorem slv {lo k sz:Nat} (h:k<c):(if c=k then some (⟨g,lo * sz,none⟩:Addr) else (some (⟨g,lo * sz,none⟩:Addr)).map (·.add (k * sz)))=some ⟨g,(lo+k) * sz,none⟩:=by rw [if_neg (by omega)];simp [gJ,Nat.add_mul]
end
section
variable {P:Program} {ops:Array Oper} {Q:Exit->Act->World->Prop} {rest:List Oper} {o:Oper} {a:Act} {w w':World} {K:Act->World->Prop} {r:World} {L:List HP} {α:Type} {d:Kd α} {e t' t2:TypeId} {n:Nat} {D:List Deferred} {t:Nat} {v:Value} {F:List (Nat×Value)}
 {c g k:Nat} {os:List (Option α)} {x y lo_ hi_ mx_:Operand} {A A2:Option Addr} {n1 c1 n2 c2:Nat} {xs ys:List α} {L':List HP}
theorem bAd (hA:FR n D a F) (hd:o.dst=some t) (ht:Nat.blt t n=true) (v:Value):FR n D (a.put o.dst v) ((t,v)::F):=by rw [hd];exact hA.put t _ (by have:=Nat.le_of_ble_eq_true ht;omega)
theorem cpk {dp dl:Nat} (a:ys.length=n2) (b:dp=dl):(ys.take (min ys.length dp)).length=min n2 dl:=by subst a b;rw [List.length_take];omega
theorem Rd.take_ {d:Kd α} (h:Rd d w A ys) (k:Nat):Rd d w A (ys.take k):=by intro a;obtain⟨ad,e,hr⟩:=h (by rw [List.length_take] at a;omega);exact⟨ad,e,hr.take k⟩
theorem aX7 (i:Nat) {lo dl dc:Nat} {zs:List α} (hS:SH r L w) (hL:pk i L=row d e g c os::L') (ht:P.underlying t'=some (.slice e)) (hi:(P.info? e).map (·.size)=some d.sz)
  (h:o.op=.call { callee:=.builtin .copy,args:=#[x,y],argTypes:=#[t',t2] }) (hx:a.eval x=.slice (some ⟨g,lo * d.sz,none⟩) dl dc) (j:a.eval y=.slice A2 n2 c2) (hr:Rd d w A2 zs) (hz:zs.length=min n2 dl) (hk:0<zs.length/\lo+zs.length<=c)
  (hK:∀ v w',SH r (row d e g c (os.take lo++zs.map some++os.drop (lo+zs.length))::L') w'->K (a.put o.dst v) w'):o.wp P a w K Q:=by
 have b:zs.take (min n2 dl)=zs:=List.take_of_length_le (by omega);refine aTm (ys:=zs) i hS hL ht hi h hx j (by rw [b];exact hr) (by omega) (by omega) (by omega) λv w' f=>hK v w' ?_;rw [b, ← hz] at f;exact f
theorem aX6 (i:Nat) {lo dl dc:Nat} {zs:List α} (hS:SH r L w) (hL:pk i L=own d e (some ⟨g,0,none⟩) n1 c xs::L') (ht:P.underlying t'=some (.slice e)) (hi:(P.info? e).map (·.size)=some d.sz)
  (h:o.op=.call { callee:=.builtin .copy,args:=#[x,y],argTypes:=#[t',t2] }) (hx:a.eval x=.slice (some ⟨g,lo * d.sz,none⟩) dl dc) (j:a.eval y=.slice A2 n2 c2) (hr:Rd d w A2 zs) (hz:zs.length=min n2 dl) (hk:0<zs.length/\lo+zs.length<=xs.length)
  (hK:∀ v w',SH r (own d e (some ⟨g,0,none⟩) n1 c (xs.take lo++zs++xs.drop (lo+zs.length))::L') w'->K (a.put o.dst v) w'):o.wp P a w K Q:=by
 have b:zs.take (min n2 dl)=zs:=List.take_of_length_le (by omega);refine aO0 (ys:=zs) i hS hL ht hi h hx j (by rw [b];exact hr) (by omega) (by omega) (by omega) λv w' f=>hK v w' ?_;rw [b, ← hz] at f;exact f
theorem bEd (i:Nat) {lo dl dc:Nat} {zs:List α} (ht:P.underlying t'=some (.slice e)) (hi:(P.info? e).map (·.size)=some d.sz) (hA:FR n D a F) (hS:SH r L w) (hr:Rd d w A2 zs) (hz:zs.length=min n2 dl) (hk:0<zs.length/\lo+zs.length<=c) (hL:pk i L=row d e g c os::L')
  (kk:∀ v w',SH r (row d e g c (os.take lo++zs.map some++os.drop (lo+zs.length))::L') w'->K (a.put o.dst v) w')
  (b:o.op=.call { callee:=.builtin .copy,args:=#[x,y],argTypes:=#[t',t2] }:=by rfl) (hx:ev F x=some (.slice (some ⟨g,lo * d.sz,none⟩) dl dc):=by rfl) (f:ev F y=some (.slice A2 n2 c2):=by rfl):o.wp P a w K Q :=
 aX7 i hS hL ht hi b (hA.ev hx) (hA.ev f) hr hz hk kk
theorem bA2 (i:Nat) {lo dl dc:Nat} {zs:List α} (ht:P.underlying t'=some (.slice e)) (hi:(P.info? e).map (·.size)=some d.sz) (hA:FR n D a F) (hS:SH r L w) (hr:Rd d w A2 zs) (hz:zs.length=min n2 dl) (hk:0<zs.length/\lo+zs.length<=c) (hL:pk i L=row d e g c os::L') (b:(o.op,ev F x,ev F y)=(.call { callee:=.builtin .copy,args:=#[x,y],argTypes:=#[t',t2] },some (.slice (some ⟨g,lo * d.sz,none⟩) dl dc),some (.slice A2 n2 c2))) (kk:∀ v w',SH r (row d e g c (os.take lo++zs.map some++os.drop (lo+zs.length))::L') w'->K (a.put o.dst v) w'):o.wp P a w K Q:=bEd (i:=i) (ht:=ht) (hi:=hi) (hA:=hA) (hS:=hS) (hr:=hr) (hz:=hz) (hk:=hk) (hL:=hL) (kk:=kk) (congrArg (·.1) b) (congrArg (·.2.1) b) (congrArg (·.2.2) b)
theorem bDz (i:Nat) {lo dl dc:Nat} {zs:List α} (ht:P.underlying t'=some (.slice e)) (hi:(P.info? e).map (·.size)=some d.sz) (hA:FR n D a F) (hS:SH r L w) (hr:Rd d w A2 zs) (hz:zs.length=min n2 dl) (hk:0<zs.length/\lo+zs.length<=c) (hL:pk i L=row d e g c os::L')
  (kk:∀ v a' w',SH r (row d e g c (os.take lo++zs.map some++os.drop (lo+zs.length))::L') w'->FR n D a' ((t,v)::F)->wpList P ops Q rest a' w')
  (b:o.op=.call { callee:=.builtin .copy,args:=#[x,y],argTypes:=#[t',t2] }:=by rfl) (hx:ev F x=some (.slice (some ⟨g,lo * d.sz,none⟩) dl dc):=by rfl) (f:ev F y=some (.slice A2 n2 c2):=by rfl) (hd:o.dst=some t:=by rfl) (hg:o.guard=none:=by rfl) (hb:Nat.blt t n=true:=by rfl):wpList P ops Q (o::rest) a w :=
 mG hg λK hK=>aX7 i hS hL ht hi b (hA.ev hx) (hA.ev f) hr hz hk λv w' h=>hK _ _ (kk v _ w' h (bAd hA hd hb v))
theorem bAv (i:Nat) {lo dl dc:Nat} {zs:List α} (ht:P.underlying t'=some (.slice e)) (hi:(P.info? e).map (·.size)=some d.sz) (hA:FR n D a F) (hS:SH r L w) (hr:Rd d w A2 zs) (hz:zs.length=min n2 dl) (hk:0<zs.length/\lo+zs.length<=c) (hL:pk i L=row d e g c os::L') (b:(o.op,ev F x,ev F y,o.dst,o.guard,Nat.blt t n)=(.call { callee:=.builtin .copy,args:=#[x,y],argTypes:=#[t',t2] },some (.slice (some ⟨g,lo * d.sz,none⟩) dl dc),some (.slice A2 n2 c2),some t,none,true)) (kk:∀ v a' w',SH r (row d e g c (os.take lo++zs.map some++os.drop (lo+zs.length))::L') w'->FR n D a' ((t,v)::F)->wpList P ops Q rest a' w'):wpList P ops Q (o::rest) a w:=bDz (i:=i) (ht:=ht) (hi:=hi) (hA:=hA) (hS:=hS) (hr:=hr) (hz:=hz) (hk:=hk) (hL:=hL) (kk:=kk) (congrArg (·.1) b) (congrArg (·.2.1) b) (congrArg (·.2.2.1) b) (congrArg (·.2.2.2.1) b) (congrArg (·.2.2.2.2.1) b) (congrArg (·.2.2.2.2.2) b)
theorem bEc (i:Nat) {lo dl dc:Nat} {zs:List α} (ht:P.underlying t'=some (.slice e)) (hi:(P.info? e).map (·.size)=some d.sz) (hA:FR n D a F) (hS:SH r L w) (hr:Rd d w A2 zs) (hz:zs.length=min n2 dl) (hk:0<zs.length/\lo+zs.length<=xs.length) (hL:pk i L=own d e (some ⟨g,0,none⟩) n1 c xs::L')
  (kk:∀ v w',SH r (own d e (some ⟨g,0,none⟩) n1 c (xs.take lo++zs++xs.drop (lo+zs.length))::L') w'->K (a.put o.dst v) w')
  (b:o.op=.call { callee:=.builtin .copy,args:=#[x,y],argTypes:=#[t',t2] }:=by rfl) (hx:ev F x=some (.slice (some ⟨g,lo * d.sz,none⟩) dl dc):=by rfl) (f:ev F y=some (.slice A2 n2 c2):=by rfl):o.wp P a w K Q :=
 aX6 i hS hL ht hi b (hA.ev hx) (hA.ev f) hr hz hk kk
theorem bA1 (i:Nat) {lo dl dc:Nat} {zs:List α} (ht:P.underlying t'=some (.slice e)) (hi:(P.info? e).map (·.size)=some d.sz) (hA:FR n D a F) (hS:SH r L w) (hr:Rd d w A2 zs) (hz:zs.length=min n2 dl) (hk:0<zs.length/\lo+zs.length<=xs.length) (hL:pk i L=own d e (some ⟨g,0,none⟩) n1 c xs::L') (b:(o.op,ev F x,ev F y)=(.call { callee:=.builtin .copy,args:=#[x,y],argTypes:=#[t',t2] },some (.slice (some ⟨g,lo * d.sz,none⟩) dl dc),some (.slice A2 n2 c2))) (kk:∀ v w',SH r (own d e (some ⟨g,0,none⟩) n1 c (xs.take lo++zs++xs.drop (lo+zs.length))::L') w'->K (a.put o.dst v) w'):o.wp P a w K Q:=bEc (i:=i) (ht:=ht) (hi:=hi) (hA:=hA) (hS:=hS) (hr:=hr) (hz:=hz) (hk:=hk) (hL:=hL) (kk:=kk) (congrArg (·.1) b) (congrArg (·.2.1) b) (congrArg (·.2.2) b)
theorem bDy (i:Nat) {lo dl dc:Nat} {zs:List α} (ht:P.underlying t'=some (.slice e)) (hi:(P.info? e).map (·.size)=some d.sz) (hA:FR n D a F) (hS:SH r L w) (hr:Rd d w A2 zs) (hz:zs.length=min n2 dl) (hk:0<zs.length/\lo+zs.length<=xs.length) (hL:pk i L=own d e (some ⟨g,0,none⟩) n1 c xs::L')
  (kk:∀ v a' w',SH r (own d e (some ⟨g,0,none⟩) n1 c (xs.take lo++zs++xs.drop (lo+zs.length))::L') w'->FR n D a' ((t,v)::F)->wpList P ops Q rest a' w')
  (b:o.op=.call { callee:=.builtin .copy,args:=#[x,y],argTypes:=#[t',t2] }:=by rfl) (hx:ev F x=some (.slice (some ⟨g,lo * d.sz,none⟩) dl dc):=by rfl) (f:ev F y=some (.slice A2 n2 c2):=by rfl) (hd:o.dst=some t:=by rfl) (hg:o.guard=none:=by rfl) (hb:Nat.blt t n=true:=by rfl):wpList P ops Q (o::rest) a w :=
 mG hg λK hK=>aX6 i hS hL ht hi b (hA.ev hx) (hA.ev f) hr hz hk λv w' h=>hK _ _ (kk v _ w' h (bAd hA hd hb v))
theorem bAu (i:Nat) {lo dl dc:Nat} {zs:List α} (ht:P.underlying t'=some (.slice e)) (hi:(P.info? e).map (·.size)=some d.sz) (hA:FR n D a F) (hS:SH r L w) (hr:Rd d w A2 zs) (hz:zs.length=min n2 dl) (hk:0<zs.length/\lo+zs.length<=xs.length) (hL:pk i L=own d e (some ⟨g,0,none⟩) n1 c xs::L') (b:(o.op,ev F x,ev F y,o.dst,o.guard,Nat.blt t n)=(.call { callee:=.builtin .copy,args:=#[x,y],argTypes:=#[t',t2] },some (.slice (some ⟨g,lo * d.sz,none⟩) dl dc),some (.slice A2 n2 c2),some t,none,true)) (kk:∀ v a' w',SH r (own d e (some ⟨g,0,none⟩) n1 c (xs.take lo++zs++xs.drop (lo+zs.length))::L') w'->FR n D a' ((t,v)::F)->wpList P ops Q rest a' w'):wpList P ops Q (o::rest) a w:=bDy (i:=i) (ht:=ht) (hi:=hi) (hA:=hA) (hS:=hS) (hr:=hr) (hz:=hz) (hk:=hk) (hL:=hL) (kk:=kk) (congrArg (·.1) b) (congrArg (·.2.1) b) (congrArg (·.2.2.1) b) (congrArg (·.2.2.2.1) b) (congrArg (·.2.2.2.2.1) b) (congrArg (·.2.2.2.2.2) b)
theorem bAt (i:Nat) {lo m mc:Nat} {z:Value} {z0:α} (ht:P.underlying t'=some (.slice e)) (hi:(P.info? e).bind (·.zero)=some z) (hz:d.V z0 z.cells.toList) (hA:FR n D a F) (hS:SH r L w) (hm:0<m/\lo+m<=c) (hL:pk i L=row d e g c os::L')
  (kk:∀ a' w',SH r (row d e g c (os.take lo++(List.replicate m z0).map some++os.drop (lo+m))::L') w'->FR n D a' F->wpList P ops Q rest a' w')
  (b:o.op=.call { callee:=.builtin .clear,args:=#[x],argTypes:=#[t'] }:=by rfl) (hx:ev F x=some (.slice (some ⟨g,lo * d.sz,none⟩) m mc):=by rfl) (hd:o.dst=none:=by rfl) (hg:o.guard=none:=by rfl):wpList P ops Q (o::rest) a w :=
 mG hg λK hK=>aV9 i hS hL ht hi hz b (hA.ev hx) hm.1 hm.2 λv w' f=>hK _ _ (kk _ w' f (by rw [hd];exact hA))
theorem aXk (i:Nat) {lo m mc:Nat} {z:Value} {z0:α} (ht:P.underlying t'=some (.slice e)) (hi:(P.info? e).bind (·.zero)=some z) (hz:d.V z0 z.cells.toList) (hA:FR n D a F) (hS:SH r L w) (hm:0<m/\lo+m<=c) (hL:pk i L=row d e g c os::L') (b:(o.op,ev F x,o.dst,o.guard)=(.call { callee:=.builtin .clear,args:=#[x],argTypes:=#[t'] },some (.slice (some ⟨g,lo * d.sz,none⟩) m mc),none,none)) (kk:∀ a' w',SH r (row d e g c (os.take lo++(List.replicate m z0).map some++os.drop (lo+m))::L') w'->FR n D a' F->wpList P ops Q rest a' w'):wpList P ops Q (o::rest) a w:=bAt (i:=i) (ht:=ht) (hi:=hi) (hz:=hz) (hA:=hA) (hS:=hS) (hm:=hm) (hL:=hL) (kk:=kk) (congrArg (·.1) b) (congrArg (·.2.1) b) (congrArg (·.2.2.1) b) (congrArg (·.2.2.2) b)
theorem bD9 (i:Nat) (ht:P.underlying t'=some (.slice e)) (hi:(P.info? e).map (·.size)=some d.sz) (hA:FR n D a F) (hS:SH r L w) (hr:Rd d w A2 ys) (hn2:ys.length=n2) (hk:k+n2<=c) (hL:pk i L=row d e g c os::L')
  (kk:∀ w',SH r (row d e g c (os.take k++ys.map some++os.drop (k+n2))::L') w'->K (a.put o.dst (.slice (some ⟨g,0,none⟩) (k+n2) c)) w')
  (b:o.op=.call { callee:=.builtin .append,args:=#[x,y],argTypes:=#[t',t'] }:=by rfl) (hx:ev F x=some (.slice (some ⟨g,0,none⟩) k c):=by rfl) (f:ev F y=some (.slice A2 n2 c2):=by rfl):o.wp P a w K Q :=
 aLh i hS hL ht hi b (hA.ev hx) (hA.ev f) hr hn2 hk kk
theorem bAz (i:Nat) (ht:P.underlying t'=some (.slice e)) (hi:(P.info? e).map (·.size)=some d.sz) (hA:FR n D a F) (hS:SH r L w) (hr:Rd d w A2 ys) (hn2:ys.length=n2) (hk:k+n2<=c) (hL:pk i L=row d e g c os::L') (b:(o.op,ev F x,ev F y)=(.call { callee:=.builtin .append,args:=#[x,y],argTypes:=#[t',t'] },some (.slice (some ⟨g,0,none⟩) k c),some (.slice A2 n2 c2))) (kk:∀ w',SH r (row d e g c (os.take k++ys.map some++os.drop (k+n2))::L') w'->K (a.put o.dst (.slice (some ⟨g,0,none⟩) (k+n2) c)) w'):o.wp P a w K Q:=bD9 (i:=i) (ht:=ht) (hi:=hi) (hA:=hA) (hS:=hS) (hr:=hr) (hn2:=hn2) (hk:=hk) (hL:=hL) (kk:=kk) (congrArg (·.1) b) (congrArg (·.2.1) b) (congrArg (·.2.2) b)
theorem aY5 {m:Int} {kq kn:IntKind} {bytes:Nat} {z:Value} (z0:α) (ht:P.underlying t'=some (.slice e)) (htn:P.underlying t2=some (.int kn)) (hi:(P.info? e).map (λi=>(i.zero,i.size,i.bytes))=some (some z,d.sz,bytes)) (hz:d.V z0 z.cells.toList) (hA:FR n D a F) (hS:SH r L w)
  (hr:Rd d w A ys) (hk:ys.length=k) (h0:0<m/\c<k+m.toNat/\(k+m.toNat) * bytes<=140737488355328)
  (kk:∀ b f a' w',SH r (own d e (some ⟨b,0,none⟩) (k+m.toNat) f (ys++List.replicate m.toNat z0)::L) w'->FR n D a' ((t,.slice (some ⟨b,0,none⟩) (k+m.toNat) f)::F)->wpList P ops Q rest a' w')
  (hs:Nat.blt 0 d.sz=true:=by rfl) (g:Nat.blt 0 bytes=true:=by rfl) (h:o.op=.call { callee:=.builtin .append,args:=#[x,y],argTypes:=#[t',t2] }:=by rfl) (hx:ev F x=some (.slice A k c):=by rfl) (j:ev F y=some (.int kq m):=by rfl) (hd:o.dst=some t:=by rfl) (hg:o.guard=none:=by rfl) (hb:Nat.blt t n=true:=by rfl):wpList P ops Q (o::rest) a w :=
 mG hg λK hK=>aH3 (kq:=kq) hS ht htn hi hz h (hA.ev hx) (by rw [hA.ev j,Int.toNat_of_nonneg (by omega)]) hr hk (by omega) (by have:=Nat.le_of_ble_eq_true hs;omega) h0.2.1 h0.2.2 (by have:=Nat.le_of_ble_eq_true g;omega) λb f w' l=>hK _ _ (kk b f _ w' l (bAd hA hd hb _))
theorem bAr {m:Int} {kq kn:IntKind} {bytes:Nat} {z:Value} (z0:α) (ht:P.underlying t'=some (.slice e)) (htn:P.underlying t2=some (.int kn)) (hi:(P.info? e).map (λi=>(i.zero,i.size,i.bytes))=some (some z,d.sz,bytes)) (hz:d.V z0 z.cells.toList) (hA:FR n D a F) (hS:SH r L w)
  (hr:Rd d w A ys) (hk:ys.length=k) (h0:0<m/\c<k+m.toNat/\(k+m.toNat) * bytes<=140737488355328) (b:(Nat.blt 0 d.sz,Nat.blt 0 bytes,o.op,ev F x,ev F y,o.dst,o.guard,Nat.blt t n)=(true,true,.call { callee:=.builtin .append,args:=#[x,y],argTypes:=#[t',t2] },some (.slice A k c),some (.int kq m),some t,none,true)) (kk:∀ f g a' w',SH r (own d e (some ⟨f,0,none⟩) (k+m.toNat) g (ys++List.replicate m.toNat z0)::L) w'->FR n D a' ((t,.slice (some ⟨f,0,none⟩) (k+m.toNat) g)::F)->wpList P ops Q rest a' w'):wpList P ops Q (o::rest) a w:=aY5 (z0:=z0) (ht:=ht) (htn:=htn) (hi:=hi) (hz:=hz) (hA:=hA) (hS:=hS) (hr:=hr) (hk:=hk) (h0:=h0) (kk:=kk) (congrArg (·.1) b) (congrArg (·.2.1) b) (congrArg (·.2.2.1) b) (congrArg (·.2.2.2.1) b) (congrArg (·.2.2.2.2.1) b) (congrArg (·.2.2.2.2.2.1) b) (congrArg (·.2.2.2.2.2.2.1) b) (congrArg (·.2.2.2.2.2.2.2) b)
theorem bAe {f:FuncId} {az:Array Operand} {ts:Array TypeId} {vals:Array Value} (hf:(callFunc f vals).run P w=.ok (.value v) w) (b:o.op=.call { callee:=.value (.func f),args:=az,argTypes:=ts }) (c:az.map a.eval=vals):RunV P o a w v:=by unfold RunV execOp;rw [b];simp only [resolve,Act.eval,Deferred.ofValue,Sem.run_bind,Sem.run_pure,Result.andThen_ok,invoke,c];simpa using hf
theorem aU7 {B C:HP}:∀ {i j:Nat} {L:List HP} {S:Nat->Prop},i≠j->L[i]?=some B->L[j]?=some C->Sep L w S->∃ S1 c:Nat->Prop,B.P w S1/\C.P w c/\∀ k,S1 k->¬ c k
 | _,_,[],S,_,hi,_,_=>by simp at hi
 | 0,0,_::_,_,h,_,_,_=>absurd rfl h
 | 0,j+1,A::L,S,_,hi,a,⟨S1,c,h1,h2,hd,hA,hL⟩=>by
  cases hi;obtain⟨t,hC⟩:=SH.getL j (by simpa using a) hL;have:∃ b,(∀ k,b k->c k)/\C.P w b:=by
   clear hA hC;have key:∀ (L:List HP) (j:Nat) (S:Nat->Prop),L[j]?=some C->Sep L w S->∃ b,(∀ k,b k->S k)/\C.P w b:=by
    intro L
    induction L with
    | nil=>intro j S a;simp at a
    | cons D L ih =>
     intro j S a hs;obtain⟨d,e,f,g,gd,l,hL⟩:=hs;cases j with
     | zero=>cases a;exact⟨d,f,l⟩
     | succ j=>obtain⟨b,m,n⟩:=ih j e (by simpa using a) hL;exact⟨b,λk h=>g k (m k h),n⟩
   exact key L j c (by simpa using a) hL
  obtain⟨b,o,r⟩:=this;exact⟨S1,b,hA,r,λk q p=>hd k q (o k p)⟩
 | i+1,0,A::L,S,_,hi,a,⟨S1,c,h1,h2,hd,hA,hL⟩=>by
  cases a;have key:∀ (L:List HP) (j:Nat) (S:Nat->Prop),L[j]?=some B->Sep L w S->∃ b,(∀ k,b k->S k)/\B.P w b:=by
   intro L
   induction L with
   | nil=>intro j S a;simp at a
   | cons D L ih =>
    intro j S a hs;obtain⟨d,e,f,g,gd,l,hL⟩:=hs;cases j with
    | zero=>cases a;exact⟨d,f,l⟩
    | succ j=>obtain⟨b,m,n⟩:=ih j e (by simpa using a) hL;exact⟨b,λk h=>g k (m k h),n⟩
  obtain⟨b,o,s⟩:=key L i c (by simpa using hi) hL;exact⟨b,S1,s,hA,λk p q=>hd k q (o k p)⟩
 | i+1,j+1,A::L,S,h,hi,a,⟨S1,c,h1,h2,hd,hA,hL⟩=>aU7 (i:=i) (j:=j) (by omega) (by simpa using hi) (by simpa using a) hL
theorem aUh {tS tR:TypeId} {lb cb off:Nat} (hu:P.underlying tS=some (.slice e)) (hi:(P.info? e).map (·.size)=some d.sz) (hS:SH r L w) (i j:Nat) (f:L[i]?=some (own d e A2 n2 c2 ys)) (h:L[j]?=some (row d e g c os)) (k:i≠j) (hk:0<ys.length/\0<c) (hs:Nat.blt 0 d.sz=true:=by rfl) :
  (Extern.SlicesOverlaps.overlaps #[tS,tS] #[tR] #[.slice A2 n2 c2,.slice (some ⟨g,off,none⟩) lb cb]).run P w=.ok (.bool false) w:=by
 obtain⟨S1,v,hB,⟨⟨hg,hl,x⟩,cur,l,m⟩,hd⟩:=aU7 k f h hS.sep;obtain⟨hn,⟨inner,y,n⟩,o⟩:=hB;subst hn;obtain⟨inf,p,z⟩:=Option.map_eq_some_iff.1 hi;rcases n.2 with ⟨_,h0⟩ | ⟨a,cap,q,s,_,b,A,B,C,D⟩
 ·omega
 ·injection s with hA _ hc';subst hA hc';have t:a≠g:=λe=>hd a (o a rfl) (by rw [e];exact hg);have E:cur.size=c * d.sz:=by have:=m.length;rw [hl] at this;simpa using this
  have u:0<d.sz:=by have:=Nat.le_of_ble_eq_true hs;omega
  have:0<c * d.sz:=Nat.mul_pos hk.2 u;exact run_overlaps_apart w tS tR e hu inf.size (λw=>by simp [sizeOf,typeInfo,p]) ⟨a,0,none⟩ ⟨g,off,none⟩ ys.length c2 lb cb t e e q.size cur.size (by simp [World.shape?,b]) (by simp [World.shape?,l]) (by omega) (by simp [World.frozen?,b]) (by simp [World.frozen?,b])
section
variable {lo sz:Nat} {l u mx:Int} {kl kh km:IntKind} {m:Nat} (hu:P.underlying t'=some (.slice e)) (hi':(P.info? e).map (·.size)=some sz)
include hu hi'
theorem aUz (b:o.op=.slice t' x (some lo_) (some hi_) none) (hx:a.eval x=.slice (some ⟨g,lo * sz,none⟩) m c) (hl:a.eval lo_=.int kl l) (d:a.eval hi_=.int kh u) (h:0<=l/\l<u/\u<=(c:Int)) :
  RunV P o a w (.slice (some ⟨g,(lo+l.toNat) * sz,none⟩) (u.toNat - l.toNat) (c - l.toNat)):=by
 have:=aEs (w:=w) hu hi' b hx hl d h.1 (by omega) h.2.2
 rwa [slv (by omega)] at this
theorem aDu (b:o.op=.slice t' x (some lo_) none none) (hx:a.eval x=.slice (some ⟨g,lo * sz,none⟩) m c) (hl:a.eval lo_=.int kl l) (h:0<=l/\l<(m:Int)/\m<=c) :
  RunV P o a w (.slice (some ⟨g,(lo+l.toNat) * sz,none⟩) (m - l.toNat) (c - l.toNat)):=by
 have:=kX (w:=w) hu hi' b hx hl h.1 (by omega)
 rwa [slv (by omega)] at this
omit hu hi' in
theorem aW2 {lo k L0:Nat} {d:Kd α} {ys:List α} (hS:SH r L w) (q:Nat) (a:L[q]?=some (row d e g c os)) (h:rdo os (lo+L0) k=some ys) (hk:k=m - L0/\m<=c):Rd d w (if c=L0 then some ⟨g,lo * d.sz,none⟩ else (some (⟨g,lo * d.sz,none⟩:Addr)).map (·.add (L0 * d.sz))) ys:=by obtain⟨i,b,_⟩:=aCz h;intro f;rw [slv (by omega)];exact aU3 hS q a b f
theorem aGy (d:o.op=.slice t' x (some lo_) (some hi_) (some mx_)) (hx:a.eval x=.slice A m c) (hl:a.eval lo_=.int kl l) (f:a.eval hi_=.int kh u) (hm:a.eval mx_=.int km mx) (h:0<=l/\l<=u/\u<=mx/\mx<=(c:Int)) :
  RunV P o a w (.slice (if mx.toNat=l.toNat then A else A.map (·.add (l.toNat * sz))) (u.toNat - l.toNat) (mx.toNat - l.toNat)):=by
 obtain⟨q,g,i⟩:=Option.map_eq_some_iff.1 hi';have ht:P.underlying t'=some (.slice (P.elem t')):=by rw [zW hu];exact hu
 have b:=run_slice_lhm (P:=P) w t' A m c ht kl kh km l u mx h.1 h.2.1 h.2.2.1 h.2.2.2;rw [zW hu] at b;have hs:(sizeOf e).run P w=.ok sz w:=by simp [sizeOf,typeInfo,g,i]
 rw [hs] at b;unfold RunV execOp;rw [d];simp only [hx,hl,f,hm,Option.map_some,Sem.run_bind,run_sliceAt_slice w t' _ _ _ _ ht,b];rfl
end
end
end Go.Proofs.YtdkpjpoajlmmfaaGreatDoor.E
namespace Go.Proofs.YtdkpjpoajlmmfaaGreatDoor.E
open Go Go.RowKit
set_option linter.unusedVariables false
set_option linter.unusedSimpArgs false
def kL {α β:Type} (dp:Kd (α×Hd)) (g:α->List β):Kd α where
 sz:=dp.sz
 V x cs:=∃ h:Hd,dp.V (x,h) cs/\(g x).length=h.2.1
 len h:=by obtain⟨q,h,_⟩:=h;exact dp.len h
 one h:=by obtain⟨q,h,_⟩:=h;exact dp.one h
section
variable {r w:World} {L:List HP} {α β:Type} {dp:Kd (α×Hd)} {d:Kd β} {e e':TypeId} {g:α->List β} {A:Option Addr} {n c:Nat} {xs:List α} {ps:List (α×Hd)}
theorem aN7:∀ {ps:List (α×Hd)} {L:List HP} {S:Nat->Prop},Sep (uK d e' g ps::L) w S->∀ p∈ps,(g p.1).length=p.2.2.1
 | [],L,S,h,p,hp=>by cases hp
 | q::ps,L,S,h,p,hp=>by
  obtain⟨S1,a,b,c,hd,hA,hL⟩:=qK.1 h;rcases List.mem_cons.1 hp with rfl | hp
  ·exact hA.1
  ·exact aN7 hL p hp
theorem aNu {S:Nat->Prop} (h:(own2 dp d e' g e A n c xs).P w S):Rd (kL dp g) w A xs/\xs.length=n/\n<=c/\c<=maxLen:=by
 obtain⟨ps,S1,l,m,o,hd,hA,hL⟩:=h;have b:=aN7 hL;obtain⟨p,r,s,t,hd',hB,u,v,y,z,B,hp,_⟩:=hL;have a:ps.map Prod.fst=xs:=hp;have hle:=aCm hA;have hn:=hA.1;refine⟨?_,by rw [← a,List.length_map];exact hn,by rw [← hn];exact hle.1,hle.2⟩;have hr:=aL3 hA;subst a;intro f;obtain⟨ad,rfl,i⟩:=hr (by simpa using f);refine⟨ad,rfl,λj x hx=>?_⟩;rw [List.getElem?_map] at hx;cases hq:ps[j]? with
 | none=>rw [hq] at hx;cases hx
 | some q =>
  rw [hq] at hx;cases hx;obtain⟨cs,k,hc⟩:=i j q hq;exact⟨cs,⟨q.2,k,b q (List.mem_of_getElem? hq)⟩,hc⟩
theorem SH.rd2L (hS:SH r L w) (q:Nat) (h:L[q]?=some (own2 dp d e' g e A n c xs)):Rd (kL dp g) w A xs/\xs.length=n/\n<=c/\c<=maxLen:=by obtain⟨S,hb⟩:=hS.get q h;exact aNu hb
theorem RdL.own2 (i:Nat) (hi:L[i]?=some (own2 dp d e' g e A n c xs)) (h:SH r L w):RdL L (kL dp g) A n c xs:=by obtain⟨j,a,k,b⟩:=h.rd2L i hi;refine⟨a,by omega,b,λw' l f=>?_⟩;obtain⟨m,a⟩:=SH.getL i hi f;exact (aNu a).1
theorem Lay.put {p a:α×Hd} (b:∀ cs,dp.V p cs->dp.V a cs):∀ {ps:List (α×Hd)} {i:Nat} {cs:List Value},Lay dp ps cs->ps[i]?=some p->Lay dp (ps.set i a) cs
 | [],i,cs,h,hp=>by simp at hp
 | q::ps,0,cs,⟨c1,c2,e,hV1,hL⟩,hp=>by cases hp;exact⟨c1,c2,e,b _ hV1,hL⟩
 | q::ps,i+1,cs,⟨c1,c2,e,hV1,hL⟩,hp=>⟨c1,c2,e,hV1,Lay.put b hL (by simpa using hp)⟩
theorem aNt {x:α} {a:Option Addr} {b f:Nat} (h:SH r (own dp e A n c [(x,a,b,f)]::own d e' a b f (g x)::L) w):SH r (own2 dp d e' g e A n c [x]::L) w :=
 aDp (ps:=[(x,a,b,f)]) rfl (h.tl λS hS=>qK.2 (hS.tl λS hS=>Sep.star (Ls:=[]) hS))
theorem SH.unoptP {f:Nat->α->HP} {k:Nat} {x:α} (h:SH r (tQ f (some ⟨k,0,none⟩) (some x)::L) w):SH r (f k x::L) w:=by obtain⟨b,hk,a⟩:=SH.unoptS h;injection hk with hk;injection hk with hk;subst hk;exact a
end
section
variable {P:Program} {ops:Array Oper} {Q:Exit->Act->World->Prop} {rest:List Oper} {o:Oper} {a:Act} {w:World} {n:Nat} {D:List Deferred} {t:Nat} {F:List (Nat×Value)} {t':TypeId} {x lo_ hi_:Operand} {s ys:List UInt8} {l u:Int} {kl kh:IntKind}
theorem aW7 (s:List UInt8) (l u:Nat):Value.string ((⟨s.toArray⟩:ByteArray).extract l u)=str ((s.take u).drop l):=by unfold str;congr 1;apply ByteArray.ext;rw [ByteArray.data_extract,List.extract_toArray,List.extract_eq_take_drop,List.drop_take]
theorem bAl (s:List UInt8):(⟨s.toArray⟩:ByteArray).size=s.length:=by simp [ByteArray.size]
theorem aWz (hu:P.underlying t'=some .string) (h:kD s 0 u=some ys) (b:o.op=.slice t' x none (some hi_) none) (hx:a.eval x=str s) (c:a.eval hi_=.int kh u):RunV P o a w (str ys):=by obtain⟨h0,d,e,rfl⟩:=aCi h;have hr:=run_slice_string_h (P:=P) w t' (⟨s.toArray⟩:ByteArray) hu kh u d (by rw [bAl];exact e);unfold RunV execOp;rw [b];simp only [hx,c,str,Option.map_some,Option.map_none,Sem.run_bind,run_sliceAt_string w t' _ _ _ _ hu,hr,aW7];rfl
theorem aXq (hu:P.underlying t'=some .string) (h:kD s 0 u=some ys) (hA:FR n D a F) (b:o.op=.slice t' x none (some hi_) none:=by rfl) (hx:ev F x=some (str s):=by rfl) (c:ev F hi_=some (.int kh u):=by rfl):RunV P o a w (str ys):=aWz hu h b (hA.ev hx) (hA.ev c)
theorem aXl (hu:P.underlying t'=some .string) (h:kD s 0 u=some ys) (hA:FR n D a F) (kk:∀ a',FR n D a' ((t,str ys)::F)->wpList P ops Q rest a' w) (b:o.op=.slice t' x none (some hi_) none:=by rfl) (hx:ev F x=some (str s):=by rfl) (c:ev F hi_=some (.int kh u):=by rfl)
  (hd:o.dst=some t:=by rfl) (hg:o.guard=none:=by rfl) (ht:Nat.blt t n=true:=by rfl):wpList P ops Q (o::rest) a w:=eK hA (aXq hu h hA b hx c) kk hd hg ht
theorem aVk (hu:P.underlying t'=some .string) (h:kD s 0 u=some ys) (hA:FR n D a F) (b:(o.op,ev F x,ev F hi_,o.dst,o.guard,Nat.blt t n)=(.slice t' x none (some hi_) none,some (str s),some (.int kh u),some t,none,true)) (kk:∀ a',FR n D a' ((t,str ys)::F)->wpList P ops Q rest a' w):wpList P ops Q (o::rest) a w:=aXl (hu:=hu) (h:=h) (hA:=hA) (kk:=kk) (congrArg (·.1) b) (congrArg (·.2.1) b) (congrArg (·.2.2.1) b) (congrArg (·.2.2.2.1) b) (congrArg (·.2.2.2.2.1) b) (congrArg (·.2.2.2.2.2) b)
theorem aXr {T:TypeId} {r:World} {L:List HP} {K:Act->World->Prop} {cs:List Value} {z:Value} (hz:(P.info? T).bind (·.zero)=some z) (hA:FR n D a F) (hS:SH r L w) (kk:∀ g w',SH r (blk g T cs::L) w'->K (a.put o.dst (.pointer (some ⟨g,0,none⟩))) w')
  (b:o.op=.alloc T:=by rfl) (c:z.cells=cs.toArray:=by rfl):o.wp P a w K Q:=aQf hS b hz c kk
theorem rP {T:TypeId} {r:World} {L:List HP} {K:Act->World->Prop} {cs:List Value} {z:Value} (hz:(P.info? T).bind (·.zero)=some z) (hA:FR n D a F) (hS:SH r L w) (b:(o.op,z.cells)=(.alloc T,cs.toArray)) (kk:∀ g w',SH r (blk g T cs::L) w'->K (a.put o.dst (.pointer (some ⟨g,0,none⟩))) w'):o.wp P a w K Q:=aXr (hz:=hz) (hA:=hA) (hS:=hS) (kk:=kk) (congrArg (·.1) b) (congrArg (·.2) b)
end
section
variable {P:Program} {ops:Array Oper} {Q:Exit->Act->World->Prop} {rest:List Oper} {o:Oper} {a:Act} {w:World} {K:Act->World->Prop} {r:World} {L L':List HP} {t e:TypeId} {x:Operand} {A:Option Addr} {n c:Nat} {xs:List Int}
end
section
variable {P:Program} {ops:Array Oper} {Q:Exit->Act->World->Prop} {rest:List Oper} {o:Oper} {a:Act} {w:World} {K:Act->World->Prop} {r:World} {L L':List HP} {t e T xt yt t':TypeId} {x y:Operand} {A:Option Addr} {n c m:Nat} {xs:List Int} {s:List UInt8} {v:Value}
end
section
variable {Z:Nat->Prop} {wz:World} {L:List HP} {α:Type} {d:Kd α} {A:Option Addr} {n c:Nat} {xs ys:List α} {l u:Int}
theorem aFq {P:Program} {o:Oper} {a:Act} {w:World} {v b:Value} (h:v=b) (hr:RunV P o a w b):RunV P o a w v:=h▸hr
theorem aIg (h:Imm Z wz d A n c xs) (hx:kD xs 0 u=some ys):∃ a b e,Value.slice a b e=.slice A u.toNat c/\Imm Z wz d a b e ys:=⟨_,_,_,rfl,bCy h hx⟩
theorem aIh (h:Imm Z wz d A n c xs) (hx:kD xs l (xs.length:Int)=some ys):∃ a b e,Value.slice a b e=.slice (if c=l.toNat then A else A.map (·.add (l.toNat * d.sz))) (n - l.toNat) (c - l.toNat)/\Imm Z wz d a b e ys:=⟨_,_,_,rfl,bCz h hx⟩
theorem aQp (h:Imm Z wz d A n c xs) (hx:kD xs l u=some ys):∃ a b e,Value.slice a b e=.slice (if c=l.toNat then A else A.map (·.add (l.toNat * d.sz))) (u.toNat - l.toNat) (c - l.toNat)/\Imm Z wz d a b e ys:=⟨_,_,_,rfl,aPd h hx⟩
theorem lv4 {P:Program} {a:Act} {w:World} {n:Nat} {F:List (Nat×Value)} {fn:Func} {R:Value->World->Prop} {t u q s:Nat} {b c v3 v4:Value} (hr:fn.results=#[.tmp t,.tmp u,.tmp q,.tmp s]) (hA:FR n [] a F) (d:lk F t=some b) (f:lk F u=some c) (g:lk F q=some v3) (i:lk F s=some v4) (h:R (.tuple #[b,c,v3,v4]) w):bodyPost P fn (λe w'=>∃ v,e=.returned v/\R v w') .ret a w :=
 bodyPost_ret (v:=.tuple #[b,c,v3,v4]) (by
  have j:a.tmps.getD t undef=b:=hA.ev (x:=.tmp t) d;have k:a.tmps.getD u undef=c:=hA.ev (x:=.tmp u) f;have l:a.tmps.getD q undef=v3:=hA.ev (x:=.tmp q) g;have m:a.tmps.getD s undef=v4:=hA.ev (x:=.tmp s) i;rw [← j, ← k, ← l, ← m];simp [results,hr]) hA.defers ⟨_,rfl,h⟩
end
section
variable {P:Program} {ops:Array Oper} {Q:Exit->Act->World->Prop} {rest:List Oper} {o:Oper} {a:Act} {w:World} {r:World} {L:List HP} {t e T t':TypeId} {x y:Operand} {α:Type} {d:Kd α} {xs:List α} {k:IntKind} {i:Int}
theorem aVx {g:Nat} {cells:List Value} {m:Nat} (hL:Lay d xs cells) (hm:xs.length=m) (a:Nat.ble m 65536=true) (h:SH r (blk g T cells::L) w):SH r (own d T (some ⟨g,0,none⟩) m m xs::L) w:=by have:=Nat.le_of_ble_eq_true a;have hl:=hL.length;refine h.imp λS hS=>aDq hS.2 hS.1 hm (by omega) (by simp only [maxLen];omega) (by simp [hl,hm]) ?_;rw [← hl];simpa using hL
theorem bC9 {g m sz:Nat} (hu:P.underlying t=some (.array m e)) (hi:(P.info? e).map (·.size)=some sz) (b:o.op=.indexAddr t x y) (hx:a.eval x=.pointer (some ⟨g,0,none⟩)) (c:a.eval y=.int k i)
  (h0:0<=i) (d:i<(m:Int)):RunV P o a w (.pointer (some (ea (some ⟨g,0,none⟩) (i.toNat * sz)))):=by
 unfold RunV execOp;rw [b];obtain⟨q,f,h⟩:=Option.map_eq_some_iff.1 hi;simp [hx,c,Instr.indexAt,asIntOf,run_underlying hu,h0,d,sizeOf,typeInfo,f,h,ea,Instr.sureAddr]
theorem bD8 {D:List Deferred} {n:Nat} {F:List (Nat×Value)} {g m c sz:Nat} {z:α} (hu:P.underlying t=some (.array m e)) (hi:(P.info? e).map (·.size)=some sz) (hr:Rd d w (some ⟨g,0,none⟩) xs/\xs.length=m/\m<=c/\c<=maxLen) (hz:at_ xs i=some z) (hA:FR n D a F)
  (b:o.op=.indexAddr t x y:=by rfl) (hx:ev F x=some (.pointer (some ⟨g,0,none⟩)):=by rfl) (f:ev F y=some (.int k i):=by rfl):RunV P o a w (.pointer (some (ea (some ⟨g,0,none⟩) (i.toNat * sz)))) :=
 have h:=jL hz
 bC9 hu hi b (hA.ev hx) (hA.ev f) h.1 (by have:=hr.2.1;omega)
theorem bD0 {D:List Deferred} {n q:Nat} {F:List (Nat×Value)} {g m c sz:Nat} {z:α} (hu:P.underlying t=some (.array m e)) (hi:(P.info? e).map (·.size)=some sz) (hr:Rd d w (some ⟨g,0,none⟩) xs/\xs.length=m/\m<=c/\c<=maxLen) (hz:at_ xs i=some z) (hA:FR n D a F)
  (kk:∀ a',FR n D a' ((q,.pointer (some (ea (some ⟨g,0,none⟩) (i.toNat * sz))))::F)->wpList P ops Q rest a' w)
  (b:o.op=.indexAddr t x y:=by rfl) (hx:ev F x=some (.pointer (some ⟨g,0,none⟩)):=by rfl) (f:ev F y=some (.int k i):=by rfl) (hd:o.dst=some q:=by rfl) (hg:o.guard=none:=by rfl) (ht:Nat.blt q n=true:=by rfl):wpList P ops Q (o::rest) a w :=
 eK hA (bD8 hu hi hr hz hA b hx f) kk hd hg ht
theorem aC8 {D:List Deferred} {n q:Nat} {F:List (Nat×Value)} {g m c sz:Nat} {z:α} (hu:P.underlying t=some (.array m e)) (hi:(P.info? e).map (·.size)=some sz) (hr:Rd d w (some ⟨g,0,none⟩) xs/\xs.length=m/\m<=c/\c<=maxLen) (hz:at_ xs i=some z) (hA:FR n D a F) (b:(o.op,ev F x,ev F y,o.dst,o.guard,Nat.blt q n)=(.indexAddr t x y,some (.pointer (some ⟨g,0,none⟩)),some (.int k i),some q,none,true)) (kk:∀ a',FR n D a' ((q,.pointer (some (ea (some ⟨g,0,none⟩) (i.toNat * sz))))::F)->wpList P ops Q rest a' w):wpList P ops Q (o::rest) a w:=bD0 (hu:=hu) (hi:=hi) (hr:=hr) (hz:=hz) (hA:=hA) (kk:=kk) (congrArg (·.1) b) (congrArg (·.2.1) b) (congrArg (·.2.2.1) b) (congrArg (·.2.2.2.1) b) (congrArg (·.2.2.2.2.1) b) (congrArg (·.2.2.2.2.2) b)
end
end Go.Proofs.YtdkpjpoajlmmfaaGreatDoor.E
namespace Go.Proofs.YtdkpjpoajlmmfaaGreatDoor.E
open Go Go.RowKit Go.ChangeShapes Go.WideShapes Go.Deep
set_option linter.unusedVariables false
set_option linter.unusedSimpArgs false
def Wt {H:Type} (P:Program) (t:TypeId) (d:DataW H):Prop:=∀ n∈d.weights P t,n<=reachBytes
def aE0 (W:World):Nat->Prop:=λk=>k<W.heap.size
def Opens {α:Type} (P:Program) (W:World) (t:TypeId) (d:Kd α) (g:α->Prop):Prop :=
 ∀ (H:Type) (enc:TypeId×Value->H) (b:Bool) (fuel:Nat) (cs:List Value) (x:DataW H×List MemPlace),
  DataW.trod enc P W 0 (λ_=>true) b fuel t cs=some x->Wt P t x.1->∃ a,d.V a cs/\g a
def gI (k:IntKind) (n:Int):Prop:=(Lit.int k n).wf=true
def gB (_:Bool):Prop:=True
def gS (s:List UInt8):Prop:=s.length<=reachBytes
def gF (b:Nat):Prop:=(Lit.float .f64 b).wf=true
def gL {α:Type} (by_:Nat) (g:α->Prop) (xs:List α):Prop:=xs.length * by_<=reachBytes/\∀ x∈xs,g x
section
variable {P:Program} {W:World} {t e:TypeId}
theorem opI {k:IntKind} (hu:P.underlying t=some (.int k)):Opens P W t (kI k) (gI k):=by intro H enc a fuel cs x h _;obtain⟨n,hc,_,hw⟩:=DataW.trod_int hu h;exact⟨n,hc,hw⟩
theorem opS (hu:P.underlying t=some .string):Opens P W t kS gS:=by intro H enc a fuel cs x h hw;obtain⟨s,hc,hx,_⟩:=DataW.trod_string hu h;refine⟨s.data.toList,by rw [hc];rfl,?_⟩;have:=hw s.data.toList.length (by rw [hx];simp [DataW.weights]);exact this
theorem aPw {H:Type} {enc:TypeId×Value->H} {base:Nat} {spare:Nat->Bool} {a:Bool} {fuel:Nat} {cs:List Value} {x:DataW H×List MemPlace} {k:FloatKind}
  (ht:P.underlying t=some (.float k)) (h:DataW.trod enc P W base spare a fuel t cs=some x):∃ b,cs=[.float k b]/\(Lit.float k b).wf=true:=by
 cases fuel with
 | zero=>simp [DataW.trod] at h
 | succ n =>
  unfold DataW.trod at h;rw [ht] at h;split at h <;> simp_all
theorem opF (hu:P.underlying t=some (.float .f64)):Opens P W t kF gF:=by intro H enc c fuel cs x h hw;obtain⟨b,hc,a⟩:=aPw hu h;exact⟨b,hc,a⟩
theorem aKd {α:Type} {Q:Nat->α->Prop}:∀ (n:Nat),(∀ i,i<n->∃ a,Q i a)->∃ xs:List α,xs.length=n/\∀ i x,xs[i]?=some x->Q i x
 | 0,_=>⟨[],rfl,λi x h=>by simp at h⟩
 | n+1,h=>by
  obtain⟨xs,hl,hx⟩:=aKd n λi hi=>h i (by omega);obtain⟨a,b⟩:=h n (by omega);refine⟨xs++[a],by simp [hl],λi x hi=>?_⟩;rw [List.getElem?_append] at hi;split at hi
  ·exact hx i x hi
  ·rename_i c;have:i - xs.length=0:=by have:=(List.getElem?_eq_some_iff.1 hi).1;simp at this;omega
   rw [this] at hi;simp at hi;subst hi;rw [show i=n by omega];exact b
theorem aZ7 {α:Type} {d:Kd α} {g:α->Prop} {by_:Nat} (hu:P.underlying t=some (.slice e)) (hc:P.cellsOf e=d.sz) (hz:0<d.sz) (hb:P.bytesOf e=by_) (he:Opens P W e d g) :
  Opens P W t (kM (aE0 W) W d) (gL by_ g):=by
 intro H enc A fuel cs x h hw;rcases open_slice hu h with ⟨rfl,rfl⟩ | ⟨a,len,cap,m,n,D,Pl,rfl,_,hl,hm,v,rfl,hi⟩
 ·exact⟨[],⟨none,0,0,rfl,Imm.nil⟩,by simp,λx h=>by simp at h⟩
 ·simp only [if_true] at v;subst v;have B:∀ i,i<m->Wt P e (D i):=by
   intro i I q b;refine hw q ?_;simp only [DataW.weights,hu,List.mem_cons,List.mem_append];have key:∀ (l:List Nat),(∃ j∈l,q∈(D j).weights P e)->q∈DataW.weightsAll P e (l.map D):=by
    intro l
    induction l with
    | nil=>rintro⟨j,f,_⟩;simp at f
    | cons a l ih =>
     rintro⟨j,f,b⟩;simp only [List.map_cons,DataW.weightsAll,List.mem_append];rcases List.mem_cons.1 f with rfl | f
     ·exact .inl b
     ·exact .inr (ih ⟨j,f,b⟩)
   rcases Nat.lt_or_ge i len with p | p
   ·exact .inr (.inl (key _ ⟨i,List.mem_range.2 p,b⟩))
   ·refine .inr (.inr ?_);have:(List.range (m - len)).map (λj=>D (len+j))=((List.range (m - len)).map (len+·)).map D:=by simp [Function.comp_def]
    rw [this];exact key _ ⟨i,List.mem_map.2 ⟨i - len,List.mem_range.2 (by omega),by omega⟩,b⟩
  obtain⟨xs,w,hx⟩:=aKd (Q:=λi y=>g y/\∃ c,d.V y c/\a.block<W.heap.size/\∀ q u,c[q]?=some u->W.cell? (a.add (i * d.sz+q))=some u) len (λi p=>by
   obtain⟨c,z,ht⟩:=hi i (by omega);obtain⟨y,r,hg⟩:=he H enc A n c _ ht (B i (by omega));rw [hc] at z;obtain⟨_,J,C⟩:=World.cells?_some z;have b:∀ q u,c[q]?=some u->W.cell? (a.add (i * d.sz+q))=some u:=by intro q u hu;have K:=(List.getElem?_eq_some_iff.1 hu).1;rw [← Go.Proofs.YtdkpjpoajlmmfaaGreatDoor.E.add_add',C q (by omega),hu]
   refine⟨y,hg,c,r,?_,b⟩;have h0:=b 0 _ (List.getElem?_eq_getElem (by omega));have hb:∀ k,(a.add k).block=a.block:=λk=>aAs a k;unfold World.cell? at h0;rw [hb] at h0;rcases hh:W.heap[a.block]? with _ | o
   ·rw [hh] at h0;cases h0
   ·exact (Array.getElem?_eq_some_iff.1 hh).1)
  refine⟨xs,⟨some a,len,m,rfl,w,by omega,hm,λF=>⟨a,rfl,?_,λj y s=>?_⟩⟩,?_,λy s=>?_⟩
  ·obtain⟨_,c,_,G,_⟩:=hx 0 _ (List.getElem?_eq_getElem F);exact G
  ·obtain⟨_,c,r,_,b⟩:=hx j y s;exact⟨c,r,b⟩
  ·have:=hw ((((List.range len).map D).length+((List.range (m - len)).map λj=>D (len+j)).length) * P.bytesOf e) (by simp only [DataW.weights,hu];exact List.mem_cons_self);rw [hb] at this;simp only [List.length_map,List.length_range] at this;rw [w];exact Nat.le_trans (Nat.mul_le_mul_right _ (by omega)) this
  ·obtain⟨j,f⟩:=List.getElem?_of_mem s;exact (hx j y f).1
theorem fld {H:Type} {enc:TypeId×Value->H} {b:Bool} {fs:Array Field} {ys:List (DataW H×List MemPlace)} {n:Nat} {cs:List Value} (hu:P.underlying e=some (.struct fs))
  (hf:∀ (i:Nat) (f:Field),fs[i]?=some f->DataW.trod enc P W 0 (λ_=>true) b n f.type ((cs.drop f.offset).take (P.cellsOf f.type))=ys[i]?) (p:ys.length=fs.size)
  (hw:Wt P e (.agg (ys.map (·.1)))) (i:Nat) {f:Field} (hi:fs[i]?=some f) {o c:Nat} (ht:f.type=t) (k:f.offset=o) (hc:P.cellsOf t=c) {α:Type} {d:Kd α} {g:α->Prop} (l:Opens P W t d g) :
  ∃ a,d.V a ((cs.drop o).take c)/\g a:=by
 have r:=(Array.getElem?_eq_some_iff.1 hi).1;have h:=hf i f hi;subst ht k hc;rw [List.getElem?_eq_getElem (by omega)] at h;refine l H enc b n _ _ h λq m=>hw q ?_;simp only [DataW.weights,hu];refine DataW.weights_mem_each (j:=i) (t:=f.type) (d:=(ys[i]'(by omega)).1) ?_ ?_ q m
 ·rw [List.getElem?_map,Array.getElem?_toList,hi];rfl
 ·rw [List.getElem?_map,List.getElem?_eq_getElem (by omega)];rfl
theorem Opens.arg {H:Type} {enc:TypeId×Value->H} {b:Bool} {v:Value} {x:DataW H} {p:List MemPlace} {α:Type} {d:Kd α} {g:α->Prop} (c:Opens P W t d g)
  (h:DataW.Trod enc P W 0 (λ_=>true) b t v x p) (hw:Wt P t x):∃ a,d.V a v.cells.toList/\g a:=by
 obtain⟨fuel,h⟩:=h;exact c H enc b fuel _ _ h hw
theorem SH.start (W:World):SH W [zone (aE0 W) W] W :=
 ⟨rfl,rfl,rfl,λk=>k<W.heap.size,λ_=>False,λ_ h=>h,λ_ h=>h.elim,λ_ _ h=>h,⟨λ_ h=>h,λ_ _=>rfl⟩,trivial⟩
theorem SH.below {W w':World} {Z:Nat->Prop} {wz:World} {L:List HP} (h:SH W (zone Z wz::L) w') (hs:Sub (aE0 W) W Z wz):Below W.heap.size W w':=by
 obtain⟨S1,b,a,c,hd,hA,hL⟩:=h.sep;refine⟨h.os,h.tape,h.output,?_,λk hk=>(hA.2 k (hs k hk).1).trans (hs k hk).2⟩;rcases Nat.eq_zero_or_pos W.heap.size with h0 | h0
 ·omega
 ·have:=a _ (hA.1 _ (hs (W.heap.size - 1) (show W.heap.size - 1<W.heap.size by omega)).1);omega
theorem Wt.of {H:Type} {ts:List TypeId} {ds:List (DataW H)} (h:(DataW.weightsEach P ts ds).all (· <= reachBytes)=true) {j:Nat} {d:DataW H} (ht:ts[j]?=some t) (hd:ds[j]?=some d):Wt P t d:=by intro n hn;have:=List.all_eq_true.1 h _ (DataW.weights_mem_each ht hd n hn);simpa using this
end
end Go.Proofs.YtdkpjpoajlmmfaaGreatDoor.E
namespace Go.Proofs.YtdkpjpoajlmmfaaGreatDoor.E
open Go Go.RowKit
theorem aW9 {P:Program} {W:World} {nm:String} {g t e n:Nat} {k:IntKind} {xs:List Int} (hg:P.globalNamed nm=some g) (ht:(P.globals[g]?).map (·.type)=some t)
  (hu:P.underlying t=some (.array n e)) (he:P.underlying e=some (.int k)) (o:P.cellsOf e=1) (hn:xs.length=n) (hm:n<=maxLen)
  (h:laidMet P [(nm,.agg (xs.map λx=>.lit (.int k x)))] W):Imm (aE0 W) W (kI k) (some ⟨g,0,none⟩) n n xs:=by
 obtain⟨ps,⟨G,t0,cs,f0,p,q,r,s,c,hd,_,_⟩,_,_⟩:=h;obtain rfl:=Option.some.inj (hg.symm.trans r);obtain rfl:=Option.some.inj (ht.symm.trans s);obtain⟨ys,m,rfl,hx,hl,H,v⟩:=DataW.trod_array hu hd;have hb:g<W.heap.size:=by
  simp only [World.var?,hg,bGi] at c;split at c
  ·rename_i a;exact (Array.getElem?_eq_some_iff.1 a).1
  ·cases c
 have w:xs.map (λx=>(DataW.lit (.int k x):DataW Unit))=ys.map (·.1):=by simp only [Prod.mk.injEq,DataW.agg.injEq] at hx;exact hx.1
 refine⟨hn,by omega,hm,λ_=>⟨_,rfl,hb,λj x i=>⟨[.int k x],rfl,λq u a=>?_⟩⟩⟩;have A:j<n:=by have:=(List.getElem?_eq_some_iff.1 i).1;omega
 have d:=v j A;rw [o] at d;have b:(ys.map (·.1))[j]?=some (.lit (.int k x)):=by rw [← w,List.getElem?_map,i];rfl
 rw [List.getElem?_map] at b;cases hy:ys[j]? with
 | none=>rw [hy] at b;cases b
 | some y =>
  rw [hy] at b d;obtain⟨z,B,C,_⟩:=DataW.trod_int he d;have hz:z=x:=by rw [C] at b;simpa using b
  subst hz
  match q,a with
  | 0,a =>
   have D:Value.int k z=u:=by simpa using a
   subst D;have hc:=World.var?_cell hg c j;have f:(cs.toList.drop (j * 1))[0]?=some (.int k z):=by
    have l:((cs.toList.drop (j * 1)).take 1)[0]?=some (.int k z):=by rw [B];rfl
    rw [List.getElem?_take_of_lt (by omega)] at l;exact l
   rw [List.getElem?_drop] at f;have E:cs[j]?=some (.int k z):=by rw [← Array.getElem?_toList];rw [show j * 1+0=j by omega] at f;exact f
   have F:(({ block:=g,off:=0 }:Addr).add (j * (kI k).sz+0))=⟨g,j,none⟩:=by
    show Addr.add ⟨g,0,none⟩ (j * 1+0)=⟨g,j,none⟩;unfold Addr.add;split
    ·rename_i hz;rw [show j=0 by omega]
    ·simp
   rw [F,hc,E]
  | q+1,a=>simp at a
set_option linter.unusedVariables false
set_option linter.unusedSimpArgs false
section
variable {P:Program} {ops:Array Oper} {Q:Exit->Act->World->Prop} {o:Oper} {a:Act} {w:World} {K K':Act->World->Prop} {lp m:Nat}
def Oper.nodefer (o:Oper):Bool:=match o.op with
 | .defer _=>false
 | _=>true
theorem aIr {o:Oper} (h:Oper.nodefer o=true):∀ c,o.op≠.defer c:=by intro c e;unfold Oper.nodefer at h;rw [e] at h;cases h
theorem aMd {row:String} {args:Array Value} {R:Value->World->Prop} (h:Rows P row args w R):RowsIn (Fence.wide.inRound lp) m P row args w R :=
 λc cs _=>let ⟨v,w',r,s⟩:=h c cs;⟨v,w',r,stepsIn_wide.2 s⟩
theorem bC4 (h:o.wp P a w K Q) (hd:Oper.nodefer o=true) (c:¬ LetsOut Q) (hK:∀ a w,K a w->K' a w):o.wpIn (Fence.wide.inRound lp) m P a w K' Q:=by
 refine⟨λf _=>trivial,?_⟩;show o.uponIn _ m P a K' Q ((o.semAt (some lp) a.eval).run P w);rw [Oper.semAt_some lp _ _ (aIr hd)];unfold Oper.wp at h;revert h;generalize (execOp a.eval o).run P w=res;intro h;cases res with
 | ok nx w' =>
  cases nx with
  | value v=>exact hK _ _ h
  | skip=>exact hK _ _ h
  | defer d=>exact hK _ _ h
  | enter f args =>
   refine⟨λe=>(by cases e),CallsIn.inRound lp (callsIn_wide.2 (Calls.mono h ?_))⟩;intro e b he;cases e with
   | returned v=>exact hK _ _ he
   | panicked ch=>exact he
   | outgrown=>exact he
  | row row args=>exact⟨λe=>(by cases e),RowsIn.mono (aMd h) λv b=>hK _ _⟩
  | _=>exact h.elim
 | halt hh w' =>
  cases hh with
  | panic v=>exact h
  | _=>exact h.elim
theorem aPj (b:¬ LetsOut Q):∀ {l:List Oper} {a:Act} {w:World},wpList P ops Q l a w->l.all Oper.nodefer=true->wpListIn (Fence.wide.inRound lp) m P ops Q l a w
 | [],_,_,h,_=>h
 | o::l,a,w,h,hd=>by
  simp only [List.all_cons,Bool.and_eq_true] at hd;unfold wpList at h;unfold wpListIn;split
  ·rename_i hw;rw [if_pos hw] at h;rcases h with h | ⟨_,h⟩
   ·exact bC4 h hd.1 b λa w h=>aPj b h hd.2
   ·exact (b h).elim
  ·rename_i hw;rw [if_neg hw] at h;exact⟨λf _=>trivial,aPj b h hd.2⟩
theorem aT2 {id:Nat} (b:¬ LetsOut Q) (hd:ops.toList.all Oper.nodefer=true) (h:wpList P ops Q ops.toList a w):(Code.region id ops false).wpIn (Fence.wide.inRound lp) m P Q a w :=
 wpIn_region_list (aPj b h hd)
theorem aP5 (c:¬ LetsOut Q) (hd:ops.toList.all Oper.nodefer=true):∀ {k:Nat} {listed:Array Bool} {a:Act} {w:World},wpAny P .any ops Q k listed a w->wpAnyIn (Fence.wide.inRound lp) m P .any ops Q k listed a w
 | 0,_,_,_,h=>h
 | k+1,listed,a,w,h=>by
  refine⟨h.1,λi hi=>?_⟩;have b:=h.2 i hi;unfold wpOp at b;unfold wpOpIn;cases ho:ops[i]? with
  | none =>
   simp only [ho] at b ⊢;exact aP5 c hd b
  | some o =>
   simp only [ho] at b ⊢;have d:Oper.nodefer o=true:=List.all_eq_true.1 hd o (by obtain⟨hl,e⟩:=Array.getElem?_eq_some_iff.1 ho;rw [← e];simp);split
   ·rename_i hw;rw [if_pos hw] at b;rcases b with b | ⟨_,b⟩
    ·exact bC4 b d c λa w h=>aP5 c hd h
    ·exact (c b).elim
   ·rename_i hw;rw [if_neg hw] at b;exact⟨λf _=>trivial,aP5 c hd b⟩
theorem aWm {id n:Nat} {D:List Deferred} {F:List (Nat×Value)} {r:World} {L:List HP} (M effs:List Nat) (hm:P.follows .mixedOrders=true) (hA:FR n D a F) (hS:SH r L w)
  (b:okM ops M=true) (hu:aJs ops=true) (c:effs.all (λe=>Nat.blt e ops.size)=true) (ht:((List.range ops.size).all λp=>match (ops[p]?).bind (λo:Oper=>o.dst) with | none=>true | some t=>Nat.blt t n)=true)
  (hd:ops.toList.all Oper.nodefer=true) (d:¬ LetsOut Q)
  (h:∀ w',SH r L w'->∃ VL,pG P ops Q n D M F effs effs.length [] VL w'):(Code.region id ops true).wpIn (Fence.wide.inRound lp) m P Q a w :=
 wpIn_region_any hm (aP5 d hd (aTk M effs hA hS b hu c ht h))
end
section
variable {P:Program} {ops:Array Oper} {Q:Exit->Act->World->Prop} {o:Oper} {rest:List Oper} {a:Act} {w:World} {lp m n t:Nat} {D:List Deferred} {F:List (Nat×Value)} {v:Value}
theorem zR (hA:FR n D a F) (h:RunV P o a w v) (kk:∀ a',FR n D a' ((t,v)::F)->wpListIn Fence.wide m P ops Q rest a' w) (b:Oper.nodefer o=true) (hd:o.dst=some t) (hg:o.guard=none) (ht:Nat.blt t n=true):wpListIn Fence.wide m P ops Q (o::rest) a w:=by refine wpListIn_plain hg λK hK=>⟨λf _=>trivial,?_⟩;rw [Oper.semAt_plain Fence.wide _ _ (aIr b),show (execOp a.eval o).run P w=_ from h];exact hK _ _ (kk _ (by rw [hd];exact hA.put t v (by have:=Nat.le_of_ble_eq_true ht;omega)))
theorem aVo {x y:Operand} {ts:Array TypeId} {l:Nat} {R:Ending->World->Prop} (hA:FR n D a F) (g:YieldAt Fence.wide (m - 1) P l #[v] w R) (h:∀ e w',R e w'->e=.returned (.bool true)/\R (.returned (.bool true)) w')
  (kk:∀ a' w',R (.returned (.bool true)) w'->FR n D a' ((t,.bool true)::F)->wpListIn Fence.wide m P ops Q rest a' w')
  (b:o.op=.call { callee:=.value x,args:=#[y],argTypes:=ts }) (hx:ev F x=some (.func (.yield l) #[] #[])) (d:ev F y=some v) (hd:o.dst=some t) (hg:o.guard=none) (ht:Nat.blt t n=true):wpListIn Fence.wide m P ops Q (o::rest) a w:=by
 obtain⟨fn,tmps,assign,body,i,j⟩:=g;refine wpListIn_plain hg λK hK=>⟨λf _=>trivial,?_⟩;have k:∀ c,o.op≠.defer c:=λc e=>by rw [b] at e;cases e
 have p:(execOp a.eval o).run P w=.ok (.round l fn tmps assign body) w:=by
  unfold execOp;rw [b];simp only [resolve,hA.ev hx,Deferred.ofValue,Sem.run_bind,Sem.run_pure,Result.andThen_ok,invoke];have r:#[]++#[y].map a.eval=#[v]:=by simp [hA.ev d]
  simpa [hA.ev d] using i
 rw [Oper.semAt_plain Fence.wide _ _ k,p];refine⟨λe=>(by cases e),j.mono ?_⟩;intro e w' he;obtain⟨rfl,q⟩:=h e w' he;exact hK _ _ (kk _ _ q (by rw [hd];exact hA.put t _ (by have:=Nat.le_of_ble_eq_true ht;omega)))
end
section
variable {P:Program} {o:Oper} {a:Act} {w:World} {x y:Operand} {s u:List UInt8}
theorem bAf {ts:Array TypeId} (c:o.op=.call { callee:=.builtin .min,args:=#[x,y],argTypes:=ts }) (hx:a.eval x=str s) (d:a.eval y=str u):RunV P o a w (str (if (Op.bytesLess s u||s==u)=true then s else u)) :=
 wE c (by
  have e:#[x,y].map a.eval=#[str s,str u]:=by simp [hx,d]
  rw [e];show (do pure (.value (← Builtin.min_ ts o.type #[str s,str u])):Sem Next).run P w=_;rw [Sem.run_bind];simp only [Builtin.min_,str];cases h:(Op.bytesLess s u||s==u) <;> (have b:=h;simp only [Bool.or_eq_true,Bool.or_eq_false_iff] at b;simp [Builtin.min2,Op.stringOp,asBool,h,b,vQ]))
theorem aUx {ts:Array TypeId} (b:o.op=.call { callee:=.builtin .max,args:=#[x,y],argTypes:=ts }) (hx:a.eval x=str s) (c:a.eval y=str u):RunV P o a w (str (if Op.bytesLess s u=true then u else s)) :=
 wE b (by
  have e:#[x,y].map a.eval=#[str s,str u]:=by simp [hx,c]
  rw [e];show (do pure (.value (← Builtin.max_ ts o.type #[str s,str u])):Sem Next).run P w=_;rw [Sem.run_bind];simp only [Builtin.max_,str];cases h:Op.bytesLess s u <;> simp [Builtin.max2,Op.stringOp,asBool,h,vQ])
end
theorem eqf {P:Program} {w:World} {d:Nat} {xs ys:Array Value} {f:Field} {fs:List Field} {a b:Value} {r s:Bool} (c:∀ w,(part f.type xs f.offset).run P w=.ok a w) (hb:∀ w,(part f.type ys f.offset).run P w=.ok b w)
  (hr : (Op.equalIn d f.type a b).run P w = .ok r w) (hs : (Op.eqFields d xs ys fs).run P w = .ok s w) (hn : (f.name == "_") = false) : (Op.eqFields d xs ys (f :: fs)).run P w = .ok (r && s) w := by
 have e : f.name ≠ "_" := by simpa using hn
 simp only [Op.eqFields,e,ne_eq,not_false_eq_true,if_true,Sem.run_bind,c,hb,hr,Result.andThen_ok];cases r
 ·simp
 ·simpa using hs
theorem eqn {P:Program} {w:World} {d:Nat} {xs ys:Array Value}:(Op.eqFields d xs ys []).run P w=.ok true w:=by simp [Op.eqFields]
theorem jE {P:Program} {t:TypeId} {cs:Array Value} {off:Nat} {v:Value} {dd:TypeDesc} (hu:P.underlying t=some dd) (hf:aF7 dd=true) (hc:cs[off]?=some v) (w:World):(part t cs off).run P w=.ok v w:=by simp [part,oY hu,hf,hc]
theorem aTq {P:Program} {w:World} {d:Nat} {t:TypeId} {s u:List UInt8} (h:P.underlying t=some .string):(Op.equalIn (d+1) t (str s) (str u)).run P w=.ok (s==u) w:=by simp [str,Op.equalIn,run_underlying h,beq_toListBytes,vQ]
theorem eqs {P:Program} {w:World} {d:Nat} {t:TypeId} {xs ys:Array Value} {fs:Array Field} {b:Bool} (hu:P.underlying t=some (.struct fs)) (hp:P.stoodInHeld t=false) (h:(Op.eqFields d xs ys fs.toList).run P w=.ok b w):(Op.equalIn (d+1) t (.agg xs) (.agg ys)).run P w=.ok b w:=by
 have e:P.fieldsOf t=fs:=by simp [Program.fieldsOf,hu]
 rw [run_equalIn_struct w d t xs ys (by rw [e];exact hu) hp,e];exact h
theorem bDb {P:Program} {o:Oper} {a:Act} {w:World} {x y:Operand} {xt yt:TypeId} {xs ys:Array Value} {b:Bool} (c:P.eqGuardType P.depth xt=false) (h:∀ w,(Op.equalIn 10000 xt (.agg xs) (.agg ys)).run P w=.ok b w) (d:o.op=.binOp .neq xt x y yt) (hx:a.eval x=.agg xs) (e:a.eval y=.agg ys):RunV P o a w (.bool (!b)) :=
 oB d hx e λw=>by simp [run_eqGuard_agg _ _ _ _ _ _ _ c,run_neq_struct,h]
section
variable {P:Program} {Q:Exit->Act->World->Prop} {a:Act} {w:World} {lp m:Nat}
theorem aPe {id:Nat} {cd:Code} (h:∀ Kx:Act->World->Prop,(∀ a w,Q .normal a w->Kx a w)->cd.wpIn (Fence.wide.inRound lp) m P (Exit.blk id Kx Q) a w):(Code.block id cd).wpIn (Fence.wide.inRound lp) m P Q a w:=by
 refine wpIn_block (Code.wpIn_mono (λe a w q=>?_) (h (Q .normal) λ_ _ h=>h));cases e with
 | exit id' =>
  simp only [Exit.blk,Exit.inBlock] at q ⊢;by_cases h:id'=id
  ·subst h;simpa using q
  ·have:Nat.beq id' id=false:=by
    cases hb:Nat.beq id' id
    ·rfl
    ·exact absurd (Nat.eq_of_beq_eq_true hb) h
   rw [this] at q;rw [if_neg h];exact q
 | _=>exact q
end
def pcs {α:Type} (q:Nat) (xs:List α):List (List α):=(List.range ((xs.length+q - 1) / q)).map λk=>(xs.drop (k * q)).take q
def pcv (A:Option Addr) (sz q m k:Nat):Value:=.slice (A.map (·.add (k * q * sz))) (min q (m - k * q)) (min q (m - k * q))
def aX0 (P:Program) (f:FuncId) (sz:Nat):Prop :=
 ∀ (l b1 b2:Nat) (A:Option Addr) (m c q:Nat) (J:Nat->World->Prop),1<=q->q<=1073741824->m<=c->c<=maxLen->m<=4611686018427387904->(0<m->∃ ad,A=some ad) ->
  (∀ k W,J k W->W.cell? ⟨b1,0,none⟩=some (.slice A m c)/\W.cell? ⟨b2,0,none⟩=some (.int .i64 (q:Nat))/\J k W.drew) ->
  (∀ k W,J k W->k * q<m->YieldAt Fence.wide 5 P l #[pcv A sz q m k] W λe a=>e=.returned (.bool true)/\J (k+1) a) ->
  ∀ W,J 0 W->CallsIn Fence.wide 6 P f #[.func (.yield l) #[] #[],.pointer (some ⟨b1,0,none⟩),.pointer (some ⟨b2,0,none⟩)] W λe a=>(∃ v,e=.returned v)/\J ((m+q - 1) / q) a
def aD4 (g:Nat) (o:Obj):HP where
 P w S:=S g/\w.heap[g]?=some o
 fr h hk:=⟨h.1,(hk g h.1).trans h.2⟩
 mono h hs:=⟨hs g h.1,h.2⟩
section
variable {P:Program} {r w:World} {L:List HP} {g:Nat} {o:Obj}
theorem SH.objGet (h:SH r L w) (i:Nat) (hi:L[i]?=some (aD4 g o)):w.heap[g]?=some o:=by obtain⟨S,hb⟩:=h.get i hi;exact hb.2
theorem SH.objPut (h:SH r (aD4 g o::L) w) (a:Obj):SH r (aD4 g a::L) (w.putObj g a):=by obtain⟨S1,d,b,c,hd,hA,hL⟩:=h.head;have hg:g<w.heap.size:=b g hA.1;refine h.upd (w':=w.putObj g a) (Ls:=[aD4 g a]) b c hd hL rfl rfl rfl (by simp) (λk hk hn=>World.putObj_heap_other (λe=>hn (e▸hA.1))) λS hS _ _=>?_;exact⟨S,λ_=>False,λk hk=>hk,λk hk=>hk.elim,λk _ hk=>hk,⟨hS g hA.1,World.putObj_heap_same hg⟩,trivial⟩
theorem SH.objNew (h:SH r L w) (o:Obj):SH r (aD4 w.heap.size o::L) (w.alloc o) :=
 h.new (w':=w.alloc o) rfl rfl rfl (by simp) (λk hk=>Below.heap_alloc _ _ _ hk) (Ls:=[aD4 w.heap.size o]) λS hS =>
  ⟨S,λ_=>False,λ_ h=>h,λ_ h=>h.elim,λ_ _ h=>h,⟨hS _ (Nat.le_refl _) (by simp),World.alloc_heap_new w _⟩,trivial⟩
end
theorem aKe:∀ (E B:List HP) (A:HP),pk E.length (E++A::B)=A::E++B
 | [],B,A=>rfl
 | C::E,B,A=>by show (match pk E.length (E++A::B) with | []=>[C] | B'::M=>B'::C::M)=_;rw [aKe E B A];rfl
theorem SH.front {r w:World} {E B:List HP} {A:HP} (h:SH r (E++A::B) w):SH r (A::E++B) w:=by
 have:=h.pk E.length
 rwa [aKe] at this
theorem SH.behind {r w:World} {B:List HP} {A:HP}:∀ {E:List HP},SH r (A::E++B) w->SH r (E++A::B) w:=by
 intro E h;refine⟨h.os,h.tape,h.output,?_⟩;have key:∀ (E:List HP) (S:Nat->Prop),Sep (A::E++B) w S->Sep (E++A::B) w S:=by
  intro E
  induction E with
  | nil=>intro S h;exact h
  | cons C E ih =>
   intro S h;obtain⟨S1,a,b,c,hd,hC,hL⟩:=Sep.swap (L:=E++B) h;exact⟨S1,a,b,c,hd,hC,ih a hL⟩
 exact key E _ h.sep
abbrev aRt (a:Nat):Deferred:={ target:=.collected a,args:=#[] }
section
variable {σ α:Type} {d:Kd α} {P:Program} {f:FuncId} {q:Nat} {xs:List α} {φ:σ->List α->Option σ} {s0 y:σ} {n:Nat} {Fr:List (Nat×Value)} {a:Act} {w r:World} {L:List HP}
 {g:Operand} {p pc:Nat} {body:Code} {b1 b2:Nat} {A:Option Addr} {m c:Nat} {Q:Exit->Act->World->Prop}
theorem aA3 {m q k:Nat} (a:1<=q):k * q<m↔k<(m+q - 1) / q:=by rw [show k<(m+q - 1) / q↔k+1<=(m+q - 1) / q from Iff.rfl,Nat.le_div_iff_mul_le (by omega),Nat.add_mul];omega
theorem aHh {k:Nat} (a:1<=q) (h:k * q<xs.length):(pcs q xs)[k]?=some ((xs.drop (k * q)).take q):=by unfold pcs;rw [List.getElem?_map,List.getElem?_range ((aA3 a).1 h)];rfl
theorem aBq:(pcs q xs).length=(xs.length+q - 1) / q:=by simp [pcs]
theorem aNk {l:List (List α)} (h:l.foldlM φ s0=some y) {k:Nat} {x:List α} (hk:l[k]?=some x) {s:σ} (hs:(l.take k).foldlM φ s0=some s):∃ s',φ s x=some s'/\(l.take (k+1)).foldlM φ s0=some s':=by
 obtain⟨b,e⟩:=List.getElem?_eq_some_iff.1 hk;have c:l=l.take k++x::l.drop (k+1):=by rw [← e,List.getElem_cons_drop b,List.take_append_drop]
 rw [c,List.foldlM_append,hs] at h;simp only [Option.bind_eq_bind,bGi,List.foldlM_cons] at h;obtain⟨s',a,_⟩:=Option.bind_eq_some_iff.1 h;refine⟨s',a,?_⟩;rw [List.take_add_one,hk,List.foldlM_append,hs];simp [a]
theorem Imm.pieces {Z:Nat->Prop} {wz:World} (h:Imm Z wz d A m c xs):xs.length=m/\m<=c/\c<=maxLen/\(0<m->∃ ad,A=some ad) :=
 ⟨h.ln,by rw [← h.ln];exact h.le,h.mx,λhm=>by obtain⟨ad,e,_⟩:=h.rd (by rw [h.ln];exact hm);exact⟨ad,e⟩⟩
theorem Imm.piece {Z:Nat->Prop} {wz:World} (h:Imm Z wz d A m c xs) (g:(Nat.blt 0 q)=true) {k:Nat} (hk:k * q<m):∃ f a,pcv A d.sz q m k=.slice f a a/\Imm Z wz d f a a ((xs.drop (k * q)).take q):=by
 have n:1<=q:=Nat.le_of_ble_eq_true g;refine⟨_,_,rfl,?_⟩;have i:=h.cut (l:=k * q) (u:=k * q+min q (m - k * q)) (by omega) (by rw [h.ln];omega);obtain⟨j,a2,a3,a4⟩:=i;have e:(xs.take (k * q+min q (m - k * q))).drop (k * q)=(xs.drop (k * q)).take q:=by
  rw [List.drop_take,Nat.add_sub_cancel_left];rcases Nat.le_total q (m - k * q) with b | b
  ·rw [Nat.min_eq_left b]
  ·rw [Nat.min_eq_right b,List.take_of_length_le (by rw [List.length_drop,h.ln];exact Nat.le_refl _),List.take_of_length_le (by rw [List.length_drop,h.ln];exact b)]
 rw [e] at j a2 a4;have hl:((xs.drop (k * q)).take q).length=min q (m - k * q):=by rw [List.length_take,List.length_drop,h.ln]
 have hle:=h.le;have o:=h.ln;have p:=h.mx;refine⟨hl,by rw [hl];exact Nat.le_refl _,by omega,?_⟩;rw [if_neg (by omega)] at a4;exact a4
theorem aSn (hH:aX0 P f d.sz) (b3:EN P f) (F:(Nat.blt 0 q&&Nat.ble q 1073741824)=true) (M:(pcs q xs).foldlM φ s0=some y) (hA:FR n [] a Fr)
  (hI:xs.length=m/\m<=c/\c<=maxLen/\(0<m->∃ ad,A=some ad)) (K:xs.length<=4611686018427387904)
  (X:σ->List HP->Prop) (G:List HP) (h0:X s0 G) (hS:SH r (G++L) w)
  (b5:∀ s E,X s E->∃ (i j:Nat) (N O:TypeId),E[i]?=some (blk b1 N [.slice A m c])/\E[j]?=some (blk b2 O [.int .i64 (q:Nat)]))
  (b6:∀ (lp k:Nat) (s s':σ) (E B:List HP) (a':Act) (w':World),k * q<m->φ s ((xs.drop (k * q)).take q)=some s'->X s E->FR n [] a' ((pc,pcv A d.sz q m k)::(p,pcv A d.sz q m k)::Fr)->SH r (E++B) w' ->
   ∀ Qr:Exit->Act->World->Prop,¬ LetsOut Qr->(∀ b7 R H,X s' H->SH r (H++B) R->Qr .normal b7 R)->body.wpIn (Fence.wide.inRound lp) 5 P Qr a' w')
  (b8:∀ (b:Nat) (E:List HP) (a':Act) (w':World),X y E->FR n [aRt b] a' Fr->SH r (E++aD4 b (.deferred (some []))::L) w'->Q .normal a' w')
  {ida:Nat} {oa:Oper}
  (hg:ev Fr g=some (.func (.func f) #[] #[.pointer (some ⟨b1,0,none⟩),.pointer (some ⟨b2,0,none⟩)]):=by rfl) (hp:Nat.blt p n=true:=by rfl) (S:Nat.blt pc n=true:=by rfl)
  (T:oa.op=.assign (.tmp p):=by rfl) (b9:oa.dst=some pc:=by rfl) (c0:oa.guard=none:=by rfl):(Code.rangeFunc g #[p] (.region ida #[oa] false) body).wp P Q a w:=by
 obtain⟨hm,c1,hc,c2⟩:=hI;have K:m<=4611686018427387904:=by rw [← hm];exact K
 have U:1<=q:=by simp only [Bool.and_eq_true] at F;exact Nat.le_of_ble_eq_true F.1
 have c3:q<=1073741824:=by simp only [Bool.and_eq_true] at F;exact Nat.le_of_ble_eq_true F.2
 have c4:p<n:=Nat.le_of_ble_eq_true hp;have e3:pc<n:=Nat.le_of_ble_eq_true S;refine (wpIn_wide (n:=7)).1 ?_;refine wpIn_rangeFunc ?_;intro fn c5;rw [show Fence.wide.round=none from rfl];obtain⟨rec,u⟩:∃ rec:LoopState->Option Code->Loop,rec=λst pe=>{ state:=st,pending:=pe,fn,tmps:=a.tmps,params:=#[p],assign:=.region ida #[oa] false,body,defers:=w.heap.size }:=⟨_,rfl⟩;obtain⟨b,Y⟩:∃ b,b=w.heap.size:=⟨_,rfl⟩;obtain⟨l,hl⟩:∃ l,l=w.heap.size+1:=⟨_,rfl⟩;obtain⟨z,Z⟩:∃ z,(w.alloc (.deferred (some []))).alloc (.loop (rec .ready none))=z:=⟨_,rfl⟩;have c6:SH r (G++aD4 l (.loop (rec .ready none))::aD4 b (.deferred (some []))::L) z:=by have h1:=hS.objNew (.deferred (some []));have h2:=SH.behind h1;have h3:=h2.objNew (.loop (rec .ready none));rw [World.size_alloc,Z] at h3;rw [hl,Y];exact SH.behind h3
 refine⟨l,[aRt b],z,{ target:=.fn (.func f) #[.pointer (some ⟨b1,0,none⟩),.pointer (some ⟨b2,0,none⟩)],args:=#[.func (.yield l) #[] #[]] },z,f,
  #[.func (.yield l) #[] #[]]++#[.pointer (some ⟨b1,0,none⟩),.pointer (some ⟨b2,0,none⟩)],z,?_,?_,?_,?_,λ_=>by omega,?_⟩
 ·rw [← Z,u,hl,Y];exact run_enterLoop_outer _ _ _ _ _
 ·simp only [resolve,hA.ev hg];simp [go_sem]
 ·intro f' a1;trivial
 ·simp [invoke,go_sem];exact b3 _ _
 ·have J0:∃ J:Nat->World->Prop,J=λk W=>∃ s E,((pcs q xs).take k).foldlM φ s0=some s/\X s E/\SH r (E++aD4 l (.loop (rec .ready none))::aD4 b (.deferred (some []))::L) W:=⟨_,rfl⟩;obtain⟨J,D⟩:=J0;refine (hH l b1 b2 A m c q J U c3 c1 hc K c2 ?_ ?_ z ?_).mono ?_
  ·intro k W hk;rw [D] at hk ⊢;obtain⟨s,E,hf,C,o⟩:=hk;obtain⟨i,j,N,O,e1,e2⟩:=b5 s E C;have hi:i<E.length:=(List.getElem?_eq_some_iff.1 e1).1;have hj:j<E.length:=(List.getElem?_eq_some_iff.1 e2).1;exact⟨o.cell i (by rw [List.getElem?_append_left hi];exact e1) 0 _ rfl,o.cell j (by rw [List.getElem?_append_left hj];exact e2) 0 _ rfl,s,E,hf,C,o.drew⟩
  ·intro k W hk a5;rw [D] at hk;obtain⟨s,E,hf,C,o⟩:=hk;obtain⟨s',d1,a1⟩:=aNk M (aHh U (by rw [hm];exact a5)) hf;have I:W.heap[l]?=some (.loop (rec .ready none)):=o.front.objGet 0 rfl;have hy:=run_yield (P:=P) (args:=#[pcv A d.sz q m k]) I (by rw [u];simp);rw [u] at hy;refine⟨fn,_,_,body,hy,roundIn_of_wpIn c5 ?_⟩;have d2:FR n [] ({ tmps:=((#[p].zip #[pcv A d.sz q m k]).foldl (λt (x:Nat×Value)=>t.setIfInBounds x.1 x.2) a.tmps),defers:=[] }:Act) ((p,pcv A d.sz q m k)::Fr):=by have:=hA.put p (pcv A d.sz q m k) c4;exact⟨by simpa [Act.put] using this.size,rfl,λt v hv=>by simpa [Act.put] using this.at_ t v hv⟩
   refine aT2 (by rintro⟨_,_,h⟩;exact h) (by simp [Oper.nodefer,T]) ?_;refine eX (v:=pcv A d.sz q m k) d2 (λac d4=>?_) T (by show lk _ _=_;simp [lk]) b9 c0 S;refine wpList_nil ?_;have d5:=o.front.objPut (.loop { rec .ready none with state:=.busy });refine⟨_,run_beginRound I (by rw [u]),?_⟩;refine b6 l k s s' E _ ac _ a5 d1 C d4 (SH.behind d5) _ (by rintro⟨_,_,h⟩;exact h) ?_;intro a3 W3 H d6 a7;have d7:=a7.front.objGet 0 rfl;refine⟨_,_,run_endRound none d7,rfl,?_⟩;rw [D];have h4:=a7.front.objPut (.loop { { rec .ready none with state:=.busy } with state:=.ready,pending:=none });refine⟨s',H,a1,d6,?_⟩;have h5:=SH.behind h4;rw [u] at h5 ⊢;exact h5
  ·rw [D];exact⟨s0,G,by simp,h0,c6⟩
  ·rintro e W2 ⟨⟨v,rfl⟩,hk⟩;rw [D] at hk;obtain⟨s,E,hf,C,o⟩:=hk;rw [← hm, ← aBq,List.take_length,M] at hf;cases hf;have I:W2.heap[l]?=some (.loop (rec .ready none)):=o.front.objGet 0 rfl;refine⟨none,_,by have:=run_endLoop (P:=P) I (by rw [u];simp);rw [u] at this;exact this,?_⟩;have h6:=(o.front.objPut (.loop { state:=.exhausted,pending:=none,fn:=fn,tmps:=a.tmps,params:=#[p],assign:=.region ida #[oa] false,body:=body,defers:=w.heap.size })).tail;exact b8 b E _ _ C ⟨hA.size,by simp [hA.defers],hA.at_⟩ h6
end
section
variable {P:Program} {f:FuncId} {fn:Func} {cd:Code} {args:Array Value} {w:World} {R:Value->World->Prop} {n:Nat}
theorem aZz (hf:P.funcs[f]?=some fn) (hb:fn.body=some cd) (hn:fn.ntmps=n)
  (F:List (Nat×Value)) (c:F.map (λp=>args[p.1]?)=F.map λp=>some p.2) (hle:(args.size<=n)=True)
  (h:∀ a,FR n [] a F->∀ Qf:Exit->Act->World->Prop,(∀ a w,bodyPost P fn (λe w'=>∃ v,e=.returned v/\R v w') .ret a w->Qf .ret a w) ->
   (∀ (d:Nat) (F:List (Nat×Value)) (r:World) (L:List HP) a w,FR n [aRt d] a F->SH r (aD4 d (.deferred (some []))::L) w->(∀ a w,FR n [] a F->SH r L w->bodyPost P fn (λe w'=>∃ v,e=.returned v/\R v w') .ret a w)->Qf .ret a w)->cd.wp P Qf a w):Ret P f args w R:=by
 refine (callsIn_wide (n:=8)).1 (callsIn_of_wp_marks hf hb trivial (wpIn_wide.2 (h _ ⟨?_,rfl,?_⟩ _ ?_ ?_)))
 ·have:=of_eq_true hle;simp [hn];omega
 ·intro t v b;clear h
  induction F with
  | nil=>cases b
  | cons p q ih =>
   obtain⟨k,u⟩:=p;simp only [List.map_cons,List.cons.injEq] at c;simp only [lk] at b;by_cases e:Nat.beq k t=true
   ·rw [e] at b;have e':=Nat.eq_of_beq_eq_true e;subst e';cases b;have i:=(Array.getElem?_eq_some_iff.1 c.1).1;show (args++_)[k]?=_;rw [Array.getElem?_append_left i];exact c.1
   ·rw [Bool.eq_false_iff.2 e] at b;exact ih c.2 b
 ·rintro a w ⟨hd,v,hr,g⟩;show LeavesInM _ _ _ _ _ _ a.defers _ _;rw [hd];exact⟨v,hr,g⟩
 ·intro d F r L a w hA hS h;show LeavesInM _ _ _ _ _ _ a.defers _ _;rw [hA.defers];have hg:=hS.objGet 0 rfl;refine⟨by simp,.inl ⟨d,_,rfl,run_takeDeferred hg,?_⟩⟩;obtain⟨_,v,hr,g⟩:=h { a with defers:=[] } _ ⟨hA.size,rfl,hA.at_⟩ (hS.objPut (.deferred none)).tail;exact⟨v,hr,g⟩
end
theorem aPg:∀ xs:List (List UInt8),Lay kS xs (xs.map encStr)
 | []=>rfl
 | x::xs=>⟨[str x],_,rfl,rfl,aPg xs⟩
theorem aJ2:∀ {xs:List (List UInt8)} {cs:List Value},Lay kS xs cs->cs=xs.map encStr
 | [],cs,h=>h
 | x::xs,cs,⟨c1,c2,e,h1,h2⟩=>by have a:c1=[str x]:=h1;rw [e,a,aJ2 h2];rfl
theorem aGp {α:Type} [Inhabited α] [DecidableEq α] (xs:List α):(Lib.compact xs).length<=xs.length:=by unfold Lib.compact Lib.compactUpTo;rw [List.length_map];exact Nat.le_trans (List.length_filter_le _ _) (by simp)
theorem SH.newrow {α:Type} {r w w':World} {L:List HP} {d:Kd α} {e:TypeId} {v:Value} {xs:List α} {inner:List Value} (h:SH r L w) (hb:Below w.heap.size w w')
  (hr:w'.ownsRow w.heap.size e d.sz v xs.length inner) (hL:Lay d xs inner):∃ (A:Option Addr) (n c:Nat),v=.slice A n c/\SH r (own d e A n c xs::L) w':=by
 have a:=ownsRow_base_a hr (Nat.zero_le _);have key:∃ A c,v=.slice A xs.length c/\∀ k,v.ownBlock=some k->w.heap.size<=k/\k<w'.heap.size:=by
  rcases hr.2 with ⟨rfl,hz⟩ | ⟨g,cap,cur,rfl,hg,b,_⟩
  ·exact⟨none,0,by rw [hz],λk hk=>by simp [Value.ownBlock] at hk⟩
  ·exact⟨_,_,rfl,λk hk=>by
    have:g=k:=by simpa [Value.ownBlock] using hk
    subst this;exact⟨hg,(Array.getElem?_eq_some_iff.1 b).1⟩⟩
 obtain⟨A,c,rfl,hk⟩:=key;refine⟨A,xs.length,c,rfl,hb.os.trans h.os,hb.tape.trans h.tape,hb.output.trans h.output,λk=>w.heap.size<=k/\k<w'.heap.size,λk=>k<w.heap.size,λk hk=>hk.2,λk hk=>by have:=hb.size;omega,λk f i=>by omega,⟨rfl,⟨inner,hL,a⟩,hk⟩,h.sep.fr λk hk=>hb.block k hk⟩
structure Gc (Z:Nat->Prop) (wz:World) (g:Nat) (p:Value->Prop):Prop where
 z:Z g
 c:∃ v,wz.cell? ⟨g,0,none⟩=some v/\p v
section
variable {Z Z':Nat->Prop} {wz wz' r w:World} {g:Nat} {p:Value->Prop} {L:List HP}
theorem Gc.sub (h:Gc Z wz g p) (hs:Sub Z wz Z' wz'):Gc Z' wz' g p:=by obtain⟨v,hc,hp⟩:=h.c;exact⟨(hs g h.z).1,v,(World.cell?_of_block (hs g h.z).2).trans hc,hp⟩
theorem Gc.at_ (h:Gc Z wz g p) (hS:SH r L w) (q:Nat) (hL:L[q]?=some (zone Z wz)):∃ v,w.cell? ⟨g,0,none⟩=some v/\p v:=by obtain⟨b,a⟩:=SH.getL q hL hS.sep;obtain⟨v,hc,hp⟩:=h.c;exact⟨v,(World.cell?_of_block (a.2 g h.z)).trans hc,hp⟩
end
section
variable {P:Program} {o:Oper} {a:Act} {w:World} {x:Operand} {xt yt:TypeId}
end
theorem SH.drewN {r w:World} {L:List HP} (h:SH r L w) (n:Nat):SH r L (w.drewN n):=h.keep rfl rfl rfl (Nat.le_refl _) λ_ _=>rfl
theorem SH.bel {r w w':World} {L:List HP} (h:SH r L w) (hb:Below w.heap.size w w'):SH r L w':=h.keep hb.os hb.tape hb.output hb.size hb.block
section
variable {r w:World} {L:List HP} {d:Nat} {ds:List Nat}
end
section
variable {P:Program} {f:FuncId} {fn:Func} {cd:Code} {args:Array Value} {w:World} {R:Value->World->Prop} {n:Nat}
end
section
variable {σ β τ:Type} {φ:σ->β->Option (σ⊕τ)} {y:σ⊕τ}
end
section
variable {P:Program} {ops:Array Oper} {Q:Exit->Act->World->Prop} {o:Oper} {rest:List Oper} {a:Act} {w:World} {lp m n t:Nat} {D:List Deferred} {F:List (Nat×Value)} {v:Value}
end
section
variable {α:Type} {d:Kd α} {Z:Nat->Prop} {wz:World} {A:Option Addr} {m c q:Nat} {xs:List α}
end
section
variable {σ τ α:Type} {d:Kd α} {P:Program} {f:FuncId} {q:Nat} {xs:List α} {φ:σ->List α->Option (σ⊕τ)} {s0:σ} {y:σ⊕τ} {n:Nat} {Fr:List (Nat×Value)} {a:Act} {w r:World} {L:List HP}
 {g:Operand} {p pc:Nat} {body:Code} {b1 b2:Nat} {A:Option Addr} {m c:Nat} {Q:Exit->Act->World->Prop} {ds:List Nat}
end
structure Gb (Z:Nat->Prop) (wz:World) (g:Nat) (k:IntKind) (zs:List Int):Prop where
 z:Z g
 c:∃ T fr,wz.heap[g]?=some (.cells (zs.map λz=>Value.int k z).toArray T fr)
theorem Gb.sub {Z Z':Nat->Prop} {wz wz':World} {g:Nat} {k:IntKind} {zs:List Int} (h:Gb Z wz g k zs) (hs:Sub Z wz Z' wz'):Gb Z' wz' g k zs:=by obtain⟨T,fr,hc⟩:=h.c;exact⟨(hs g h.z).1,T,fr,(hs g h.z).2.trans hc⟩
theorem Gb.tab {P:Program} {Z:Nat->Prop} {wz r w:World} {L:List HP} {g:Nat} {k:IntKind} {zs:List Int} {nm:String} (h:Gb Z wz g k zs) (hS:SH r L w) (q:Nat) (hL:L[q]?=some (zone Z wz)) (hg:P.globalNamed nm=some g):Lib.TabIs P w nm k zs:=by obtain⟨b,a⟩:=SH.getL q hL hS.sep;obtain⟨T,fr,hc⟩:=h.c;simp only [Lib.TabIs,World.var?,hg,bGi,(a.2 g h.z).trans hc]
theorem bAn {P:Program} {W:World} {nm:String} {g t e n:Nat} {k:IntKind} {zs:List Int} (hg:P.globalNamed nm=some g) (ht:(P.globals[g]?).map (·.type)=some t)
  (hu:P.underlying t=some (.array n e)) (he:P.underlying e=some (.int k)) (c:P.cellsOf e=1) (d:P.cellsOf t=n)
  (h:laidMet P [(nm,.agg (zs.map λx=>.lit (.int k x)))] W):Gb (aE0 W) W g k zs:=by
 have a:Lib.TabIs P W nm k zs:=Lib.tabIs_of_head hg ht hu he c d h;simp only [Lib.TabIs,World.var?,hg,bGi] at a;split at a
 ·rename_i cs T fr b;cases a;exact⟨(Array.getElem?_eq_some_iff.1 b).1,T,fr,b⟩
 ·cases a
theorem SH.grow {r w:World} {L:List HP} (h:SH r L w) (os:Array Obj):SH r L (Go.Sort.grow w os) :=
 h.keep rfl rfl rfl (by simp [Go.Sort.grow]) λk hk=>by simp [Go.Sort.grow,Array.getElem?_append_left hk]
theorem bC3 {P:Program} {r:World} {L:List HP} {T:TypeId} {a:Act} {w:World} {n:Nat} {F:List (Nat×Value)} {fn:Func} {R:Value->World->Prop} {t u g ty:Nat} {cs:List Value} {b:Value} {dd:TypeDesc} (hr:fn.results=#[.cell t ty,.tmp u]) (hu:P.underlying ty=some dd) (hi:(P.info? ty).map (·.size)=some cs.length) (hS:SH r L w) (qi:Nat) (c:L[qi]?=some (blk g T cs))
  (hA:FR n [] a F) (d:lk F t=some (.pointer (some ⟨g,0,none⟩))) (f:lk F u=some b) (hf:aF7 dd=false) (h:R (.tuple #[.agg cs.toArray,b]) w):bodyPost P fn (λe w'=>∃ v,e=.returned v/\R v w') .ret a w :=
 bodyPost_ret (v:=.tuple #[.agg cs.toArray,b]) (by
  have k:a.tmps.getD t undef=.pointer (some ⟨g,0,none⟩):=hA.ev (x:=.tmp t) d;have l:a.tmps.getD u undef=b:=hA.ev (x:=.tmp u) f;obtain⟨i,m,o⟩:=Option.map_eq_some_iff.1 hi;have p:(isAgg ty).run P w=.ok true w:=by rw [oY hu,hf];rfl
  have hl:=run_loadCells_list (P:=P) w ⟨g,0,none⟩ cs (λj u q=>by rw [gJ,Nat.zero_add];exact hS.cell qi c j u q);have s:(loadVar ty ⟨g,0,none⟩).run P w=.ok (.agg cs.toArray) w:=by simp [loadVar,p,sizeOf,typeInfo,m,o,hl]
  rw [← l];have y:a.tmps[t]?.getD undef=.pointer (some ⟨g,0,none⟩):=by rw [← Array.getD_eq_getD_getElem?];exact k
  simp [results,hr,y,asAddr,s]) hA.defers ⟨_,rfl,h⟩
def kHd:Kd (Option Addr×Nat×Nat) where
 sz:=1
 V x cs:=cs=[.slice x.1 x.2.1 x.2.2]
 len h:=by rw [h];rfl
 one h:=by rw [h];simp [Value.oneCell']
def aE7 {α:Type} (a b c:List α):Option (List α):=chk (0<b.length/\a.length+b.length+c.length<=65536) (some (a++b++c))
end Go.Proofs.YtdkpjpoajlmmfaaGreatDoor.E
namespace Go.Proofs.YtdkpjpoajlmmfaaGreatDoor.E
open Go Go.RowKit
def mvB (n:Nat) (F:List (Nat×Value)):Option Nat->Op->Option (Nat×Bool)->Option (Nat×Value)
 | some t,.move x,none=>bif Nat.blt t n then (ev F x).map λv=>(t,v) else none
 | some t,.assign x,none=>bif Nat.blt t n then (ev F x).map λv=>(t,v) else none
 | _,_,_=>none
section
variable {P:Program} {ops:Array Oper} {Q:Exit->Act->World->Prop} {o:Oper} {rest:List Oper} {a:Act} {w:World} {n t:Nat} {D:List Deferred} {F:List (Nat×Value)} {v:Value}
theorem x_m (hA:FR n D a F) (h:mvB n F o.dst o.op o.guard=some (t,v)) (kk:∀ a',FR n D a' ((t,v)::F)->wpList P ops Q rest a' w):wpList P ops Q (o::rest) a w:=by
 unfold mvB at h;split at h
 ·rename_i t' x hd b hg;cases hb:Nat.blt t' n with
  | false=>rw [hb] at h;cases h
  | true =>
   rw [hb] at h;cases hx:ev F x with
   | none=>rw [hx] at h;cases h
   | some u=>rw [hx] at h;cases h;exact eE hA kk b hx hd hg hb
 ·rename_i t' x hd b hg;cases hb:Nat.blt t' n with
  | false=>rw [hb] at h;cases h
  | true =>
   rw [hb] at h;cases hx:ev F x with
   | none=>rw [hx] at h;cases h
   | some u=>rw [hx] at h;cases h;exact eX hA kk b hx hd hg hb
 ·cases h
def aQw (n:Nat) (j:Nat) (b:Bool) (tg:Nat):Nat->List Oper->List (Nat×Value)->Option (List Oper×List (Nat×Value))
 | 0,l,F=>some (l,F)
 | k+1,o::l,F=>match o.guard,o.dst with
  | some (j',b'),some t=>bif Nat.beq j j'&&(b==b')&&Nat.blt t n && !Nat.beq t tg then aQw n j b tg k l ((t,undef)::F) else none
  | _,_=>none
 | _,[],_=>none
theorem aRf {j tg:Nat} {b d:Bool} (hb:d = !b) (e:(ops[j]?).bind (·.dst)=some tg):∀ (k:Nat) {l rest:List Oper} {F F':List (Nat×Value)} {a:Act},FR n D a F->lk F tg=some (.bool d)->aQw n j b tg k l F=some (rest,F') ->
  (∀ a',FR n D a' F'->wpList P ops Q rest a' w)->wpList P ops Q l a w
 | 0,l,rest,F,F',a,hA,hv,h,kk=>by cases h;exact kk a hA
 | k+1,[],rest,F,F',a,hA,hv,h,kk=>by cases h
 | k+1,o::l,rest,F,F',a,hA,hv,h,kk=>by
  unfold aQw at h;split at h
  ·rename_i f g t hg hd;cases hc:Nat.beq j f&&(b==g)&&Nat.blt t n && !Nat.beq t tg with
   | false=>rw [hc] at h;cases h
   | true =>
    rw [hc] at h;simp only [Bool.and_eq_true,beq_iff_eq,Bool.not_eq_true'] at hc;obtain⟨⟨⟨c,i⟩,m⟩,p⟩:=hc;have c:=Nat.eq_of_beq_eq_true c;subst c;subst i;refine bD4 hb hA (λa' q=>?_) hg e hv hd m;exact aRf hb e k q (by simp only [lk,p];exact hv) h kk
  ·cases h
theorem xO {j tg:Nat} {b c:Bool} {l:List Oper} {F':List (Nat×Value)} (k:Nat) (hb:c = !b) (hA:FR n D a F) (h:(l.head?.bind (·.guard),(ops[j]?).bind (·.dst),lk F tg,aQw n j b tg k l F)=(some (j,b),some tg,some (.bool c),some (rest,F'))) (kk:∀ a',FR n D a' F'->wpList P ops Q rest a' w):wpList P ops Q l a w :=
 aRf hb (congrArg (·.2.1) h) k hA (congrArg (·.2.2.1) h) (congrArg (·.2.2.2) h) kk
section
variable {M:List Nat} {F0 VL E:List (Nat×Value)} {effs done:List Nat} {p m e:Nat}
def mvP (ops:Array Oper) (M:List Nat) (F0 VL:List (Nat×Value)) (p:Nat):Option Value:=match ops[p]? with
 | none=>none
 | some o=>match o.guard with
  | some _=>none
  | none=>match o.op with
   | .move (.tmp t)=>src ops M F0 VL p t
   | .assign (.tmp t)=>src ops M F0 VL p t
   | .move (.const c)=>some c
   | .assign (.const c)=>some c
   | _=>none
theorem pm (h:(mvP ops M F0 VL p,lk VL p)=(some v,some v)):tN P ops n D M F0 VL w p:=by
 have b:mvP ops M F0 VL p=some v:=congrArg (·.1) h
 have e:lk VL p=some v:=congrArg (·.2) h
 unfold mvP at b;split at b
 ·cases b
 ·rename_i o f;split at b
  ·cases b
  ·rename_i hg;have one:∀ t,src ops M F0 VL p t=some v->(∀ a,FR n D a [(t,v)]->RunV P o a w v)->tN P ops n D M F0 VL w p:=λt hs hr =>
    ⟨o,v,[(t,v)],f,e,by simp [hs],λa he=>by unfold aMu;rw [if_pos (by simp [Region.wanted,hg])];exact hr a he⟩
   have two:(∀ a,FR n D a []->RunV P o a w v)->tN P ops n D M F0 VL w p:=λhr =>
    ⟨o,v,[],f,e,rfl,λa he=>by unfold aMu;rw [if_pos (by simp [Region.wanted,hg])];exact hr a he⟩
   split at b
   ·rename_i t d;exact one t b λa he=>xK d (he.ev (x:=.tmp t) (by simp [ev,lk]))
   ·rename_i t d;exact one t b λa he=>aA5 d (he.ev (x:=.tmp t) (by simp [ev,lk]))
   ·rename_i c d;cases b;exact two λa he=>xK d rfl
   ·rename_i c d;cases b;exact two λa he=>aA5 d rfl
   ·cases b
theorem pt (E:List (Nat×Value)) (ht:(ops[p]?,lk VL p,o.guard,E.map (λq=>src ops M F0 VL p q.1))=(some o,some v,none,E.map (λq=>some q.2))) (h:∀ a,FR n D a E->RunV P o a w v):tN P ops n D M F0 VL w p :=
 pu (congrArg (·.1) ht) (congrArg (·.2.1) ht) E h (congrArg (·.2.2.1) ht) (congrArg (·.2.2.2) ht)
theorem et (E:List (Nat×Value)) (ht:(ops[e]?,o.guard,E.map (λq=>src ops M F0 VL e q.1))=(some o,none,E.map (λq=>some q.2)))
  (h:∀ a,FR n D a E->∀ K:Act->World->Prop,(∀ v NV w',NV.all (λq=>(lk ((e,v)::VL) q.1).isNone)=true->pG P ops Q n D M F0 effs m (e::done) (NV++(e,v)::VL) w'->K (a.put o.dst v) w')->o.wp P a w K Q):aHl P ops Q n D M F0 effs m done VL w e :=
 ef (congrArg (·.1) ht) E h (congrArg (·.2.1) ht) (congrArg (·.2.2) ht)
theorem dF (ps es:List Nat) (hp:(aE5 ops M effs done,aGn ops M effs done,effs.all (done.contains ·))=(ps,es,false)) (h:AllP (tN P ops n D M F0 VL w) ps) (a:AllP (aHl P ops Q n D M F0 effs m done VL w) es):pG P ops Q n D M F0 effs (m+1) done VL w :=
 bEw ps es (congrArg (·.1) hp) h (congrArg (·.2.1) hp) (congrArg (·.2.2) hp) a
end
def dsB (n:Nat):Option Nat->Option (Nat×Bool)->Option Nat
 | some t,none=>bif Nat.blt t n then some t else none
 | _,_=>none
theorem x_v (hA:FR n D a F) (r:RunV P o a w v) (h:dsB n o.dst o.guard=some t) (kk:∀ a',FR n D a' ((t,v)::F)->wpList P ops Q rest a' w):wpList P ops Q (o::rest) a w:=by
 unfold dsB at h;split at h
 ·rename_i t' hd hg;cases hb:Nat.blt t' n with
  | false=>rw [hb] at h;cases h
  | true=>rw [hb] at h;cases h;exact eK hA r kk hd hg hb
 ·cases h
theorem wn (h:Q .normal a w):wpList P ops Q [] a w:=wpList_nil h
theorem ws {id:Nat} {c:Code} (h:∀ K:Act->World->Prop,(∀ a w,c.wp P Q a w->K a w)->wpList P ops (Exit.then K Q) ops.toList a w):((Code.region id ops false).seq c).wp P Q a w :=
 wp_seq_k λK hK=>aC (h K hK)
end
end Go.Proofs.YtdkpjpoajlmmfaaGreatDoor.E
namespace Go.Proofs.YtdkpjpoajlmmfaaGreatDoor.E
open Go Go.RowKit
def kc:IntKind->Nat
  | .i8=>0 | .i16=>1 | .i32=>2 | .i64=>3 | .u8=>4 | .u16=>5 | .u32=>6 | .u64=>7
theorem aZ2 {k a:IntKind} (h:Nat.beq (kc k) (kc a)=true):k=a:=by cases k <;> cases a <;> first | rfl | cases h
def bI (k:IntKind) (i j:Int):BinOp->Option Value
  | .add=>some (.int k (k.wrap (i+j)))
  | .sub=>some (.int k (k.wrap (i - j)))
  | .mul=>some (.int k (k.wrap (i * j)))
  | .and=>some (.int k (aBk k i j))
  | .or=>some (.int k (ior k i j))
  | .xor=>some (.int k (aAx k i j))
  | .eql=>some (.bool (i==j))
  | .neq=>some (.bool (i != j))
  | .lss=>some (.bool (decide (i<j)))
  | .leq=>some (.bool (decide (i<=j)))
  | .gtr=>some (.bool (decide (j<i)))
  | .geq=>some (.bool (decide (j<=i)))
  | _=>none
def pv (F:List (Nat×Value)) (l:Bool):Op->Option (Value×List Bool)
  | .move x=>(ev F x).map λv=>(v,[])
  | .assign x=>(ev F x).map λv=>(v,[])
  | .pick c x y=>match ev F c with
    | some (.bool b)=>(ev F (bif l then x else y)).map λv=>(v,[b])
    | _=>none
  | .binOp op _ x y _=>match ev F x,ev F y with
    | some (.int k i),some (.int k' j)=>bif Nat.beq (kc k) (kc k') then (bI k i j op).map λv=>(v,[]) else none
    | _,_=>none
  | .unOp .not _ x=>match ev F x with
    | some (.bool b)=>some (.bool (!b),[])
    | _=>none
  | .nilCheck x=>match ev F x with
    | some (.pointer (some a))=>some (.pointer (some a),[])
    | _=>none
  | .extract x i=>match ev F x with
    | some (.tuple vs)=>(vs[i]?).map λv=>(v,[])
    | _=>none
  | _=>none
def rn (ops:Array Oper) (n:Nat) (l:Bool):Nat->List Oper->List (Nat×Value)->List Bool->Option (List Oper×List (Nat×Value)×List Bool)
  | 0,os,F,bs=>some (os,F,bs)
  | _+1,[],_,_=>none
  | k+1,o::os,F,bs=>match o.dst with
    | none=>none
    | some t=>bif Nat.blt t n then
        match o.guard with
        | none=>match pv F l o.op with
          | some (v,cs)=>rn ops n l k os ((t,v)::F) (cs++bs)
          | none=>none
        | some (j,g)=>match (ops[j]?).bind (·.dst) with
          | none=>none
          | some u=>match lk F u with
            | some (.bool b)=>bif l==g then
                match pv F l o.op with
                | some (v,cs)=>rn ops n l k os ((t,v)::F) (b::(cs++bs))
                | none=>none
              else rn ops n l k os ((t,undef)::F) (b::bs)
            | some (.tuple a)=>bif Nat.beq a.size 0 then rn ops n l k os ((t,undef)::F) bs else none
            | _=>none
      else none
section
variable {P:Program} {ops:Array Oper} {Q:Exit->Act->World->Prop} {o:Oper} {rest os:List Oper} {a:Act} {w:World} {n t k:Nat} {D:List Deferred} {F F':List (Nat×Value)} {v:Value} {l c:Bool} {bs cs:List Bool}
theorem aZh {op:BinOp} {x y:Operand} {xt yt:TypeId} {k:IntKind} {i j:Int} (b:o.op=.binOp op xt x y yt) (hx:a.eval x=.int k i) (c:a.eval y=.int k j) (h:bI k i j op=some v):RunV P o a w v:=by
  unfold bI at h;split at h <;> cases h
  · exact kW b hx c
  · exact aAc b hx c
  · exact bDa b hx c
  · exact aYt b hx c
  · exact aL7 b hx c
  · exact bDe b hx c
  · exact aAa b hx c
  · exact xP b hx c
  · exact aEa b hx c
  · exact aYv b hx c
  · exact aD9 b hx c
  · exact aYu b hx c
theorem aPo (hA:FR n D a F) (h:pv F l o.op=some (v,cs)) (hc:∀ b∈cs,b=l):RunV P o a w v:=by
  unfold pv at h;split at h
  · rename_i x d
    obtain⟨u,hu,e⟩:=Option.map_eq_some_iff.1 h;cases e;exact xK d (hA.ev hu)
  · rename_i x d
    obtain⟨u,hu,e⟩:=Option.map_eq_some_iff.1 h;cases e;exact aA5 d (hA.ev hu)
  · rename_i c x y d
    split at h
    · rename_i b hb
      obtain⟨u,hu,e⟩:=Option.map_eq_some_iff.1 h;cases e;have f:b=l:=hc b (by simp);cases l
      · exact aI1 d (by rw [hA.ev hb,f]) (hA.ev hu)
      · exact aI2 d (by rw [hA.ev hb,f]) (hA.ev hu)
    · cases h
  · rename_i op _ x y _ d
    split at h
    · rename_i k i g j hx m
      cases hk:Nat.beq (kc k) (kc g) with
      | false=>rw [hk] at h;cases h
      | true =>
        rw [hk] at h;have:=aZ2 hk;subst this;obtain⟨u,hu,e⟩:=Option.map_eq_some_iff.1 h;cases e;exact aZh d (hA.ev hx) (hA.ev m) hu
    · cases h
  · rename_i x d
    split at h
    · rename_i b hb
      cases h;exact aKi d (hA.ev hb)
    · cases h
  · rename_i x d
    split at h
    · rename_i ad hx
      cases h;exact aN d (hA.ev hx)
    · cases h
  · rename_i x i d
    split at h
    · rename_i vs hx
      obtain⟨u,hu,e⟩:=Option.map_eq_some_iff.1 h;cases e;exact uF d (hA.ev hx) hu
    · cases h
  · cases h
theorem aC0:∀ (k:Nat) {os:List Oper} {F:List (Nat×Value)} {a:List Bool},rn ops n l k os F a=some (rest,F',bs)->∀ b∈a,b∈bs
  | 0,os,F,a,h,b,hb=>by cases h;exact hb
  | _+1,[],_,_,h,b,hb=>by cases h
  | k+1,o::os,F,a,h,b,hb=>by
    unfold rn at h;split at h
    · cases h
    · rename_i t hd
      cases ht:Nat.blt t n with
      | false=>rw [ht] at h;cases h
      | true =>
        rw [ht] at h;simp only [cond_true] at h;split at h
        · split at h
          · exact aC0 k h b (by simp [hb])
          · cases h
        · split at h
          · cases h
          · split at h
            · cases hg:l==_ with
              | true =>
                rw [hg] at h;simp only [cond_true] at h;split at h
                · exact aC0 k h b (by simp [hb])
                · cases h
              | false =>
                rw [hg] at h;exact aC0 k h b (by simp [hb])
            · cases hz:Nat.beq _ 0 with
              | true=>rw [hz] at h;exact aC0 k h b hb
              | false=>rw [hz] at h;cases h
            · cases h
theorem aG0:∀ (k:Nat) {os:List Oper} {F:List (Nat×Value)} {d:List Bool} {a:Act},rn ops n l k os F d=some (rest,F',bs)->(∀ b∈bs,b=l)->FR n D a F ->
    (∀ a',FR n D a' F'->wpList P ops Q rest a' w)->wpList P ops Q os a w
  | 0,os,F,d,a,h,hb,hA,kk=>by cases h;exact kk a hA
  | _+1,[],_,_,a,h,hb,hA,kk=>by cases h
  | k+1,o::os,F,d,a,h,hb,hA,kk=>by
    unfold rn at h;split at h
    · cases h
    · rename_i t hd
      cases ht:Nat.blt t n with
      | false=>rw [ht] at h;cases h
      | true =>
        rw [ht] at h;simp only [cond_true] at h;have ht':t<n:=Nat.le_of_ble_eq_true ht;split at h
        · rename_i hg
          split at h
          · rename_i v cs e
            exact wl hA hd hg ht' (aPo hA e λb q=>hb b (aC0 k h b (by simp [q]))) λa' c=>aG0 k h hb c kk
          · cases h
        · rename_i j g hg
          split at h
          · cases h
          · rename_i u f
            split at h
            · rename_i b hu
              cases hlg:l==g with
              | true =>
                rw [hlg] at h;simp only [cond_true] at h;split at h
                · rename_i v cs e
                  have i:b=g:=(hb b (aC0 k h b (by simp))).trans (by simpa using hlg);subst i;exact aY4 hA hg f hu (wl (o:={ o with guard:=none }) hA hd rfl ht' (aPo hA e λb q=>hb b (aC0 k h b (by simp [q]))) λa' c=>aG0 k h hb c kk)
                · cases h
              | false =>
                rw [hlg] at h;simp only [cond_false] at h;have i:b=l:=hb b (aC0 k h b (by simp));exact aVh hA hg f hu (by rw [i];exact hlg) hd ht' λa' c=>aG0 k h hb c kk
            · rename_i s hu
              cases hz:Nat.beq s.size 0 with
              | true =>
                rw [hz] at h;have hs:s=#[]:=Array.eq_empty_of_size_eq_zero (Nat.eq_of_beq_eq_true hz);subst hs;exact aVl hA (λa' c=>aG0 k h hb c kk) hg f hu hd ht
              | false=>rw [hz] at h;cases h
            · cases h
theorem aX5 (hb:c=l) (h:bs.map (λ_=>c)=bs):∀ b∈bs,b=l:=by intro b hm;rw [← h] at hm;obtain⟨_,_,e⟩:=List.mem_map.1 hm;rw [← e,hb]
theorem xk (k:Nat) (hA:FR n D a F) (h:rn ops n true k os F []=some (rest,F',[])) (kk:∀ a',FR n D a' F'->wpList P ops Q rest a' w):wpList P ops Q os a w :=
  aG0 k h (λb q=>by cases q) hA kk
theorem xg (k:Nat) (hb:c=l) (hA:FR n D a F) (h:rn ops n l k os F []=some (rest,F',bs)) (hB:bs.map (λ_=>c)=bs) (kk:∀ a',FR n D a' F'->wpList P ops Q rest a' w):wpList P ops Q os a w :=
  aG0 k h (aX5 hb hB) hA kk
theorem nk (k:Nat) (hA:FR n D a F) (h:rn ops n true k os F []=some ([],F',[])) (kk:∀ a',FR n D a' F'->Q .normal a' w):wpList P ops Q os a w :=
  aG0 k h (λb q=>by cases q) hA λa' c=>wpList_nil (kk a' c)
theorem ng (k:Nat) (hb:c=l) (hA:FR n D a F) (h:rn ops n l k os F []=some ([],F',bs)) (hB:bs.map (λ_=>c)=bs) (kk:∀ a',FR n D a' F'->Q .normal a' w):wpList P ops Q os a w :=
  aG0 k h (aX5 hb hB) hA λa' b=>wpList_nil (kk a' b)
theorem nz {id:Nat} {cd:Code} (k:Nat) (hA:FR n D a F) (h:rn ops n true k ops.toList F []=some ([],F',[])) (kk:∀ a',FR n D a' F'->cd.wp P Q a' w):((Code.region id ops false).seq cd).wp P Q a w :=
  ws λ_ hK=>nk k hA h λa' b=>hK a' w (kk a' b)
theorem ny {id:Nat} {cd:Code} (k:Nat) (hb:c=l) (hA:FR n D a F) (h:rn ops n l k ops.toList F []=some ([],F',bs)) (hB:bs.map (λ_=>c)=bs) (kk:∀ a',FR n D a' F'->cd.wp P Q a' w):((Code.region id ops false).seq cd).wp P Q a w :=
  ws λ_ hK=>ng k hb hA h hB λa' b=>hK a' w (kk a' b)
theorem bcG {β:Type} {b:Bool} {p q:Option β} {y:β} {g:Prop} (G:(if b=true then p else q)=some y) (a:b=true->p=some y->g) (c:b=false->q=some y->g):g:=by
  cases hb:b with
  | true=>exact a hb (ift hb G)
  | false=>exact c hb (bCx hb G)
theorem aY {β:Type} {x:Operand} {cx cy:Code} {b:Bool} {p q:Option β} {y:β} (hA:FR n D a F) (G:(if b=true then p else q)=some y) (hc:ev F x=some (.bool b)) (c:b=true->p=some y->cx.wp P Q a w) (d:b=false->q=some y->cy.wp P Q a w):(Code.cond x cx cy).wp P Q a w :=
  aLe hA hc (λhb=>c hb (ift hb G)) λhb=>d hb (bCx hb G)
theorem x_l {β:Type} {k:IntKind} {e:Int} {f:Int->Option β} {y:β} (G:ltt e f=some y) (hA:FR n D a F) (h:(pv F true o.op,dsB n o.dst o.guard)=(some (.int k e,[]),some t))
    (kk:∀ x,x=e->∀ a',FR n D a' ((t,.int k x)::F)->f x=some y->wpList P ops Q rest a' w):wpList P ops Q (o::rest) a w :=
  x_v hA (aPo (l:=true) hA (congrArg (·.1) h) λb q=>by cases q) (congrArg (·.2) h) λa' c=>kk e rfl a' c G
theorem eD {β:Type} {k:IntKind} {e:Int} {f:Int->Option β} {y:β} (G:ltt e f=some y) (hA:FR n D a F) (r:RunV P o a w (.int k e)) (h:dsB n o.dst o.guard=some t)
    (kk:∀ x,x=e->∀ a',FR n D a' ((t,.int k x)::F)->f x=some y->wpList P ops Q rest a' w):wpList P ops Q (o::rest) a w :=
  x_v hA r h λa' b=>kk e rfl a' b G
def evL (F:List (Nat×Value)) (tl:List Value):List Operand->Option (List Value)
  | []=>some tl
  | x::xs=>match ev F x,evL F tl xs with
    | some v,some vs=>some (v::vs)
    | _,_=>none
def apL (tl:List Value):List Value->List Value
  | []=>tl
  | x::xs=>x::apL tl xs
def clB (n:Nat) (F:List (Nat×Value)) (dst:Option Nat) (g:Option (Nat×Bool)):Op->Option (FuncId×List Value×Nat)
  | .call { callee:=.value fx,args:=az,argTypes:=_ }=>match g,dst,ev F fx with
    | none,some t,some (.func (.func f) fs caps)=>bif Nat.blt t n then match evL F caps.toList az.toList with
        | some vs=>some (f,apL vs fs.toList,t)
        | none=>none
      else none
    | _,_,_=>none
  | _=>none
theorem aTs (hA:FR n D a F) {tl:List Value}:∀ {az:List Operand} {vs:List Value},evL F tl az=some vs->vs=az.map a.eval++tl
  | [],vs,h=>by cases h;rfl
  | x::xs,vs,h=>by
    unfold evL at h;split at h
    · rename_i v d b c
      cases h;rw [aTs hA c,List.map_cons,hA.ev b];rfl
    · cases h
theorem aS2 {tl:List Value}:∀ {l:List Value},apL tl l=l++tl
  | []=>rfl
  | x::xs=>by rw [apL,aS2];rfl
theorem aTd (hA:FR n D a F) {f:FuncId} {vs:List Value} (h:clB n F o.dst o.guard o.op=some (f,vs,t)) :
    o.guard=none/\o.dst=some t/\t<n/\∃ fx az ts fs caps,o.op=.call { callee:=.value fx,args:=az,argTypes:=ts }/\a.eval fx=.func (.func f) fs caps/\fs++az.map a.eval++caps=vs.toArray:=by
  unfold clB at h;split at h
  · rename_i fx az ts b
    split at h
    · rename_i t' d fs caps hg hd hf
      cases ht:Nat.blt t' n with
      | false=>rw [ht] at h;cases h
      | true =>
        rw [ht] at h;simp only [cond_true] at h;split at h
        · rename_i us c
          cases h;refine⟨hg,hd,Nat.le_of_ble_eq_true ht,fx,az,ts,fs,caps,b,hA.ev hf,?_⟩;apply Array.ext';rw [aS2,aTs hA c];simp [Array.toList_map]
        · cases h
    · cases h
  · cases h
theorem x_c {f:FuncId} {vs:List Value} {R:Value->World->Prop} (hf:EN P f) (hA:FR n D a F) (h:clB n F o.dst o.guard o.op=some (f,vs,t)) (hC:Ret P f vs.toArray w R) (kk:∀ v a' w',R v w'->FR n D a' ((t,v)::F)->wpList P ops Q rest a' w'):wpList P ops Q (o::rest) a w:=by obtain⟨hg,hd,ht,fx,az,ts,fs,caps,b,hx,c⟩:=aTd hA h;exact mG hg λK hK=>aHe hf b hx rfl c hC λv w' d=>hK _ _ (kk v _ w' d (by rw [hd];exact hA.put t _ ht))
theorem kH {ρ π β:Type} {f:FuncId} {vs:List Value} {ch:List PanicEntry} {R:ρ->Value->World->Prop} {Rp:π->World->Prop} {u:Option (ρ⊕π)} {φ:ρ->Option β} {ψ:π->Option β} {y:β} (G:u.bind (λz=>fN z φ ψ)=some y)
    (hf:EN P f) (hA:FR n D a F) (h:clB n F o.dst o.guard o.op=some (f,vs,t)) (hC:∀ z,u=some z->RetS P f vs.toArray w ch z R Rp)
    (g:∀ b w',Rp b w'->ψ b=some y->Q (.panic ch) a w') (i:∀ b v a' w',R b v w'->FR n D a' ((t,v)::F)->φ b=some y->wpList P ops Q rest a' w'):wpList P ops Q (o::rest) a w:=by
  obtain⟨hg,hd,ht,fx,az,ts,fs,caps,d,hx,e⟩:=aTd hA h;obtain⟨z,hz,G⟩:=bnd G;have hC:=hC z hz;cases z with
  | inl b=>exact mG hg λK hK=>aHe hf d hx rfl e (RetS.lf hC) λv w' c=>hK _ _ (i b v _ w' c (by rw [hd];exact hA.put t _ ht) G)
  | inr b=>exact mG hg λK hK=>aLi hf d hx rfl e (RetS.rf hC) λw' c=>g b w' c G
end
section
variable {P:Program} {ops:Array Oper} {Q:Exit->Act->World->Prop} {a:Act} {w:World} {n:Nat} {D:List Deferred}
theorem wD {id:Nat} {F:List (Nat×Value)} {r:World} {L:List HP} (M effs:List Nat) (hm:P.follows .mixedOrders=true) (hA:FR n D a F) (hS:SH r L w) (b:(okM ops M,aJs ops,effs.all (λe=>Nat.blt e ops.size),((List.range ops.size).all λp=>match (ops[p]?).bind (λo:Oper=>o.dst) with | none=>true | some t=>Nat.blt t n))=(true,true,true,true))
  (h:∀ w',SH r L w'->∃ VL,pG P ops Q n D M F effs effs.length [] VL w'):(Code.region id ops true).wp P Q a w :=
  aXg M effs hm hA hS (congrArg (·.1) b) (congrArg (·.2.1) b) (congrArg (·.2.2.1) b) (congrArg (·.2.2.2) b) h
theorem dZ {M effs done:List Nat} {F0 VL:List (Nat×Value)} (ps:List Nat) (b:(aE5 ops M effs done,aGn ops M effs done,effs.all (done.contains ·))=(ps,[],true)) (h:AllP (tN P ops n D M F0 VL w) ps) (Ff:List (Nat×Value)) (c:Ff.map (λq=>aU8 ops F0 VL q.1)=Ff.map (λq=>some q.2)) (d:∀ a,FR n D a Ff->Q .normal a w):pG P ops Q n D M F0 effs 0 done VL w :=
  rF ps (congrArg (·.1) b) h ⟨congrArg (·.2.1) b,congrArg (·.2.2) b⟩ Ff c d
end
end Go.Proofs.YtdkpjpoajlmmfaaGreatDoor.E
namespace Go.Proofs.YtdkpjpoajlmmfaaGreatDoor.M
open Go Go.RowKit Go.Proofs.YtdkpjpoajlmmfaaGreatDoor.E
set_option linter.unusedVariables false
set_option linter.unusedSimpArgs false
structure S98 where
  f0:(List UInt8)
  f1:(List Int)
  f2:Int
structure S77 where
  f0:(List S98)
  f1:Int
  f2:Int
  f3:Bool
  f4:Int
structure S140 where
  f0:(List Int)
structure S61 where
  f0:Int
  f1:Int
  f2:Int
  f3:(List UInt8)
  f4:Nat
structure S26 where
  f0:Int
  f1:Int
  f2:Int
  f3:Int
structure S90 where
  f0:Int
  f1:Int
  f2:Int
  f3:Int
  f4:Int
  f5:Int
  f6:(List UInt8)
  f7:(List UInt8)
structure S128 where
  f0:(List Int)
  f1:Int
  f2:(List S90)
structure S46 where
  f0:(List UInt8)
  f1:Int
  f2:Int
  f3:Int
  f4:Int
structure S79 where
  f0:Unit
  f1:Int
  f2:(List S46)
structure S52 where
  f0:Int
  f1:Int
  f2:(List Int)
def bQ:List Int:=[0,498536548,997073096,651767980,1994146192,1802195444,1303535960,1342533948,3988292384,4027552580,3604390888,3412177804,2607071920,2262029012,2685067896,3183342108]
def bL:List Int:=[1,10,100,1000,10000,100000,1000000,10000000,100000000,1000000000,10000000000,100000000000,1000000000000,10000000000000,100000000000000,1000000000000000,10000000000000000,100000000000000000,1000000000000000000,10000000000000000000]
def aJn (x y:S90):Bool:=(x.f0==y.f0&&(x.f1==y.f1&&(x.f2==y.f2&&(x.f3==y.f3&&(x.f4==y.f4&&(x.f5==y.f5&&(x.f6==y.f6&&(x.f7==y.f7&&true))))))))
def k61:Kd S61 where
  sz:=5
  V x cs:=cs=[.int .u64 x.f0,.int .i64 x.f1,.int .i64 x.f2,str x.f3,.float .f64 x.f4]
  len h:=by rw [h];rfl
  one h:=by rw [h];simp [Value.oneCell',str]
def k90:Kd S90 where
  sz:=8
  V x cs:=cs=[.int .i64 x.f0,.int .i64 x.f1,.int .u64 x.f2,.int .u64 x.f3,.int .i64 x.f4,.int .i64 x.f5,str x.f6,str x.f7]
  len h:=by rw [h];rfl
  one h:=by rw [h];simp [Value.oneCell',str]
def k46:Kd S46 where
  sz:=5
  V x cs:=cs=[str x.f0,.int .u64 x.f1,.int .u64 x.f2,.int .i64 x.f3,.int .i64 x.f4]
  len h:=by rw [h];rfl
  one h:=by rw [h];simp [Value.oneCell',str]
def kz52 (Z:Nat->Prop) (wz:World):Kd S52 where
  sz:=3
  V x cs:=∃ (A2:Option Addr) (n2:Nat) (c2:Nat),cs=[.int .u8 x.f0,.int .u8 x.f1,.slice A2 n2 c2]/\Imm Z wz (kI .i64) A2 n2 c2 x.f2
  len h:=by obtain⟨_,_,_,h,_⟩:=h;rw [h];rfl
  one h:=by obtain⟨_,_,_,h,_⟩:=h;rw [h];simp [Value.oneCell',str]
theorem vF {Z Z':Nat->Prop} {wz wz':World} (hs:Sub Z wz Z' wz') (x:S52) (cs:List Value) (h:(kz52 Z wz).V x cs):(kz52 Z' wz').V x cs:=by obtain⟨A2,n2,c2,h,a⟩:=h;exact⟨_,_,_,h,(Imm.sub a hs)⟩
def kp98:Kd (S98×Hd) where
  sz:=3
  V p cs:=cs=[str p.1.f0,.slice p.2.1 p.2.2.1 p.2.2.2,.int .i64 p.1.f2]
  len h:=by rw [h];rfl
  one h:=by rw [h];simp [Value.oneCell',str]
def obj77 (g:Nat) (x:S77):HP:=ex λi:Option Addr×Nat×Nat=>star [blk g 77 [.slice i.1 i.2.1 i.2.2,.int .i64 x.f1,.int .i64 x.f2,.bool x.f3,.int .i64 x.f4],own2 kp98 (kI .u8) 5 (λx:S98=>x.f1) 98 i.1 i.2.1 i.2.2 x.f0]
theorem aH {r w:World} {L:List HP} {g:Nat} {x:S77} (h:SH r (obj77 g x::L) w):∃ A0_ n0_ c0_,SH r (blk g 77 [.slice A0_ n0_ c0_,.int .i64 x.f1,.int .i64 x.f2,.bool x.f3,.int .i64 x.f4]::own2 kp98 (kI .u8) 5 (λx:S98=>x.f1) 98 A0_ n0_ c0_ x.f0::L) w:=by obtain⟨i,h⟩:=h.unex;exact⟨i.1,i.2.1,i.2.2,h.unstar⟩
theorem aE {r w:World} {L:List HP} {g:Nat} {x:S77} {A0_:Option Addr} {n0_:Nat} {c0_:Nat} (h:SH r (blk g 77 [.slice A0_ n0_ c0_,.int .i64 x.f1,.int .i64 x.f2,.bool x.f3,.int .i64 x.f4]::own2 kp98 (kI .u8) 5 (λx:S98=>x.f1) 98 A0_ n0_ c0_ x.f0::L) w):SH r (obj77 g x::L) w:=SH.ex (A0_,n0_,c0_) (SH.star (Ls:=[blk g 77 [.slice A0_ n0_ c0_,.int .i64 x.f1,.int .i64 x.f2,.bool x.f3,.int .i64 x.f4],own2 kp98 (kI .u8) 5 (λx:S98=>x.f1) 98 A0_ n0_ c0_ x.f0]) h)
def obj9 (g:Nat) (x:(List UInt8)):HP:=ex λi:Unit=>star [blk g 9 [str x]]
theorem uC {r w:World} {L:List HP} {g:Nat} {x:(List UInt8)} (h:SH r (obj9 g x::L) w):SH r (blk g 9 [str x]::L) w:=by obtain⟨i,h⟩:=h.unex;exact h.unstar
theorem sG {r w:World} {L:List HP} {g:Nat} {x:(List UInt8)} (h:SH r (blk g 9 [str x]::L) w):SH r (obj9 g x::L) w:=SH.ex (()) (SH.star (Ls:=[blk g 9 [str x]]) h)
def obj140 (Z:Nat->Prop) (wz:World) (g:Nat) (x:S140):HP:=ex λi:Option Addr×Nat×Nat=>star [blk g 140 [.slice i.1 i.2.1 i.2.2],zZ (Imm Z wz (kI .u8) i.1 i.2.1 i.2.2 x.f0)]
theorem aB {r w:World} {L:List HP} {Z:Nat->Prop} {wz:World} {g:Nat} {x:S140} (h:SH r (obj140 Z wz g x::L) w):∃ A0_ n0_ c0_,SH r (blk g 140 [.slice A0_ n0_ c0_]::zZ (Imm Z wz (kI .u8) A0_ n0_ c0_ x.f0)::L) w:=by obtain⟨i,h⟩:=h.unex;exact⟨i.1,i.2.1,i.2.2,h.unstar⟩
theorem aG {r w:World} {L:List HP} {Z:Nat->Prop} {wz:World} {g:Nat} {x:S140} {A0_:Option Addr} {n0_:Nat} {c0_:Nat} (h:SH r (blk g 140 [.slice A0_ n0_ c0_]::zZ (Imm Z wz (kI .u8) A0_ n0_ c0_ x.f0)::L) w):SH r (obj140 Z wz g x::L) w:=SH.ex (A0_,n0_,c0_) (SH.star (Ls:=[blk g 140 [.slice A0_ n0_ c0_],zZ (Imm Z wz (kI .u8) A0_ n0_ c0_ x.f0)]) h)
def obj158 (g:Nat) (x:(List Int)):HP:=ex λi:Option Addr×Nat×Nat=>star [blk g 158 [.slice i.1 i.2.1 i.2.2],own (kI .i64) 2 i.1 i.2.1 i.2.2 x]
theorem aGu {r w:World} {L:List HP} {g:Nat} {x:(List Int)} (h:SH r (obj158 g x::L) w):∃ A0_ n0_ c0_,SH r (blk g 158 [.slice A0_ n0_ c0_]::own (kI .i64) 2 A0_ n0_ c0_ x::L) w:=by obtain⟨i,h⟩:=h.unex;exact⟨i.1,i.2.1,i.2.2,h.unstar⟩
theorem aGb {r w:World} {L:List HP} {g:Nat} {x:(List Int)} {A0_:Option Addr} {n0_:Nat} {c0_:Nat} (h:SH r (blk g 158 [.slice A0_ n0_ c0_]::own (kI .i64) 2 A0_ n0_ c0_ x::L) w):SH r (obj158 g x::L) w:=SH.ex (A0_,n0_,c0_) (SH.star (Ls:=[blk g 158 [.slice A0_ n0_ c0_],own (kI .i64) 2 A0_ n0_ c0_ x]) h)
def obj53 (g:Nat) (x:(List (List UInt8))):HP:=ex λi:Option Addr×Nat×Nat=>star [blk g 53 [.slice i.1 i.2.1 i.2.2],own kS 9 i.1 i.2.1 i.2.2 x]
theorem aIs {r w:World} {L:List HP} {g:Nat} {x:(List (List UInt8))} (h:SH r (obj53 g x::L) w):∃ A0_ n0_ c0_,SH r (blk g 53 [.slice A0_ n0_ c0_]::own kS 9 A0_ n0_ c0_ x::L) w:=by obtain⟨i,h⟩:=h.unex;exact⟨i.1,i.2.1,i.2.2,h.unstar⟩
theorem tF {r w:World} {L:List HP} {g:Nat} {x:(List (List UInt8))} {A0_:Option Addr} {n0_:Nat} {c0_:Nat} (h:SH r (blk g 53 [.slice A0_ n0_ c0_]::own kS 9 A0_ n0_ c0_ x::L) w):SH r (obj53 g x::L) w:=SH.ex (A0_,n0_,c0_) (SH.star (Ls:=[blk g 53 [.slice A0_ n0_ c0_],own kS 9 A0_ n0_ c0_ x]) h)
def obj128 (Z:Nat->Prop) (wz:World) (g:Nat) (x:S128):HP:=ex λi:Option Addr×Nat×Nat×Option Addr×Nat×Nat=>star [blk g 128 [.slice i.1 i.2.1 i.2.2.1,.int .i64 x.f1,.slice i.2.2.2.1 i.2.2.2.2.1 i.2.2.2.2.2],own k90 90 i.2.2.2.1 i.2.2.2.2.1 i.2.2.2.2.2 x.f2,zZ (Imm Z wz (kI .u8) i.1 i.2.1 i.2.2.1 x.f0)]
theorem wV {r w:World} {L:List HP} {Z:Nat->Prop} {wz:World} {g:Nat} {x:S128} (h:SH r (obj128 Z wz g x::L) w):∃ A0_ n0_ c0_ A2_ n2_ c2_,SH r (blk g 128 [.slice A0_ n0_ c0_,.int .i64 x.f1,.slice A2_ n2_ c2_]::own k90 90 A2_ n2_ c2_ x.f2::zZ (Imm Z wz (kI .u8) A0_ n0_ c0_ x.f0)::L) w:=by obtain⟨i,h⟩:=h.unex;exact⟨i.1,i.2.1,i.2.2.1,i.2.2.2.1,i.2.2.2.2.1,i.2.2.2.2.2,h.unstar⟩
theorem cV {r w:World} {L:List HP} {Z:Nat->Prop} {wz:World} {g:Nat} {x:S128} {A0_:Option Addr} {n0_:Nat} {c0_:Nat} {A2_:Option Addr} {n2_:Nat} {c2_:Nat} (h:SH r (blk g 128 [.slice A0_ n0_ c0_,.int .i64 x.f1,.slice A2_ n2_ c2_]::own k90 90 A2_ n2_ c2_ x.f2::zZ (Imm Z wz (kI .u8) A0_ n0_ c0_ x.f0)::L) w):SH r (obj128 Z wz g x::L) w:=SH.ex (A0_,n0_,c0_,A2_,n2_,c2_) (SH.star (Ls:=[blk g 128 [.slice A0_ n0_ c0_,.int .i64 x.f1,.slice A2_ n2_ c2_],own k90 90 A2_ n2_ c2_ x.f2,zZ (Imm Z wz (kI .u8) A0_ n0_ c0_ x.f0)]) h)
def obj79 (l:Nat) (g:Nat) (x:S79):HP:=ex λi:Option Addr×Nat×Nat=>star [blk g 79 [.pointer (some ⟨l,0,none⟩),.int .i64 x.f1,.slice i.1 i.2.1 i.2.2],own k46 46 i.1 i.2.1 i.2.2 x.f2]
theorem aV {r w:World} {L:List HP} {l:Nat} {g:Nat} {x:S79} (h:SH r (obj79 l g x::L) w):∃ A2_ n2_ c2_,SH r (blk g 79 [.pointer (some ⟨l,0,none⟩),.int .i64 x.f1,.slice A2_ n2_ c2_]::own k46 46 A2_ n2_ c2_ x.f2::L) w:=by obtain⟨i,h⟩:=h.unex;exact⟨i.1,i.2.1,i.2.2,h.unstar⟩
theorem aP {r w:World} {L:List HP} {l:Nat} {g:Nat} {x:S79} {A2_:Option Addr} {n2_:Nat} {c2_:Nat} (h:SH r (blk g 79 [.pointer (some ⟨l,0,none⟩),.int .i64 x.f1,.slice A2_ n2_ c2_]::own k46 46 A2_ n2_ c2_ x.f2::L) w):SH r (obj79 l g x::L) w:=SH.ex (A2_,n2_,c2_) (SH.star (Ls:=[blk g 79 [.pointer (some ⟨l,0,none⟩),.int .i64 x.f1,.slice A2_ n2_ c2_],own k46 46 A2_ n2_ c2_ x.f2]) h)
end Go.Proofs.YtdkpjpoajlmmfaaGreatDoor.M
