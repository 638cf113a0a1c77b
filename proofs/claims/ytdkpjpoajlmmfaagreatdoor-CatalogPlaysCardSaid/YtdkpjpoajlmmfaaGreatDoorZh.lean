/- Texts of the claim, joined: what it uses of Vf, Dfu, Mfu, Dfa, Mfa, Ha, Dfb, Mfb, Dfd, Mfd, Dfe. -/
import Derived.Test.YtdkpjpoajlmmfaaGreatDoorZg
import Derived.Shelf.Strconv.Itoa3
namespace Go.Proofs
open Go.Shelf
def Tryz.fuA_ren:Go.Shelf.Ren:=⟨fun | 283=>118 | n=>n,fun | 3=>3 | 9=>9 | 4=>4 | n=>n,fun | n=>n⟩
theorem Tryz.fuA:Go.Proofs.Lays.n283 Tryz.prog Tryz.fuA_ren:={
  mixed:=by kernel_rfl
  f283:=Tryz.func118.trans (congrArg some (by kernel_rfl))
  t3:=Tryz.underlying3
  a3:=Tryz.isAgg3
  z3:=Tryz.sizeOf3
  v3:=Tryz.zeroValue3
  t4:=Tryz.underlying4
  a4:=Tryz.isAgg4
  z4:=Tryz.sizeOf4
  v4:=Tryz.zeroValue4
  t9:=Tryz.underlying9
  a9:=Tryz.isAgg9
  z9:=Tryz.sizeOf9
  v9:=Tryz.zeroValue9 }
def Tryz.fuB_ren:Go.Shelf.Ren:=⟨fun | 284=>119 | 129=>134 | 317=>133 | 318=>135 | n=>n,fun | 53=>24 | 3=>3 | 212=>200 | 0=>0 | 4=>4 | 46=>125 | 5=>5 | 9=>9 | n=>n,fun | 17=>2 | n=>n⟩
theorem Tryz.fuB:Go.Proofs.LaysM.n284 Tryz.prog Tryz.fuB_ren:={
  mixed:=by kernel_rfl
  f129:=Tryz.func134.trans (congrArg some (by kernel_rfl))
  f284:=Tryz.func119.trans (congrArg some (by kernel_rfl))
  f317:=Tryz.func133.trans (congrArg some (by kernel_rfl))
  f318:=Tryz.func135.trans (congrArg some (by kernel_rfl))
  t0:=Tryz.underlying0
  a0:=Tryz.isAgg0
  z0:=Tryz.sizeOf0
  v0:=Tryz.zeroValue0
  t3:=Tryz.underlying3
  a3:=Tryz.isAgg3
  z3:=Tryz.sizeOf3
  v3:=Tryz.zeroValue3
  t4:=Tryz.underlying4
  a4:=Tryz.isAgg4
  z4:=Tryz.sizeOf4
  v4:=Tryz.zeroValue4
  t5:=Tryz.underlying5
  a5:=Tryz.isAgg5
  z5:=Tryz.sizeOf5
  v5:=Tryz.zeroValue5
  t9:=Tryz.underlying9
  a9:=Tryz.isAgg9
  z9:=Tryz.sizeOf9
  v9:=Tryz.zeroValue9
  t46:=Tryz.underlying125
  a46:=Tryz.isAgg125
  z46:=Tryz.sizeOf125
  v46:=Tryz.zeroValue125
  t53:=Tryz.underlying24
  a53:=Tryz.isAgg24
  z53:=Tryz.sizeOf24
  v53:=Tryz.zeroValue24
  t212:=Tryz.underlying200
  a212:=Tryz.isAgg200
  z212:=Tryz.sizeOf200
  v212:=Tryz.zeroValue200
  g17:=by kernel_rfl
  i0:=by kernel_rfl
  i3:=by kernel_rfl
  i4:=by kernel_rfl
  i5:=by kernel_rfl
  i9:=by kernel_rfl
  i46:=by kernel_rfl
  i53:=by kernel_rfl
  i212:=by kernel_rfl
  m17:=by kernel_rfl }
def Tryz.fuC_ren:Go.Shelf.Ren:=⟨fun | 285=>120 | n=>n,fun | 37=>23 | 53=>24 | 3=>3 | 4=>4 | 51=>67 | 9=>9 | 5=>5 | 0=>0 | n=>n,fun | n=>n⟩
theorem Tryz.fuC:Go.Proofs.Lays.n285 Tryz.prog Tryz.fuC_ren:={
  mixed:=by kernel_rfl
  f285:=Tryz.func120.trans (congrArg some (by kernel_rfl))
  t0:=Tryz.underlying0
  a0:=Tryz.isAgg0
  z0:=Tryz.sizeOf0
  v0:=Tryz.zeroValue0
  t3:=Tryz.underlying3
  a3:=Tryz.isAgg3
  z3:=Tryz.sizeOf3
  v3:=Tryz.zeroValue3
  t4:=Tryz.underlying4
  a4:=Tryz.isAgg4
  z4:=Tryz.sizeOf4
  v4:=Tryz.zeroValue4
  t5:=Tryz.underlying5
  a5:=Tryz.isAgg5
  z5:=Tryz.sizeOf5
  v5:=Tryz.zeroValue5
  t9:=Tryz.underlying9
  a9:=Tryz.isAgg9
  z9:=Tryz.sizeOf9
  v9:=Tryz.zeroValue9
  t37:=Tryz.underlying23
  a37:=Tryz.isAgg23
  z37:=Tryz.sizeOf23
  v37:=Tryz.zeroValue23
  t51:=Tryz.underlying67
  a51:=Tryz.isAgg67
  z51:=Tryz.sizeOf67
  v51:=Tryz.zeroValue67
  t53:=Tryz.underlying24
  a53:=Tryz.isAgg24
  z53:=Tryz.sizeOf24
  v53:=Tryz.zeroValue24 }
namespace YtdkpjpoajlmmfaaGreatDoor.M
open Go Go.RowKit Go.Proofs.YtdkpjpoajlmmfaaGreatDoor.E Go.Shelf
open Go.Lib (zeros24 zeros24_at)
open Go.Sort (Holds grow putRow alloc_eq_grow putRow_grow_new cell?_putRow)
set_option linter.unusedVariables false
set_option linter.unusedSimpArgs false
theorem hz0 (w:World) (T:TypeId) (nd:Nat) (hs:nd<=24):Holds (λ(b:UInt8)=>Value.int .u8 (b.toNat:Int)) (w.alloc (.cells zeros24 T)) w.heap.size 0 (Array.replicate nd (0:UInt8)):=λj a=>by
  have c:j<nd:=by simpa using a
  refine⟨?_,World.frozen?_alloc_new _ _ _ _⟩;rw [World.cell?_alloc_new,zeros24_at _ (by omega),getElem!_pos _ j a];simp
theorem bFy (w:World) (o:Obj) (dk:Array UInt8) (k:Nat):∃ os,(putRow (λ(b:UInt8)=>Value.int .u8 (b.toNat:Int)) (w.alloc o) w.heap.size 0 dk).drewN k=grow (w.drewN k) os:=by rw [alloc_eq_grow];obtain⟨a,_,e⟩:=putRow_grow_new (λ(b:UInt8)=>Value.int .u8 (b.toNat:Int)) w #[o] w.heap.size 0 dk (Nat.le_refl _);exact⟨a,by rw [e];rfl⟩
theorem slA {P:Program} {o:Oper} {a:Act} {w:World} {T:TypeId} {x hi:Operand} {p q v:Value} (h:∀ W,(Instr.sliceAt T p none (some q) none).run P W=.ok v W) (b:o.op=.slice T x none (some hi) none) (hx:a.eval x=p) (c:a.eval hi=q):RunV P o a w v:=by unfold RunV execOp;rw [b];simp only [hx,c,Option.map_some,Option.map_none,Sem.run_bind,h];rfl
theorem cvA {P:Program} {o:Oper} {a:Act} {w:World} {T U:TypeId} {x:Operand} {p v:Value} (h:(convert T U p).run P w=.ok v w) (b:o.op=.convert T U x) (hx:a.eval x=p):RunV P o a w v:=by unfold RunV execOp;rw [b];simp only [hx,Sem.run_bind,h];rfl
section
variable {P:Program} {ops:Array Oper} {Q:Exit->Act->World->Prop} {o:Oper} {rest:List Oper} {a:Act} {w:World} {n t:Nat} {D:List Deferred} {F:List (Nat×Value)}
theorem aVi {T:TypeId} {cs:Array Value} {z:Value} (hz:(P.info? T).bind (·.zero)=some z) (hA:FR n D a F) (kk:∀ a',FR n D a' ((t,.pointer (some ⟨w.heap.size,0,none⟩))::F)->wpList P ops Q rest a' (w.alloc (.cells cs T)))
    (b:o.op=.alloc T) (c:z.cells=cs) (hd:o.dst=some t) (hg:o.guard=none) (ht:Nat.blt t n=true):wpList P ops Q (o::rest) a w :=
  mG hg λK hK=>by
    obtain⟨i,d,e⟩:=Option.bind_eq_some_iff.1 hz;have h:(execOp a.eval o).run P w=.ok (.value (.pointer (some ⟨w.heap.size,0,none⟩))) (w.alloc (.cells cs T)):=by unfold execOp;rw [b];simp [Instr.alloc,newVar,newRow,zeroValue,typeInfo,d,e,c]
    unfold Oper.wp;rw [h];exact hK _ _ (kk _ (by rw [hd];exact hA.put t _ (by have:=Nat.le_of_ble_eq_true ht;omega)))
end
set_option maxHeartbeats 4000000 in
set_option maxRecDepth 100000 in
theorem bFz (n : Int) (h0 : 0 ≤ n) (X : n < 18446744073709551616) (w : World) (E : Lib.TabIs Tryz.prog w "internal/strconv.uint64pow10" .u64 Lib.pow10Tab) :
    Ret Tryz.prog 100 #[bGk n,bGj 10] w λv w'=>v=str (Lib.itoa n)/\∃ k os,w'=grow (w.drewN k) os:=by
  obtain⟨u,rfl⟩:∃ u:Nat,n=u:=⟨n.toNat,by omega⟩;refine enter Tryz.func100 rfl Tryz.ntmps100 [(0,bGk (u:Int)),(1,bGj 10)] rfl (by simp) ?_;intro ac hA Qf l Y;refine wp_seq_k λH r=>?_;refine aC ?_;refine eX hA (λac hA=>?_) rfl rfl rfl rfl rfl;refine wpList_nil ?_;refine r _ _ ?_;refine wp_seq_k λI J=>?_;refine wp_seq_k λK s=>?_;refine aC ?_;refine eE hA (λac hA=>?_) rfl rfl rfl rfl rfl;refine eK hA (aAa rfl (hA.ev rfl) (hA.ev rfl)) (λac hA=>?_) rfl rfl rfl;refine wpList_nil ?_;refine s _ _ ?_;refine aLe hA rfl (λi=>?_) λi=>?_
  rotate_left
  · cases i
  refine wp_seq_k λL t=>?_;refine wp_seq_k λM x=>?_;refine aC ?_;refine eE hA (λac hA=>?_) rfl rfl rfl rfl rfl;refine eK hA (aEa rfl (hA.ev rfl) (hA.ev rfl)) (λac hA=>?_) rfl rfl rfl;refine wpList_nil ?_;refine x _ _ ?_;refine aLe hA rfl (λhs=>?_) λhs=>?_
  · have hs:u<100:=by have:=of_decide_eq_true hs;omega
    refine wp_seq_k λN y=>?_;refine aC ?_;refine eE hA (λac hA=>?_) rfl rfl rfl rfl rfl;refine eK (v:=bGj (u:Int)) hA (cM (by rw [IntKind.wrap_i64];omega) (aQ Tryz.underlying24 Tryz.underlying3 rfl (hA.ev rfl))) (λac hA=>?_) rfl rfl rfl;refine aJg (R:=λv w'=>v=str (Lib.itoa u)/\w'=w) (aZ Tryz.func118 (by kernel_rfl) rfl) hA (Calls.mono (Any.internal_strconv_small Tryz.fuA u hs w) (by rintro e w' ⟨rfl,rfl⟩;exact⟨_,rfl,by rw [Lib.itoa_nonneg];rfl,rfl⟩)) (λv ac w' a hA=>?_) rfl rfl rfl rfl rfl;obtain⟨rfl,rfl⟩:=a;refine eX hA (λac hA=>?_) rfl rfl rfl rfl rfl;refine wpList_nil ?_;refine y _ _ ?_;refine wp_ret ?_;refine l _ _ ?_;refine lv Tryz.results100 hA rfl ?_;exact⟨rfl,0,#[],by simp [World.drewN_zero]⟩
  have hs:¬u<100:=by have:=of_decide_eq_false hs;omega
  have m:1<=u:=by omega
  have f:u<18446744073709551616:=by omega
  have O:Lib.nDigits u<=20:=by have:=Lib.numDigits_eq u m f;split at this <;> omega
  have o:Program.arrayLen Tryz.prog 182=24:=by simp [Program.arrayLen,Tryz.underlying182]
  have p:∀ W,(Instr.sliceAt 182 (.pointer (some ⟨w.heap.size,0,none⟩)) none (some (bGj (Lib.nDigits u:Int))) none).run Tryz.prog W=.ok (.slice (some ⟨w.heap.size,0,none⟩) (Lib.nDigits u) 24) W:=λW=>by
    rw [run_sliceAt_array_h W 182 ⟨w.heap.size,0,none⟩ (by simp [Program.arrayLen,Program.elem,Tryz.underlying182]) .i64 (Lib.nDigits u:Int) (by omega) (by rw [o];omega)];have he:Program.elem Tryz.prog 182=5:=by simp [Program.elem,Tryz.underlying182]
    rw [he,Tryz.sizeOf5,o];simp [Result.andThen,slicedAt,Addr.add]
  have q:=Any.internal_strconv_formatBase10 Tryz.fuC w.heap.size 0 24 u (Array.replicate (Lib.nDigits u) 0) (w.alloc (.cells Lib.zeros24 182)) (hz0 w 182 (Lib.nDigits u) (by omega)) (by rw [Array.size_replicate];exact Lib.lt_pow_nDigits u) f (by rw [Array.size_replicate];omega);rw [Array.size_replicate] at q;have F:=hz0 w 182 (Lib.nDigits u) (by omega);refine wp_skip ?_;refine t _ _ ?_;refine wp_seq_k λQ A=>?_;refine aC ?_;refine aVi (cs:=Lib.zeros24) (z:=.agg Lib.zeros24) (by kernel_rfl) hA (λac hA=>?_) rfl rfl rfl rfl rfl;refine wpList_nil ?_;refine A _ _ ?_;refine wp_seq_k λS B=>?_;refine aC ?_;refine eE hA (λac hA=>?_) rfl rfl rfl rfl rfl;refine aJg (R:=λv w'=>v=bGj (Lib.nDigits u:Int)/\w'=w.alloc (.cells Lib.zeros24 182)) (aZ Tryz.func119 (by kernel_rfl) rfl) hA (Calls.mono (Any.internal_strconv_numDigits Tryz.fuB u m f _ (Lib.tabIs_alloc E _)) (by rintro e w' ⟨rfl,rfl⟩;exact⟨_,rfl,rfl,rfl⟩)) (λv ac w' a hA=>?_) rfl rfl rfl rfl rfl;obtain⟨rfl,rfl⟩:=a;refine eX hA (λac hA=>?_) rfl rfl rfl rfl rfl;refine wpList_nil ?_;refine B _ _ ?_;refine wp_seq_k λT C=>?_;refine aC ?_;refine eE hA (λac hA=>?_) rfl rfl rfl rfl rfl;refine eK hA (slA (λW=>p W) rfl (hA.ev rfl) (hA.ev rfl)) (λac hA=>?_) rfl rfl rfl;refine eE hA (λac hA=>?_) rfl rfl rfl rfl rfl;refine aJg (R:=λv w'=>v=.tuple #[]/\∃ k d dk,w'=(putRow (λ(b:UInt8)=>Value.int .u8 (b.toNat:Int)) (w.alloc (.cells Lib.zeros24 182)) w.heap.size 0 dk).drewN k/\Lib.FmtInv (Lib.nDigits u) u 0 d dk) (aZ Tryz.func120 (by kernel_rfl) rfl) hA (Calls.mono q (by rintro e w' ⟨rfl,k,d,dk,rfl,c⟩;exact⟨_,rfl,rfl,k,d,dk,rfl,c⟩)) (λv ac w' a hA=>?_) rfl rfl rfl rfl rfl;obtain⟨rfl,k,d,dk,rfl,c⟩:=a;refine wpList_nil ?_;refine C _ _ ?_;refine wp_seq_k λU D=>?_;refine aC ?_;refine eE hA (λac hA=>?_) rfl rfl rfl rfl rfl;refine eK hA (slA (λW=>p W) rfl (hA.ev rfl) (hA.ev rfl)) (λac hA=>?_) rfl rfl rfl;have G:(convert 23 9 (.slice (some ⟨w.heap.size,0,none⟩) (Lib.nDigits u) 24)).run Tryz.prog ((putRow (λ(b:UInt8)=>Value.int .u8 (b.toNat:Int)) (w.alloc (.cells Lib.zeros24 182)) w.heap.size 0 dk).drewN k)=.ok (.string ⟨(Lib.decDigits u).toArray⟩) ((putRow (λ(b:UInt8)=>Value.int .u8 (b.toNat:Int)) (w.alloc (.cells Lib.zeros24 182)) w.heap.size 0 dk).drewN k):=by
    have h:=run_convert_bytes_back (P:=Tryz.prog) ((putRow (λ(b:UInt8)=>Value.int .u8 (b.toNat:Int)) (w.alloc (.cells Lib.zeros24 182)) w.heap.size 0 dk).drewN k) 23 9 5 ⟨w.heap.size,0,none⟩ 24 (Lib.decDigits u) Tryz.underlying23 Tryz.underlying5 Tryz.underlying9 (λj g=>by
      rw [Lib.row_is_numeral c j g,Lib.add_plain,World.cell?_drewN];exact cell?_putRow (λ(b:UInt8)=>Value.int .u8 (b.toNat:Int)) _ w.heap.size 0 _ dk F (by simp [c.size]) j (by rw [c.size];rw [Lib.decDigits_length] at g;exact g))
    rw [Lib.decDigits_length] at h;exact h
  refine eK (v:=str (Lib.decDigits u)) hA (cvA G rfl (hA.ev rfl)) (λac hA=>?_) rfl rfl rfl;refine eX hA (λac hA=>?_) rfl rfl rfl rfl rfl;refine wpList_nil ?_;refine D _ _ ?_;refine wp_ret ?_;refine l _ _ ?_;refine lv Tryz.results100 hA rfl ?_;obtain⟨os,eo⟩:=bFy w (.cells Lib.zeros24 182) dk k;exact⟨by rw [Lib.itoa_nonneg],k,os,eo⟩
end YtdkpjpoajlmmfaaGreatDoor.M
end Go.Proofs
namespace Go.Proofs.YtdkpjpoajlmmfaaGreatDoor.M
open Go Go.RowKit Go.Proofs.YtdkpjpoajlmmfaaGreatDoor.E
set_option linter.unusedVariables false
noncomputable section
set_option linter.unusedSimpArgs false
def sS (a0 a:Int):Option (List UInt8):=chk (0<=a0/\a0<18446744073709551616/\a=10) (some (Lib.itoa a0))
def jX (a0 b:Int):Option (List UInt8):=(sS a0 b).bind λa=>(some a)
end
set_option maxRecDepth 100000
set_option maxHeartbeats 4000000
set_option linter.unusedSimpArgs false
section
variable {r:World} {L:List HP} {w:World} {Z:Nat->Prop} {wz:World}
theorem aB3 {a0 a1 y} (G:sS a0 a1=some y) (X:SH r (L) w) (qz:Nat) (a:L[qz]?=some (zone Z wz)) (b:Gb Z wz 2 .u64 bL) :
  Ret Tryz.prog 100 #[bGk a0,bGj a1] w λv w'=>v=str y/\SH r (L) w':=by
 have q:=aD G;clear G;obtain⟨⟨h0,c,rfl⟩,G⟩:=q;cases G;refine Calls.mono (bFz a0 h0 c w (Gb.tab ((show bL=Lib.pow10Tab from by decide)▸b) X qz a (by kernel_rfl))) ?_;rintro e w' ⟨v,rfl,rfl,k,os,rfl⟩;exact⟨_,rfl,rfl,(X.drewN k).grow os⟩
theorem wP {a0 a1 y} (G:jX a0 a1=some y) (X:SH r (L) w) (qz:Nat) (c:L[qz]?=some (zone Z wz)) (d:Gb Z wz 2 .u64 bL) :
  Ret Tryz.prog 75 #[bGk a0,bGj a1] w λv w'=>v=str y/\SH r (L) w':=by
 refine enter Tryz.func75 rfl Tryz.ntmps75 [(0,_),(1,_)] rfl (by simp) ?_;intro U J Qf e i;unfold jX at G;refine nz 1 J rfl λU J=>ws λg a=>xk 2 J rfl λU J=>?_;obtain⟨h,b,G⟩:=bnd G;refine x_c bBk J rfl (aB3 b X (qz+0) c d :) λv U w f J=>?_;obtain⟨rfl,X⟩:=f;refine x_m J rfl λU J=>wn (a _ _ ?_);cases G;exact wp_ret (e _ _ (lv Tryz.results75 J rfl ⟨rfl,X⟩))
end
noncomputable section
set_option linter.unusedSimpArgs false
def eV (a0:(List (S98×Hd))) (c:Nat) (a:Int) (a2:(List (S98×Hd))):Option ((List (S98×Hd))):=(kD a0 a (a0.length:Int)).bind λe=>(if (a2.length:Int)==0 then (some a0) else (if a==(a0.length:Int) then (chk (a0.length+a2.length<=140737488355328 / 48) (some (a0++a2))) else (ltt (IntKind.i64.wrap ((a0.length:Int)+(a2.length:Int))) λb=>(if decide (((c:Nat):Int)<b) then ((kD a0 0 a).bind λl=>(ltt (IntKind.i64.wrap (b - a)) λi=>(chk (0<i/\c<a.toNat+i.toNat/\(a.toNat+i.toNat) * 48<=140737488355328) (ltt (l++List.replicate i.toNat (((⟨[],[],0⟩:S98),none,0,0):S98×Hd)) λf=>(chk (0<=a/\a<(f.length:Int)) (chk (0<(a2.take (min a2.length (f.length - a.toNat))).length/\(0+a.toNat)+(a2.take (min a2.length (f.length - a.toNat))).length<=f.length) (ltt (f.take (0+a.toNat)++a2.take (min a2.length (f.length - a.toNat))++f.drop ((0+a.toNat)+(a2.take (min a2.length (f.length - a.toNat))).length)) λg=>(ltt (IntKind.i64.wrap (a+(a2.length:Int))) λd=>(chk (0<=d/\d<(g.length:Int)) (chk (0<(e.take (min e.length (g.length - d.toNat))).length/\(0+d.toNat)+(e.take (min e.length (g.length - d.toNat))).length<=g.length) (ltt (g.take (0+d.toNat)++e.take (min e.length (g.length - d.toNat))++g.drop ((0+d.toNat)+(e.take (min e.length (g.length - d.toNat))).length)) λm=>(some m)))))))))))) else (chk (0<c) (chk (0<=b/\b<=(c:Int)) (ltt (IntKind.i64.wrap (a+(a2.length:Int))) λh=>(chk (0<=h/\h<((b.toNat:Nat):Int)/\b.toNat<=c) (chk (0<a2.length/\0<c) (chk (0<=h/\h<((b.toNat:Nat):Int)/\b.toNat<=c) (chk (0<=a/\a<((b.toNat:Nat):Int)/\b.toNat<=c) ((rdo (a0.map some++List.replicate (c - a0.length) none) (0+a.toNat) (min (b.toNat - a.toNat) (b.toNat - h.toNat))).bind λj=>(chk (0<j.length/\(0+h.toNat)+j.length<=c) (ltt ((a0.map some++List.replicate (c - a0.length) none).take (0+h.toNat)++j.map some++(a0.map some++List.replicate (c - a0.length) none).drop ((0+h.toNat)+j.length)) λk=>(chk (0<=a/\a<((b.toNat:Nat):Int)/\b.toNat<=c) (chk (0<(a2.take (min a2.length (b.toNat - a.toNat))).length/\(0+a.toNat)+(a2.take (min a2.length (b.toNat - a.toNat))).length<=c) (ltt (k.take (0+a.toNat)++(a2.take (min a2.length (b.toNat - a.toNat))).map some++k.drop ((0+a.toNat)+(a2.take (min a2.length (b.toNat - a.toNat))).length)) λn=>((rdo n 0 b.toNat).bind λo=>(some o)))))))))))))))))))
def eU (a0:(List (S98×Hd))) (b:Nat) (a a2:Int):Option ((List (S98×Hd))):=chk (0<=a/\a<=a2/\a2<=(a0.length:Int)/\(a0.length:Int)<=(a0.length:Int)) (if a==a2 then (some a0) else (chk (0<b) (chk (0<=a/\a<=(b:Int)) (chk (0<=a2/\a2<=((a0.length:Nat):Int)/\a0.length<=b) ((rdo (a0.map some++List.replicate (b - a0.length) none) (0+a2.toNat) (a0.length - a2.toNat)).bind λd=>(chk (a.toNat+(a0.length - a2.toNat)<=b) (ltt ((a0.map some++List.replicate (b - a0.length) none).take a.toNat++d.map some++(a0.map some++List.replicate (b - a0.length) none).drop (a.toNat+(a0.length - a2.toNat))) λc=>(chk (0<=(((a.toNat+(a0.length - a2.toNat)):Nat):Int)/\(((a.toNat+(a0.length - a2.toNat)):Nat):Int)<(a0.length:Int)/\(a0.length:Int)<=((b:Nat):Int)) (chk (0<((a0.length:Int).toNat - (((a.toNat+(a0.length - a2.toNat)):Nat):Int).toNat)/\(0+(((a.toNat+(a0.length - a2.toNat)):Nat):Int).toNat)+((a0.length:Int).toNat - (((a.toNat+(a0.length - a2.toNat)):Nat):Int).toNat)<=b) (ltt (c.take (0+(((a.toNat+(a0.length - a2.toNat)):Nat):Int).toNat)++(List.replicate ((a0.length:Int).toNat - (((a.toNat+(a0.length - a2.toNat)):Nat):Int).toNat) (((⟨[],[],0⟩:S98),none,0,0):S98×Hd)).map some++c.drop ((0+(((a.toNat+(a0.length - a2.toNat)):Nat):Int).toNat)+((a0.length:Int).toNat - (((a.toNat+(a0.length - a2.toNat)):Nat):Int).toNat))) λe=>((rdo e 0 (a.toNat+(a0.length - a2.toNat))).bind λf=>(some f))))))))))))
end
section
variable {r:World} {L:List HP} {w:World} {Z:Nat->Prop} {wz:World}
theorem rT {a0 a a1 a2 h u A2 n2 c2 y} (G:eV a0 a a1 a2=some y) (X:SH r (own kp98 98 h u a a0::own kp98 98 A2 n2 c2 a2::L) w) :
  Ret Tryz.prog 91 #[.slice h u a,bGj a1,.slice A2 n2 c2] w λv w'=>∃ (x:Option Addr) (z:Nat) (A:Nat),v=.slice x z A/\SH r (own kp98 98 x z A y::L) w':=by
 refine enter Tryz.func91 rfl Tryz.ntmps91 [(0,_),(1,_),(2,_)] rfl (by simp) ?_;intro U J Qf m g1;unfold eV at G;obtain rfl:=(X.rd 0 rfl).2.1;obtain rfl:=(X.rd 1 rfl).2.1;refine nz 1 J rfl λU J=>ws λd5 B=>xk 2 J rfl λU J=>?_;obtain⟨p,f,G⟩:=bnd G;refine x_v J (kX iK oD rfl (J.ev rfl) (J.ev rfl) (mP (X.rd 0 rfl) f).1 (mP (X.rd 0 rfl) f).2.2.2.2.2) rfl λU J=>wn (B _ _ ?_);refine ws λd6 C=>xk 1 J rfl λU J=>aX iK (X.rd 1 rfl).2.1 J rfl λU J=>x_m J rfl λU J=>wn (C _ _ ?_);refine wp_seq_k λd7 D=>nz 2 J rfl λU J=>aY J G rfl (λE G=>?_) λE G=>?_
 ·refine nz 2 J rfl λU J=>?_;replace X:=X.drop 1;cases G;exact wp_ret (m _ _ (lv Tryz.results91 J rfl ⟨h,a0.length,a,rfl,X⟩))
 refine wp_skip (D _ _ ?_);refine ws λd8 F=>xk 1 J rfl λU J=>aX iK (X.rd 0 rfl).2.1 J rfl λU J=>x_m J rfl λU J=>wn (F _ _ ?_);refine wp_seq_k λd9 H=>nz 3 J rfl λU J=>aY J G rfl (λI G=>?_) λI G=>?_
 ·refine ws λe0 M=>xk 2 J rfl λU J=>?_;obtain⟨N,G⟩:=aD G;have hr:=X.rd 1 rfl;refine jC 0 aYi iK J X hr.1 hr.2.1 N rfl rfl λO P Q U w X J=>x_m J rfl λU J=>wn (M _ _ ?_);replace X:=X.drop 1;cases G;exact wp_ret (m _ _ (lv Tryz.results91 J rfl ⟨O,P,Q,rfl,X⟩))
 refine wp_skip (H _ _ ?_);refine wp_seq_k λe1 R=>ws λe2 S=>xk 2 J rfl λU J=>x_l G J rfl λc q U J G=>x_m J rfl λU J=>x_v J (aUv iK rfl (J.ev rfl)) rfl λU J=>nk 1 J rfl λU J=>S _ _ (aY J G rfl (λT G=>?_) λT G=>?_)
 ·refine ws λe3 W=>xk 2 J rfl λU J=>?_;obtain⟨e4,i,G⟩:=bnd G;refine x_v J (lV iK oD rfl (J.ev rfl) (J.ev rfl) (mP (X.rd 0 rfl) i).2.2.2.2.1 (mP (X.rd 0 rfl) i).2.2.1) rfl λU J=>xk 2 J rfl λU J=>x_v (v:=bGj c) J (cM q (bGp kW J rfl)) rfl λU J=>x_m J rfl λU J=>x_l G J rfl λj _ U J G=>?_;obtain⟨Y,G⟩:=aD G;refine bAr (((⟨[],[],0⟩:S98),none,0,0):S98×Hd) iK uu3 aYi rfl J X (bAg (X.rd 0 rfl) i).1 (bAg (X.rd 0 rfl) i).2.1 Y rfl λk l U w X J=>?_;obtain⟨Z,a3,G⟩:=gX G;rw [← a3] at X;refine x_m J rfl λU J=>wn (W _ _ ?_);refine ws λe5 a4=>xk 2 J rfl λU J=>?_;obtain⟨a5,G⟩:=aD G;have n:=X.rd 0 rfl;refine x_v (v:=.slice (some ⟨k,(0+a1.toNat) * 3,none⟩) ((a1.toNat+j.toNat) - a1.toNat) (l - a1.toNat)) J (aDu (lo:=0) iK oD rfl (J.ev rfl) (J.ev rfl) ⟨a5.1,by have:=n.2.1;omega,n.2.2.1⟩) rfl λU J=>x_m J rfl λU J=>?_;obtain⟨a6,G⟩:=aD G;refine bAu (lo:=(0+a1.toNat)) (zs:=a2.take (min a2.length (Z.length - a1.toNat))) 0 iK oD J X (Rd.take_ (X.rd 2 rfl).1 _) (cpk (X.rd 2 rfl).2.1 (by have:=n.2.1;omega)) a6 rfl rfl λe6 U w X J=>?_;obtain⟨a7,a8,G⟩:=gX G;rw [← a8] at X;refine wn (a4 _ _ ?_);refine wp_seq_k λe7 a9=>wD [0,0,0,6,15,0,0,96,255] [8] rfl J X (by kernel_rfl) λw X=>?_;obtain⟨g,b1,G⟩:=gX G;obtain⟨b2,G⟩:=aD G;have o:=X.rd 0 rfl;refine⟨[(0,.slice (some ⟨k,0,none⟩) (a1.toNat+j.toNat) l),(1,bGj a1),(2,bGj (a2.length:Int)),(3,bGj g),(4,.slice (some ⟨k,(0+g.toNat) * 3,none⟩) ((a1.toNat+j.toNat) - g.toNat) (l - g.toNat)),(5,.slice h a0.length a),(6,bGj a1),(7,.slice (if a=a1.toNat then h else h.map (·.add (a1.toNat * 3))) (a0.length - a1.toNat) (a - a1.toNat))],?_⟩
  refine dF [0,1,2,3,4,5,6,7] [8] (by kernel_rfl) ⟨pm rfl,pm rfl,pm rfl,pt [(47,_),(48,_)] rfl λU J=>cM b1 (bGp kW J rfl),pt [(46,_),(49,_)] rfl λU J=>aDu (lo:=0) iK oD rfl (J.ev rfl) (J.ev rfl) ⟨b2.1,by have:=o.2.1;omega,o.2.2.1⟩,pm rfl,pm rfl,pt [(51,_),(52,_)] rfl (λU J=>kX iK oD rfl (J.ev rfl) (J.ev rfl) (mP (X.rd 1 rfl) f).1 (mP (X.rd 1 rfl) f).2.2.2.2.2),trivial⟩ ⟨et [(50,_),(53,_)] rfl (λU J K hK=>?_),trivial⟩;obtain⟨b3,G⟩:=aD G;refine bA1 (lo:=(0+g.toNat)) (zs:=p.take (min p.length (a7.length - g.toNat))) 0 iK oD J X (Rd.take_ (bAh (X.rd 1 rfl) f).1 _) (cpk (bAh (X.rd 1 rfl) f).2.1 (by have:=o.2.1;omega)) b3 rfl rfl λe8 w X=>?_;obtain⟨e9,b4,G⟩:=gX G;rw [← b4] at X;refine hK _ [] _ rfl (rF [] (by kernel_rfl) trivial ⟨by kernel_rfl,by kernel_rfl⟩ [(9,_)] rfl (λU J=>?_));refine a9 _ _ (nz 2 J rfl λU J=>?_);replace X:=X.drop 1 |>.drop 1;cases G;exact wp_ret (m _ _ (lv Tryz.results91 J rfl ⟨some ⟨k,0,none⟩,a1.toNat+j.toNat,l,rfl,X⟩))
 refine wp_skip (R _ _ ?_);refine wp_seq_k λf0 b5=>?_;obtain⟨b6,G⟩:=aD G;have d4:=aFf b6 X;clear X;obtain⟨e,rfl,X⟩:=d4;refine aC (xk 3 J rfl λU J=>?_);refine x_v (v:=bGj c) J (cM q (bGp kW J rfl)) rfl λU J=>?_;obtain⟨s,G⟩:=aD G;refine x_v J (lV iK oD rfl (J.ev rfl) (J.ev rfl) s.1 s.2) rfl λU J=>x_m J rfl λU J=>wn (b5 _ _ ?_);refine wp_seq_k λf1 f2=>ws λf3 b7=>xk 4 J rfl λU J=>x_l G J rfl λd b8 U J G=>?_;obtain⟨b9,G⟩:=aD G;refine x_v (v:=.slice (some ⟨e,(0+d.toNat) * 3,none⟩) (c.toNat - d.toNat) (a - d.toNat)) J (aDu (lo:=0) iK oD rfl (J.ev rfl) (J.ev rfl) b9) rfl λU J=>?_;obtain⟨c0,G⟩:=aD G;refine x_v (v:=.bool false) J (bAe (aZ9 (aUh iK oD X 1 0 rfl rfl (by decide) c0)) rfl (evs J rfl)) rfl λU J=>nk 1 J rfl λU J=>b7 _ _ (c_t (b:=true) rfl J ?_ rfl);refine wp_seq_k λf4 c1=>wD [0,0,0,6,15,0,0,96,255] [8] rfl J X (by kernel_rfl) λw X=>?_;obtain⟨c3,G⟩:=aD G;obtain⟨c4,G⟩:=aD G;refine⟨[(0,.slice (some ⟨e,0,none⟩) c.toNat a),(1,bGj a1),(2,bGj (a2.length:Int)),(3,bGj d),(4,.slice (some ⟨e,(0+d.toNat) * 3,none⟩) (c.toNat - d.toNat) (a - d.toNat)),(5,.slice (some ⟨e,0,none⟩) c.toNat a),(6,bGj a1),(7,.slice (some ⟨e,(0+a1.toNat) * 3,none⟩) (c.toNat - a1.toNat) (a - a1.toNat))],?_⟩;refine dF [0,1,2,3,4,5,6,7] [8] (by kernel_rfl) ⟨pm rfl,pm rfl,pm rfl,pt [(70,_),(71,_)] rfl λU J=>cM b8 (bGp kW J rfl),pt [(69,_),(72,_)] rfl λU J=>aDu (lo:=0) iK oD rfl (J.ev rfl) (J.ev rfl) c3,pm rfl,pm rfl,pt [(74,_),(75,_)] rfl λU J=>aDu (lo:=0) iK oD rfl (J.ev rfl) (J.ev rfl) c4,trivial⟩ ⟨et [(73,_),(76,_)] rfl (λU J K hK=>?_),trivial⟩;obtain⟨c5,t,G⟩:=bnd G;obtain⟨c6,G⟩:=aD G;refine bA2 (lo:=(0+d.toNat)) (zs:=c5) 0 iK oD J X (aU3 (lo:=(0+a1.toNat)) X 0 rfl (aCz t).2.1) (aCz t).1 c6 rfl rfl λf5 w X=>?_;obtain⟨f6,c7,G⟩:=gX G;rw [← c7] at X;refine hK _ [] _ rfl (rF [] (by kernel_rfl) trivial ⟨by kernel_rfl,by kernel_rfl⟩ [(0,_),(1,_),(2,_)] rfl (λU J=>?_));refine c1 _ _ (ws λf7 c8=>?_);refine xk 2 J rfl λU J=>?_;obtain⟨c9,G⟩:=aD G;refine x_v (v:=.slice (some ⟨e,(0+a1.toNat) * 3,none⟩) (c.toNat - a1.toNat) (a - a1.toNat)) J (aDu (lo:=0) iK oD rfl (J.ev rfl) (J.ev rfl) c9) rfl λU J=>x_m J rfl λU J=>?_;obtain⟨d1,G⟩:=aD G;refine bAv (lo:=(0+a1.toNat)) (zs:=a2.take (min a2.length (c.toNat - a1.toNat))) 0 iK oD J X (Rd.take_ (X.rd 1 rfl).1 _) (cpk (X.rd 1 rfl).2.1 rfl) d1 rfl rfl λf8 U w X J=>?_;obtain⟨f9,d2,G⟩:=gX G;rw [← d2] at X;refine wn (c8 _ _ ?_);refine nz 2 J rfl λU J=>?_;obtain⟨g0,d3,G⟩:=bnd G;replace X:=(aL9 X d3).drop 1;cases G;exact wp_ret (m _ _ (lv Tryz.results91 J rfl ⟨some ⟨e,0,none⟩,c.toNat,a,rfl,X⟩))
theorem rS {a0 a a1 a2 e h y} (G:eU a0 a a1 a2=some y) (X:SH r (own kp98 98 e h a a0::L) w) :
  Ret Tryz.prog 80 #[.slice e h a,bGj a1,bGj a2] w λv w'=>∃ (i:Option Addr) (j:Nat) (k:Nat),v=.slice i j k/\SH r (own kp98 98 i j k y::L) w':=by
 refine enter Tryz.func80 rfl Tryz.ntmps80 [(0,_),(1,_),(2,_)] rfl (by simp) ?_;intro U J Qf l S;unfold eU at G;obtain rfl:=(X.rd 0 rfl).2.1;refine nz 1 J rfl λU J=>ws λF n=>xk 4 J rfl λU J=>aX iK (X.rd 0 rfl).2.1 J rfl λU J=>?_;obtain⟨c,G⟩:=aD G;refine x_v J (aGy iK oD rfl (J.ev rfl) (J.ev rfl) (J.ev rfl) (J.ev rfl) ⟨c.1,c.2.1,c.2.2.1,by have:=(X.rd 0 rfl).2;omega⟩) rfl λU J=>wn (n _ _ ?_);refine wp_seq_k λH o=>nz 3 J rfl λU J=>aY J G rfl (λp G=>?_) λp G=>?_
 ·refine nz 2 J rfl λU J=>?_;cases G;exact wp_ret (l _ _ (lv Tryz.results80 J rfl ⟨e,a0.length,a,rfl,X⟩))
 refine wp_skip (o _ _ ?_);refine ws λI q=>xk 1 J rfl λU J=>aX iK (X.rd 0 rfl).2.1 J rfl λU J=>x_m J rfl λU J=>wn (q _ _ ?_);refine wp_seq_k λM s=>?_;obtain⟨t,G⟩:=aD G;have E:=aFf t X;clear X;obtain⟨b,rfl,X⟩:=E;refine wD [0,0,3,0,0,24,63,127] [6] rfl J X (by kernel_rfl) λw X=>?_;obtain⟨f,G⟩:=aD G;obtain⟨d,G⟩:=aD G;refine⟨[(0,.slice (some ⟨b,0,none⟩) a0.length a),(1,bGj a1),(2,.slice (some ⟨b,0,none⟩) a1.toNat a),(3,.slice (some ⟨b,0,none⟩) a0.length a),(4,bGj a2),(5,.slice (if a=a2.toNat then (some ⟨b,0,none⟩) else (some (⟨b,0,none⟩:Addr)).map (·.add (a2.toNat * 3))) (a0.length - a2.toNat) (a - a2.toNat))],?_⟩
 refine dF [0,1,2,3,4,5] [6] (by kernel_rfl) ⟨pm rfl,pm rfl,pt [(20,_),(21,_)] rfl (λU J=>lV iK oD rfl (J.ev rfl) (J.ev rfl) f.1 f.2),pm rfl,pm rfl,pt [(23,_),(24,_)] rfl (λU J=>kX iK oD rfl (J.ev rfl) (J.ev rfl) d.1 d.2.1),trivial⟩ ⟨et [(22,_),(25,_)] rfl (λU J K hK=>?_),trivial⟩;obtain⟨N,g,G⟩:=bnd G;obtain⟨u,G⟩:=aD G;refine bAz 0 iK oD J X (aW2 (lo:=0) (L0:=a2.toNat) (m:=a0.length) X 0 rfl g ⟨rfl,d.2.2⟩) (aCz g).1 u rfl rfl λw X=>?_;obtain⟨O,x,G⟩:=gX G;rw [← x] at X;refine hK _ [(7,.slice (some ⟨b,0,none⟩) (a1.toNat+(a0.length - a2.toNat)) a)] _ rfl (dZ [7] (by kernel_rfl) ⟨pm rfl,trivial⟩ [(0,_),(7,_)] rfl (λU J=>?_));refine s _ _ (ws λP z=>?_);refine xk 2 J rfl λU J=>x_v J (aCw iK rfl (J.ev rfl)) rfl λU J=>x_m J rfl λU J=>?_;obtain⟨A,G⟩:=aD G;refine x_v (v:=.slice (some ⟨b,(0+(((a1.toNat+(a0.length - a2.toNat)):Nat):Int).toNat) * 3,none⟩) ((a0.length:Int).toNat - (((a1.toNat+(a0.length - a2.toNat)):Nat):Int).toNat) (a - (((a1.toNat+(a0.length - a2.toNat)):Nat):Int).toNat)) J (aUz (lo:=0) iK oD rfl (J.ev rfl) (J.ev rfl) (J.ev rfl) A) rfl λU J=>?_;obtain⟨B,G⟩:=aD G;refine aXk (lo:=(0+(((a1.toNat+(a0.length - a2.toNat)):Nat):Int).toNat)) (z0:=(((⟨[],[],0⟩:S98),none,0,0):S98×Hd)) 0 iK aXu rfl J X B rfl rfl λU w X J=>?_;obtain⟨Q,C,G⟩:=gX G;rw [← C] at X;refine wn (z _ _ ?_);refine nz 2 J rfl λU J=>?_;obtain⟨R,D,G⟩:=bnd G;replace X:=aL9 X D;cases G;exact wp_ret (l _ _ (lv Tryz.results80 J rfl ⟨some ⟨b,0,none⟩,a1.toNat+(a0.length - a2.toNat),a,rfl,X⟩))
end
theorem aM8 {α:Type} {xs:List α} {l u:Nat} (h:l<=u) (hu:u<=xs.length):kD xs (l:Int) (u:Int)=some ((xs.take u).drop l):=by unfold kD;rw [if_pos (by omega)];simp
theorem gQ {α:Type} {p:Prop} [Decidable p] {x:Option α} (h:p):chk p x=x:=if_pos h
theorem bAq {n:Int} (h : -9223372036854775808<=n) (a:n<=9223372036854775807):IntKind.i64.wrap n=n:=IntWalk.i64_in n ⟨h,a⟩
theorem bC1 {α β:Type} (e:α) (f:α->Option β):ltt e f=f e:=rfl
section
variable {α:Type}
theorem aFm (A C:List (Option α)) (B:List α) {lo k:Nat} (hlo:A.length=lo) (hk:B.length=k):rdo (A++(B.map some++C)) lo k=some B:=by unfold rdo;rw [if_pos (by simp;omega), ← hlo,List.drop_left, ← hk,show B.length=(B.map some).length by simp,List.take_left,aOa]
theorem aRv (A B:List α) {k:Nat} (m:Nat) (h:A.length=k):(A++B).drop (k+m)=B.drop m:=by subst h;rw [List.drop_append,List.drop_of_length_le (by omega),List.nil_append,Nat.add_sub_cancel_left]
theorem aDy (A B:List α) {k:Nat} (h:A.length=k):(A++B).take k=A:=by subst h;exact List.take_left
theorem aOy (A B:List α) {k:Nat} (h:A.length=k):(A++B).drop k=B:=by subst h;exact List.drop_left
end
theorem aWn (P D ys:List (S98×Hd)) (a:Nat) (hk:P.length+D.length<=a) (hb:(P.length+D.length+ys.length) * 48<=140737488355328) (hm:0<ys.length) :
    eV (P++D) a (P.length:Int) ys=some (P++ys++D):=by
  unfold eV;have hl:(P++D).length=P.length+D.length:=List.length_append;have c1:=aM8 (xs:=P++D) (l:=P.length) (u:=(P++D).length) (by omega) (Nat.le_refl _);rw [List.take_length,List.drop_left] at c1;rw [c1];simp only [bGi,bC1];rw [if_neg (by simp only [beq_iff_eq];omega)];by_cases d:D=[]
  · subst d
    rw [if_pos (by simp),gQ (by rw [hl];simp only [List.length_nil] at hb ⊢;omega)];simp
  have v:0<D.length:=List.length_pos_iff.2 d;rw [if_neg (by simp only [beq_iff_eq,hl];omega),hl,bAq (n:=((P.length+D.length:Nat):Int)+(ys.length:Int)) (by omega) (by omega),
    show ((P.length+D.length:Nat):Int)+(ys.length:Int)=((P.length+D.length+ys.length:Nat):Int) by omega]
  have e:IntKind.i64.wrap ((P.length:Int)+(ys.length:Int))=((P.length+ys.length:Nat):Int):=by rw [bAq (by omega) (by omega)];omega
  have f:IntKind.i64.wrap (((P.length+D.length+ys.length:Nat):Int) - (P.length:Int))=((D.length+ys.length:Nat):Int):=by rw [bAq (by omega) (by omega)];omega
  rw [e,f];simp only [Int.toNat_natCast,Nat.zero_add];by_cases hg:a<P.length+D.length+ys.length
  · rw [if_pos (by simp only [decide_eq_true_eq];omega)]
    have c2:=aM8 (xs:=P++D) (l:=0) (u:=P.length) (by omega) (by omega);rw [List.take_left,List.drop_zero,show ((0:Nat):Int)=0 from rfl] at c2;rw [c2];simp only [bGi];generalize (((⟨[],[],0⟩:S98),none,0,0):S98×Hd)=z;have g:(P++List.replicate (D.length+ys.length) z).length=P.length+D.length+ys.length:=by simp;omega
    have b:ys.take (min ys.length (P.length+D.length+ys.length - P.length))=ys:=List.take_of_length_le (by omega);have h:(P++List.replicate (D.length+ys.length) z).take P.length++ys++(P++List.replicate (D.length+ys.length) z).drop (P.length+ys.length)=P++ys++List.replicate D.length z:=by rw [List.take_left,aRv _ _ _ rfl,List.drop_replicate];congr 2;omega
    rw [gQ (by omega),g,b,gQ (by omega),gQ (by omega),h];have i:(P++ys++List.replicate D.length z).length=P.length+D.length+ys.length:=by simp;omega
    rw [i,gQ (by omega)];have j:D.take (min D.length (P.length+D.length+ys.length - (P.length+ys.length)))=D:=List.take_of_length_le (by omega);rw [j,gQ (by omega),aDy (P++ys) _ (by simp),List.drop_of_length_le (by omega),List.append_nil]
  · rw [if_neg (by simp only [decide_eq_true_eq];omega),gQ (by omega),gQ (by omega),gQ (by omega),gQ (by omega),gQ (by omega),gQ (by omega)]
    have m:(P++D).map some++List.replicate (a - (P.length+D.length)) none=P.map some++(D.map some++List.replicate (a - (P.length+D.length)) none):=by simp
    rw [m,aFm (P.map some) _ D (by simp) (by omega)];simp only [bGi];have b:ys.take (min ys.length (P.length+D.length+ys.length - P.length))=ys:=List.take_of_length_le (by omega);rw [gQ (by omega),gQ (by omega),b,gQ (by omega)];generalize o:List.replicate (a - (P.length+D.length)) (none:Option (S98×Hd))=N;have p:N.length=a - (P.length+D.length):=by rw [← o];simp
    obtain⟨O,c⟩:∃ O,O=P.map some++(D.map some++N):=⟨_,rfl⟩;rw [← c];have w:O.length=a:=by rw [c];simp [p];omega
    have q:(O.take (P.length+ys.length)).length=P.length+ys.length:=by rw [List.length_take];omega
    have r:(O.take (P.length+ys.length)++D.map some++O.drop (P.length+ys.length+D.length)).take P.length=P.map some:=by rw [List.append_assoc,List.take_append_of_le_length (by omega),List.take_take,Nat.min_eq_left (by omega),c,aDy _ _ (by simp)]
    have s:(O.take (P.length+ys.length)++D.map some++O.drop (P.length+ys.length+D.length)).drop (P.length+ys.length)=D.map some++O.drop (P.length+ys.length+D.length):=by rw [List.append_assoc,aOy _ _ q]
    rw [r,s];have t:P.map some++ys.map some++(D.map some++O.drop (P.length+ys.length+D.length))=[]++((P++ys++D).map some++O.drop (P.length+ys.length+D.length)):=by simp
    rw [t,aFm [] _ (P++ys++D) (lo:=0) (k:=P.length+D.length+ys.length) rfl (by simp;omega)];rfl
theorem aV7 (P D:List (S98×Hd)) (x:S98×Hd) (a:Nat) (hk:P.length+1+D.length<=a) (hb:a<=9223372036854775807) :
    eU (P++x::D) a (P.length:Int) ((P.length:Int)+1)=some (P++D):=by
  unfold eU;have hl:(P++x::D).length=P.length+1+D.length:=by simp;omega
  have c:((P.length:Int)+1).toNat=P.length+1:=by omega
  rw [hl,c,gQ (by omega),if_neg (by simp;omega),gQ (by omega),gQ (by omega),gQ (by omega)];simp only [Int.toNat_natCast,Nat.zero_add,bC1];rw [show P.length+1+D.length - (P.length+1)=D.length by omega];generalize d:List.replicate (a - (P.length+1+D.length)) (none:Option (S98×Hd))=N;have e:N.length=a - (P.length+1+D.length):=by rw [← d];simp
  have f:(P++x::D).map some++N=(P.map some++[some x])++(D.map some++N):=by simp
  rw [f,aFm (P.map some++[some x]) N D (by simp) rfl];simp only [bGi];obtain⟨O,b⟩:∃ O,O=(P.map some++[some x])++(D.map some++N):=⟨_,rfl⟩;rw [← b];have j:O.length=a:=by rw [b];simp [e];omega
  have g:O.take P.length=P.map some:=by rw [b,List.append_assoc,aDy _ _ (by simp)]
  rw [g,gQ (by omega),gQ (by omega),show P.length+1+D.length - (P.length+D.length)=1 by omega,gQ (by omega)];have h:((P.map some++D.map some++O.drop (P.length+D.length)).take (P.length+D.length))=(P++D).map some:=by rw [aDy _ _ (by simp)];simp
  rw [h];have i:∀ X Y:List (Option (S98×Hd)),(P++D).map some++X++Y=[]++((P++D).map some++(X++Y)):=by intro X Y;simp
  rw [i,aFm [] _ (P++D) (lo:=0) (k:=P.length+D.length) rfl (by simp)];rfl
section
variable {r w:World} {L:List HP} {α β:Type} {d:Kd β} {e':TypeId} {g:α->List β}
theorem aBt:∀ {ps qs:List (α×Hd)} {L:List HP} {S:Nat->Prop},Sep (uK d e' g ps::uK d e' g qs::L) w S->Sep (uK d e' g (ps++qs)::L) w S
  | [],qs,L,S,h=>by have a:Sep ([]++(uK d e' g qs::L)) w S:=Sep.unstar (Ls:=[]) h;exact a
  | p::ps,qs,L,S,h=>qK.2 ((qK.1 h).tl λS hS=>aBt hS)
theorem aG1:∀ {ps qs:List (α×Hd)} {L:List HP} {S:Nat->Prop},Sep (uK d e' g (ps++qs)::L) w S->Sep (uK d e' g ps::uK d e' g qs::L) w S
  | [],qs,L,S,h=>Sep.star (Ls:=[]) h
  | p::ps,qs,L,S,h=>qK.2 ((qK.1 h).tl λS hS=>aG1 hS)
end
abbrev oF (A:Option Addr) (n c:Nat) (xs:List S98):HP:=bGn A n c xs
def aPf (xs:List S98) (i:Int) (ys:List S98):Option (List S98):=if 0<=i/\i<=(xs.length:Int)/\0<ys.length/\(xs.length+ys.length) * 48<=140737488355328 then some (xs.take i.toNat++ys++xs.drop i.toNat) else none
def aV6 (xs:List S98) (i j:Int):Option (List S98):=if 0<=i/\i<(xs.length:Int)/\j=i+1 then some (xs.eraseIdx i.toNat) else none
theorem aXz {r w:World} {L:List HP} (xs:List S98) (i:Int) (ys:List S98) {A B:Option Addr} {n c m c2:Nat} {y:List S98} (a:aPf xs i ys=some y) (hS:SH r (oF A n c xs::oF B m c2 ys::L) w) :
    Ret Tryz.prog 91 #[.slice A n c,bGj i,.slice B m c2] w λv w'=>∃ (b:Option Addr) (d f:Nat),v=.slice b d f/\SH r (oF b d f y::L) w':=by
  unfold aPf at a;split at a
  · rename_i hi
    cases a;obtain⟨ps,g,l⟩:=aGc hS;have o:SH r (oF B m c2 ys::own kp98 98 A n c ps::uK (kI .u8) 5 (λx:S98=>x.f1) ps::L) w:=l.sh λS hS=>(hS.tl λS hS=>hS.swap).swap;obtain⟨qs,h,p⟩:=aGc o;have j:SH r (own kp98 98 A n c ps::own kp98 98 B m c2 qs::uK (kI .u8) 5 (λx:S98=>x.f1) ps::uK (kI .u8) 5 (λx:S98=>x.f1) qs::L) w:=p.sh λS hS =>
      (hS.tl λS hS=>(hS.swap).tl λS hS=>hS.swap).swap
    have C:ps.length=xs.length:=by rw [← g,List.length_map]
    have D:qs.length=ys.length:=by rw [← h,List.length_map]
    obtain⟨hr,hn,E,F⟩:=j.rd 0 rfl;have k:ps.take i.toNat++ps.drop i.toNat=ps:=List.take_append_drop _ _;have q:(ps.take i.toNat).length=i.toNat:=by rw [List.length_take];omega
    have G:(ps.drop i.toNat).length=xs.length - i.toNat:=by rw [List.length_drop];omega
    have e:=aWn (ps.take i.toNat) (ps.drop i.toNat) qs c (by omega) (by omega) (by omega);rw [k,q,Int.toNat_of_nonneg hi.1] at e;refine Calls.mono (rT e j :) ?_;rintro ev w' ⟨v,s,b,d,f,t,u⟩;refine⟨v,s,b,d,f,t,aDp (ps:=ps.take i.toNat++qs++ps.drop i.toNat) ?_ (u.tl λS hS=>?_)⟩
    · rw [List.map_append,List.map_append,List.map_take,List.map_drop,g,h]
    · rw [← k] at hS
      have s1:=aG1 hS;have z:=s1.tl λS hS=>hS.swap;rw [List.append_assoc];exact aBt (z.tl λS hS=>aBt hS)
  · cases a
theorem aSs {r w:World} {L:List HP} {xs:List S98} {i:Int} {ps:List (S98×Hd)} {p:S98×Hd} {A:Option Addr} {n c:Nat} (g:ps.map Prod.fst=xs) (hp:at_ ps i=some p) (hS:SH r (own kp98 98 A n c ps::uK (kI .u8) 5 (λx:S98=>x.f1) (ps.eraseIdx i.toNat)::L) w) :
    Ret Tryz.prog 80 #[.slice A n c,bGj i,bGj (i+1)] w λv w'=>∃ (a:Option Addr) (b d:Nat),v=.slice a b d/\SH r (oF a b d (xs.eraseIdx i.toNat)::L) w':=by
  obtain⟨h,y,j⟩:=jL hp;obtain⟨hr,hn,z,k⟩:=hS.rd 0 rfl;obtain⟨l,m⟩:=List.getElem?_eq_some_iff.1 j;have o:ps.take i.toNat++p::ps.drop (i.toNat+1)=ps:=by rw [← m, ← List.drop_eq_getElem_cons l,List.take_append_drop]
  have q:(ps.take i.toNat).length=i.toNat:=by rw [List.length_take];omega
  have B:(ps.drop (i.toNat+1)).length=ps.length - (i.toNat+1):=List.length_drop;have s:c<=9223372036854775807:=by unfold maxLen at k;omega
  have e:=aV7 (ps.take i.toNat) (ps.drop (i.toNat+1)) p c (by omega) s;rw [o,q,Int.toNat_of_nonneg h] at e;refine Calls.mono (rS e hS :) ?_;rintro ev w' ⟨v,t,a,b,d,u,f⟩;refine⟨v,t,a,b,d,u,?_⟩;rw [← List.eraseIdx_eq_take_drop_succ] at f;refine aDp (ps:=ps.eraseIdx i.toNat) ?_ f;rw [← g,List.eraseIdx_eq_take_drop_succ,List.eraseIdx_eq_take_drop_succ,List.map_append,List.map_take,List.map_drop]
theorem aZb {r w:World} {L:List HP} {xs:List S98} {i j:Int} {ps:List (S98×Hd)} {p:S98×Hd} {A:Option Addr} {n c:Nat} (e:j=i+1) (f:ps.map Prod.fst=xs) (hp:at_ ps i=some p) (hS:SH r (own kp98 98 A n c ps::uK (kI .u8) 5 (λx:S98=>x.f1) (ps.eraseIdx i.toNat)::L) w) :
    Ret Tryz.prog 80 #[.slice A n c,bGj i,bGj j] w λv w'=>∃ (a:Option Addr) (b d:Nat),v=.slice a b d/\SH r (oF a b d (xs.eraseIdx i.toNat)::L) w':=by
  subst e;exact aSs f hp hS
theorem bA5 {r w:World} {L:List HP} (xs:List S98) (i j:Int) {A:Option Addr} {n c:Nat} {y:List S98} (a:aV6 xs i j=some y) (hS:SH r (oF A n c xs::L) w) :
    Ret Tryz.prog 80 #[.slice A n c,bGj i,bGj j] w λv w'=>∃ (b:Option Addr) (d e:Nat),v=.slice b d e/\SH r (oF b d e y::L) w':=by
  unfold aV6 at a;split at a
  · rename_i hi
    cases a;obtain⟨h0,l,rfl⟩:=hi;have hx:at_ xs i=some (xs[i.toNat]'(by omega)):=by unfold at_;rw [if_pos h0,List.getElem?_eq_getElem]
    obtain⟨ps,b,d,e,f,hp,g⟩:=aA0 hS hx;have h:SH r (own kp98 98 A n c ps::uK (kI .u8) 5 (λx:S98=>x.f1) (ps.eraseIdx i.toNat)::L) w:=g.sh λS hS=>hS.tl λS hS=>by obtain⟨S1,m,o,k,qd,hA,hL⟩:=hS;exact hL.mono k
    exact aSs f hp h
  · cases a
noncomputable section
set_option linter.unusedSimpArgs false
def tA (a0:List UInt8):Option (Bool):=if !(a0==[]) then (some (decide ((a0.length:Int)<=32))) else (some false)
def xH (a0:List UInt8):Option (Bool):=tA a0
def iM (a:Int) (b:Bool):Option (Int⊕(Unit⊕Bool)):=if b=true then (some (.inr (.inr false))) else (ltt (IntKind.i64.wrap (a+1)) λc=>(some (.inl (c))))
def gG (a0:List UInt8) (a:Int):Option (Int⊕(Unit⊕Bool)):=if decide (a<(a0.length:Int)) then ((at_ a0 a).bind λb=>(if (b.toNat:Int) != 46 then (if decide ((b.toNat:Int)<48) then (if decide ((b.toNat:Int)<97) then (iM a true) else (iM a (decide (122<(b.toNat:Int))))) else (if decide (57<(b.toNat:Int)) then (if decide ((b.toNat:Int)<97) then (iM a true) else (iM a (decide (122<(b.toNat:Int))))) else (iM a false))) else (iM a false))) else (some (.inr (.inl ())))
def rI (a0:List UInt8):Option (Bool):=(loop (λs=>gG a0 s) (0)).bind λt=>match t with | (.inl t)=>xH a0 | (.inr t)=>some t
def jU (a0:S98) (a:List UInt8):Option (Int):=if Op.bytesLess a0.f0 a then (some (-1)) else (if !(Op.bytesLess a0.f0 a||a0.f0==a) then (some 1) else (some 0))
abbrev bHe:=(Int×Bool)
def bX (a0:List S98) (d:List UInt8) (a:Int):Option bHe:=if decide (a<(a0.length:Int)) then ((at_ a0 a).bind λb=>((jU b d).bind λc=>(some (a,c==0)))) else (some (a,false))
def bS (a0:List S98) (b:List UInt8) (a:Int):Option bHe:=bX a0 b a
abbrev bHf:=((Int×Int)⊕Int)
def bG (a b:Int):Option bHf:=some (.inl (a,b))
def aW (a0:List S98) (j:List UInt8) (a b:Int):Option bHf:=if decide (a<b) then (ltt (IntKind.i64.wrap (a+b)) λd=>(ltt (IntKind.u64.wrap d) λe=>(ltt (oC .u64 e 1) λf=>(ltt (IntKind.i64.wrap f) λc=>((at_ a0 c).bind λg=>((jU g j).bind λh=>(if decide (h<0) then (ltt (IntKind.i64.wrap (c+1)) λi=>(bG i b)) else (bG a c)))))))) else (some (.inr (a)))
def bM (a0:List S98) (a:List UInt8):Option bHe:=(loop (λs=>aW a0 a s.1 s.2) (0,(a0.length:Int))).bind λt=>bS a0 a t
def eP (a0:S77) (b:List UInt8):Option bHe:=(bM a0.f0 b).bind λa=>(some (a.1,a.2))
def cU (a0:Option S77) (c:List UInt8):Option (Int):=match a0 with | none=>(some 5) | some a=>((rI c).bind λb=>(if !b then (some 1) else (if a.f3=true then (some 9) else (some 0))))
def nN (a0:S77) (b c:Int) (a:Bool):Option (Bool×S77):=some (!a,(⟨a0.f0,a0.f1,c,a,b⟩:S77))
def gW (a0:S77):Option (Bool×S77):=ltt (IntKind.i64.wrap (a0.f4+1)) λa=>(if decide (0<a0.f2) then (ltt (IntKind.i64.wrap (a0.f2 - 1)) λb=>(nN a0 a b (b==0))) else (nN a0 a a0.f2 a0.f3))
def sR (a:Int):Option (Int):=some a
def qR (a:Int):Option (Int):=sR a
def dR (b:S77) (c a:Int):Option bHf:=if decide (a<(b.f0.length:Int)) then ((at_ b.f0 a).bind λd=>(ltt (IntKind.i64.wrap (c+(d.f1.length:Int))) λe=>(ltt (IntKind.i64.wrap (a+1)) λf=>(some (.inl (e,f)))))) else (some (.inr (c)))
def oS (a0:Option S77):Option (Int):=match a0 with | none=>(some 0) | some a=>((loop (λs=>dR a s.1 s.2) (0,0)).bind λt=>qR t)
abbrev bHg:=(List (List UInt8))
def sQ (a:List (List UInt8)):Option bHg:=some a
def qQ (a:List (List UInt8)):Option bHg:=sQ a
def dQ (c:S77) (a:List (List UInt8)) (b:Int):Option ((List (List UInt8)×Int)⊕List (List UInt8)):=if decide (b<(c.f0.length:Int)) then ((at_ c.f0 b).bind λd=>(chk (a.length+[d.f0].length<=140737488355328 / 16) (ltt (IntKind.i64.wrap (b+1)) λe=>(some (.inl (a++[d.f0],e)))))) else (some (.inr (a)))
def lU (a0:Option S77):Option bHg:=match a0 with | none=>(some []) | some a=>((loop (λs=>dQ a s.1 s.2) ([],0)).bind λt=>qQ t)
def vC (a0:Int) (a:Bool):Option (Option S77×Int):=if a=true then (some (none,1)) else (some (some (⟨[],a0,0,false,0⟩:S77),0))
def yI (a0:Int):Option (Option S77×Int):=if decide (a0<1) then (vC a0 true) else (vC a0 (decide (16777216<a0)))
abbrev bHh:=(Int×Option S77)
def gZ (a2:List Int) (c:(Int×Bool)) (a:(Bool×S77)) (d:List S98):Option bHh:=(at_ d c.1).bind λb=>(chk (b.f1.length+a2.length<=140737488355328 / 1) (if !a.1 then (some (9,some (⟨d.set c.1.toNat (⟨b.f0,b.f1++a2,b.f2⟩:S98),a.2.f1,a.2.f2,a.2.f3,a.2.f4⟩:S77))) else (some (0,some (⟨d.set c.1.toNat (⟨b.f0,b.f1++a2,b.f2⟩:S98),a.2.f1,a.2.f2,a.2.f3,a.2.f4⟩:S77)))))
def eH (f:List UInt8) (a2:List Int) (c:S77) (a:(Int×Bool)) (d:Bool):Option bHh:=if d=true then (some (10,some c)) else ((gW c).bind λb=>(if !a.2 then ((aPf b.2.f0 a.1 [(⟨f,[],0⟩:S98)]).bind λe=>(gZ a2 a b e)) else (gZ a2 a b b.2.f0)))
def pM (a0:Option S77) (b:List UInt8) (a2:List Int):Option bHh:=match a0 with | none=>((cU none b).bind λd=>(if d != 0 then (some (d,none)) else (none))) | some a=>((cU (some a) b).bind λe=>(if e != 0 then (some (e,some a)) else ((eP a b).bind λc=>((oS (some a)).bind λf=>(ltt (IntKind.i64.wrap (a.f1 - f)) λg=>(if decide (g<(a2.length:Int)) then (eH b a2 a c true) else (if !c.2 then (eH b a2 a c (decide (500<=(a.f0.length:Int)))) else (eH b a2 a c false))))))))
def oQ (a0:Option S77) (b:List UInt8):Option (List Int×Int):=match a0 with | none=>((cU none b).bind λc=>(if c != 0 then (some ([],c)) else (none))) | some a=>((cU (some a) b).bind λd=>(if d != 0 then (some ([],d)) else ((eP a b).bind λe=>(if !e.2 then (some ([],5)) else ((at_ a.f0 e.1).bind λf=>((dH f.f1).bind λg=>(some (g,0))))))))
end
section
variable {r:World} {L:List HP} {w:World} {Z:Nat->Prop} {wz:World}
theorem aEy {a0 y} (G:rI a0=some y) (X:SH r (L) w) :
  Ret Tryz.prog 70 #[str a0] w λv w'=>v=.bool y/\SH r (L) w':=by
 refine enter Tryz.func70 rfl Tryz.ntmps70 [(0,_)] rfl (by simp) ?_;intro U J Qf j a5;unfold rI at G;refine nz 1 J rfl λU J=>wp_seq_k λS u=>ws λT x=>xk 1 J rfl λU J=>x_v J (aCx uu9 rfl (J.ev rfl)) rfl λU J=>x_m J rfl λU J=>wn (x _ _ ?_);refine aA λk z=>?_;have R:tA a0=some y->∀U w,FR 39 [] U [(0,str a0)]->SH r (L) w->k U w:=by
  intro G U w J X;unfold tA at G;refine z _ _ (u _ _ ?_);refine ws λW l=>xk 1 J rfl λU J=>x_v J (bGp aUy J rfl) rfl λU J=>x_m J rfl λU J=>bcG G (λd G=>?_) λd G=>?_
  ·refine xg 1 d J rfl rfl λU J=>aI d J ?_ rfl;refine x_v J (aCx uu9 rfl (J.ev rfl)) rfl λU J=>ng 3 d J rfl rfl λU J=>?_;cases G;refine l _ _ (wp_ret ?_);refine j _ _ (lv Tryz.results70 J rfl ?_);exact⟨rfl,X⟩
  refine ng 5 d J rfl rfl λU J=>?_;cases G;refine l _ _ (wp_ret ?_);refine j _ _ (lv Tryz.results70 J rfl ?_);exact⟨rfl,X⟩
 obtain⟨A,B,G⟩:=bnd G;have C:=G;have D:(.inl ())=A->∀U w,FR 39 [] U [(0,str a0)]->SH r (L) w->k U w:=by intro ht U w J X;subst ht;replace G:xH a0=some y:=G;unfold xH at G;exact R G U w (J.sub _ rfl) X
 refine aT B (λs U w=>FR 39 [] U [(0,str a0),(6,bGj (a0.length:Int)),(7,bGj s)]/\SH r (L) w) ⟨J.sub _ rfl,X⟩ ?_;intro Y E m G F n U w t;obtain⟨h,rfl⟩:∃ q,q=E:=⟨_,rfl⟩;replace G:gG a0 h=some m:=G;unfold gG at G
 try dsimp only at t
 obtain⟨J,X⟩:=t;refine nz 1 J rfl λU J=>wp_seq_k λZ H=>aY J G rfl (λI G=>?_) λI G=>?_
 ·refine wp_skip (H _ _ ?_);refine wp_seq_k λa1 K=>aA λa2 M=>nz 2 J rfl λU J=>ws λa3 N=>xk 2 J rfl λU J=>?_;obtain⟨o,p,G⟩:=bnd G;refine x_v J (aN3 uu9 rfl (J.ev rfl) (J.ev rfl) (jL p).1 (jL p).2.2) rfl λU J=>x_m J rfl λU J=>wn (N _ _ ?_);refine wp_seq_k λO P=>?_;have c:∀i,iM h i=some m->∀U w,FR 39 [] U [(0,str a0),(6,bGj (a0.length:Int)),(7,bGj h),(30,.bool i)]->SH r (L) w->O U w:=by
   intro i G U w J X;unfold iM at G;refine P _ _ (aY J G rfl (λQ G=>?_) λQ G=>?_)
   ·refine nz 1 J rfl λU J=>?_;cases G;refine wp_ret ?_;have ht:=n _ rfl;subst ht;replace G:=C;replace G:some false=some y:=G;cases G;refine j _ _ (lv Tryz.results70 J rfl ?_);exact⟨rfl,X⟩
   refine wp_skip (M _ _ ?_);refine K _ _ (aC ?_);refine x_l G J rfl λa4 _ U J G=>x_m J rfl λU J=>wpList_nil ?_;cases G;exact⟨_,F _ rfl,J.sub _ rfl,X⟩
  refine aC (xk 3 J rfl λU J=>?_);refine bcG G (λa G=>?_) λa G=>?_
  ·refine xg 3 a J rfl rfl λU J=>bcG G (λe G=>?_) λe G=>?_
   ·refine xg 2 e J rfl rfl λU J=>aI a J ?_ rfl;refine xg 1 e J rfl rfl λU J=>xg 2 a J rfl rfl λU J=>aI rfl J ?_ rfl;refine x_m J rfl λU J=>aI rfl J ?_ rfl;refine xk 1 J rfl λU J=>aI rfl J ?_ rfl;refine x_m J rfl λU J=>bcG G (λf G=>?_) λf G=>?_
    ·refine xg 2 f J rfl rfl λU J=>aI rfl J ?_ rfl;exact xg 1 f J rfl rfl λU J=>mH rfl J rfl λU J=>wpList_nil (c true G U w (J.sub _ rfl) X)
    refine xg 2 f J rfl rfl λU J=>aI rfl J ?_ rfl;exact xg 1 f J rfl rfl λU J=>mH rfl J rfl λU J=>wpList_nil (c (decide (122<(o.toNat:Int))) G U w (J.sub _ rfl) X)
   refine xg 2 e J rfl rfl λU J=>aI a J ?_ rfl;refine xg 1 e J rfl rfl λU J=>xg 2 a J rfl rfl λU J=>bcG G (λb G=>?_) λb G=>?_
   ·refine xg 3 b J rfl rfl λU J=>bcG G (λg G=>?_) λg G=>?_
    ·refine xg 2 g J rfl rfl λU J=>aI b J ?_ rfl;exact xg 1 g J rfl rfl λU J=>ng 1 b J rfl rfl λU J=>c true G U w (J.sub _ rfl) X
    refine xg 2 g J rfl rfl λU J=>aI b J ?_ rfl;exact xg 1 g J rfl rfl λU J=>ng 1 b J rfl rfl λU J=>c (decide (122<(o.toNat:Int))) G U w (J.sub _ rfl) X
   exact ng 7 b J rfl rfl λU J=>c false G U w (J.sub _ rfl) X
  exact xg 8 a J rfl rfl λU J=>xO 3 rfl J rfl λU J=>xk 2 J rfl λU J=>xO 1 rfl J rfl λU J=>bO rfl J rfl λU J=>wpList_nil (c false G U w (J.sub _ rfl) X)
 cases G;exact wp_exit (D (n _ rfl) U w (J.sub _ rfl) X)
theorem wN {a0 a1 A0 n0 c0 y} (G:jU a0 a1=some y) (X:SH r (L) w) :
  Ret Tryz.prog 72 #[.agg #[str a0.f0,.slice A0 n0 c0,bGj a0.f2],str a1] w λv w'=>v=bGj y/\SH r (L) w':=by
 refine enter Tryz.func72 rfl Tryz.ntmps72 [(0,_),(1,_)] rfl (by simp) ?_;intro U J Qf a o;unfold jU at G;refine ws λi b=>lE J X rfl λj U w X J=>x_m J rfl λU J=>wn (b _ _ ?_);refine wp_seq_k λk c=>aA λl d=>ws λm e=>aM aLo J rfl λU J=>aK uu9 (X.cell 0 rfl 0 _ rfl) J rfl λU J=>x_m J rfl λU J=>x_v J (bGp aQ2 J rfl) rfl λU J=>x_m J rfl λU J=>wn (e _ _ ?_);refine aY J G rfl (λf G=>?_) λf G=>?_
 ·refine nz 1 J rfl λU J=>?_;replace X:=X.drop 0;cases G;exact wp_ret (a _ _ (lv Tryz.results72 J rfl ⟨rfl,X⟩))
 refine ws λn g=>aM aLo J rfl λU J=>aK uu9 (X.cell 0 rfl 0 _ rfl) J rfl λU J=>x_m J rfl λU J=>x_v J (bGp bC8 J rfl) rfl λU J=>x_m J rfl λU J=>wn (g _ _ ?_);refine aY J G rfl (λh G=>?_) λh G=>?_
 ·refine nz 1 J rfl λU J=>?_;replace X:=X.drop 0;cases G;exact wp_ret (a _ _ (lv Tryz.results72 J rfl ⟨rfl,X⟩))
 refine wp_skip (d _ _ ?_);refine c _ _ (nz 1 J rfl λU J=>?_);replace X:=X.drop 0;cases G;exact wp_ret (a _ _ (lv Tryz.results72 J rfl ⟨rfl,X⟩))
theorem lA {a0 a1 A0 n0 c0 y} (G:bM a0 a1=some y) (X:SH r (L) w) (d:RdL L (kL kp98 (λx:S98=>x.f1)) A0 n0 c0 a0) :
  Ret Tryz.prog 71 #[.slice A0 n0 c0,str a1,.func (.func 72) #[] #[]] w λv w'=>v=.tuple #[(bGj y.1),(.bool y.2)]/\SH r (L) w':=by
 refine enter Tryz.func71 rfl Tryz.ntmps71 [(0,_),(1,_),(2,_)] rfl (by simp) ?_;intro U J Qf A d0;unfold bM at G;refine nz 2 J rfl λU J=>ws λb5 D=>xk 1 J rfl λU J=>aX iK (X.rdl 0 d rfl).2.1 J rfl λU J=>x_m J rfl λU J=>wn (D _ _ ?_);refine nz 3 J rfl λU J=>wp_seq_k λb6 E=>aA λl F=>?_;have b4:∀e,bX a0 a1 e=some y->∀U w,FR 49 [] U [(0,.slice A0 n0 c0),(1,str a1),(2,.func (.func 72) #[] #[]),(8,bGj (a0.length:Int)),(9,bGj e)]->SH r (L) w->l U w:=by
  intro e G U w J X;unfold bX at G;refine F _ _ (E _ _ ?_);refine ws λb7 m=>xk 5 J rfl λU J=>bcG G (λa G=>?_) λa G=>?_
  ·refine xg 3 a J rfl rfl λU J=>aI a J ?_ rfl;obtain⟨n,o,G⟩:=bnd G;refine dT iK oD (X.rdl 0 d rfl) o J rfl λU J=>aI a J ?_ rfl;obtain⟨cs,b,H⟩:=el (X.rdl 0 d rfl) o;obtain⟨⟨I,K,M⟩,b,b8⟩:=b;obtain rfl:=b;refine hY (cs:=[str n.f0,.slice I K M,bGj n.f2]) aPy oD (λj u h=>by rw [gM];exact H _ _ h) J rfl λU J=>xg 1 a J rfl rfl λU J=>aI a J ?_ rfl;obtain⟨b9,N,G⟩:=bnd G;refine x_c bCj J rfl (wN N X :) λv U w k J=>?_;obtain⟨rfl,X⟩:=k;refine ng 4 a J rfl rfl λU J=>?_;cases G;refine m _ _ (wp_ret ?_);refine A _ _ (lv2 Tryz.results71 J rfl rfl ?_);exact⟨rfl,X⟩
  refine ng 11 a J rfl rfl λU J=>?_;cases G;refine m _ _ (wp_ret ?_);refine A _ _ (lv2 Tryz.results71 J rfl rfl ?_);exact⟨rfl,X⟩
 obtain⟨O,P,G⟩:=bnd G;have Q:∀c,(c)=O->∀U w,FR 49 [] U [(0,.slice A0 n0 c0),(1,str a1),(2,.func (.func 72) #[] #[]),(8,bGj (a0.length:Int)),(9,bGj c)]->SH r (L) w->l U w:=by intro c ht U w J X;subst ht;replace G:bS a0 a1 c=some y:=G;unfold bS at G;exact b4 c G U w (J.sub _ rfl) X
 refine aT P (λs U w=>FR 49 [] U [(0,.slice A0 n0 c0),(1,str a1),(2,.func (.func 72) #[] #[]),(8,bGj (a0.length:Int)),(9,bGj s.1),(10,bGj s.2)]/\SH r (L) w) ⟨J.sub _ rfl,X⟩ ?_;intro c1 R p G S T U w B;obtain⟨f,q⟩:=R;replace G:aW a0 a1 f q=some p:=G;unfold aW at G
 try dsimp only at B
 obtain⟨J,X⟩:=B;refine wp_seq_k λc2 W=>nz 3 J rfl λU J=>aY J G rfl (λY G=>?_) λY G=>?_
 ·refine wp_skip (W _ _ ?_);refine aA λZ a2=>?_;have C:∀g i,bG g i=some p->∀U w,FR 49 [] U [(0,.slice A0 n0 c0),(1,str a1),(2,.func (.func 72) #[] #[]),(8,bGj (a0.length:Int)),(9,bGj g),(10,bGj i)]->SH r (L) w->Z U w:=by intro g i G U w J X;unfold bG at G;cases G;exact a2 _ _ ⟨_,S _ rfl,J.sub _ rfl,X⟩
  refine ws λc3 a3=>xk 2 J rfl λU J=>x_l G J rfl λc4 _ U J G=>eD G J (aQ uu3 aQ8 rfl (J.ev rfl)) rfl λc5 _ U J G=>eD G J (bGp uG J rfl (by decide)) rfl λc6 _ U J G=>eD G J (aQ aQ8 uu3 rfl (J.ev rfl)) rfl λa4 _ U J G=>x_m J rfl λU J=>wn (a3 _ _ ?_);refine ws λc7 a5=>xk 3 J rfl λU J=>?_;obtain⟨t,z,G⟩:=bnd G;refine dT iK oD (X.rdl 0 d rfl) z J rfl λU J=>?_;obtain⟨cs,b,a6⟩:=el (X.rdl 0 d rfl) z;obtain⟨⟨a7,a8,a9⟩,b,c8⟩:=b;obtain rfl:=b;refine hY (cs:=[str t.f0,.slice a7 a8 a9,bGj t.f2]) aPy oD (λj u h=>by rw [gM];exact a6 _ _ h) J rfl λU J=>x_m J rfl λU J=>?_;obtain⟨c9,b1,G⟩:=bnd G;refine x_c bCj J rfl (wN b1 X :) λv U w k J=>?_;obtain⟨rfl,X⟩:=k;refine nk 1 J rfl λU J=>a5 _ _ (aY J G rfl (λb2 G=>?_) λb2 G=>?_)
  ·refine aC (x_m J rfl λU J=>?_);exact x_l G J rfl λb3 _ U J G=>x_m J rfl λU J=>wpList_nil (C b3 q G U w (J.sub _ rfl) X)
  refine aC (nk 2 J rfl λU J=>?_);exact C f a4 G U w (J.sub _ rfl) X
 cases G;exact wp_exit (Q f (T _ rfl) U w (J.sub _ rfl) X)
theorem jS {a0 a1 g0 A0_0 n0_0 c0_0 y} (G:eP a0 a1=some y) (X:SH r (blk g0 77 [.slice A0_0 n0_0 c0_0,bGj a0.f1,bGj a0.f2,.bool a0.f3,bGj a0.f4]::bGn A0_0 n0_0 c0_0 a0.f0::L) w) :
  Ret Tryz.prog 44 #[pP g0,str a1] w λv w'=>v=.tuple #[(bGj y.1),(.bool y.2)]/\SH r (blk g0 77 [.slice A0_0 n0_0 c0_0,bGj a0.f1,bGj a0.f2,.bool a0.f3,bGj a0.f4]::bGn A0_0 n0_0 c0_0 a0.f0::L) w':=by
 refine enter Tryz.func44 rfl Tryz.ntmps44 [(0,_),(1,_)] rfl (by simp) ?_;intro U J Qf c g;unfold eP at G;refine nz 2 J rfl λU J=>ws λe a=>xk 2 J rfl λU J=>aM nZ J rfl λU J=>aK iK (X.cell 0 rfl 0 _ rfl) J rfl λU J=>x_m J rfl λU J=>?_;obtain⟨f,b,G⟩:=bnd G;refine x_c bFl J rfl (lA b X (RdL.own2 1 rfl (X.dropN 0)) :) λv U w d J=>?_;obtain⟨rfl,X⟩:=d;refine nk 4 J rfl λU J=>?_;replace X:=X.bGo [1,1];cases G;refine a _ _ (wp_ret ?_);refine c _ _ (lv2 Tryz.results44 J rfl rfl ?_);exact⟨rfl,X⟩
theorem fB {a0 a1 p0 y} (G:cU a0 a1=some y) (X:SH r (tQ (obj77) p0 a0::L) w) :
  Ret Tryz.prog 43 #[.pointer p0,str a1] w λv w'=>v=bGj y/\SH r (tQ (obj77) p0 a0::L) w':=by
 refine enter Tryz.func43 rfl Tryz.ntmps43 [(0,_),(1,_)] rfl (by simp) ?_;intro U J Qf a M;unfold cU at G;cases a0 with
 | none =>
  have d:=SH.unoptN X;clear X;obtain⟨rfl,X⟩:=d;refine nz 1 J rfl λU J=>wp_seq_k λq s=>aA λt u=>ws λz e=>xk 1 J rfl λU J=>x_v (v:=.bool true) J (mC (p:=none) pE rfl (J.ev rfl) (J.ev rfl)) rfl λU J=>x_m J rfl λU J=>wn (e _ _ ?_);refine c_t (b:=true) rfl J ?_ rfl;refine nz 1 J rfl λU J=>?_;replace X:=SH.optN (obj77) X;cases G;exact wp_ret (a _ _ (lv Tryz.results43 J rfl ⟨rfl,X⟩))
 | some c =>
  have d:=SH.unoptS X;clear X;obtain⟨f,rfl,X⟩:=d;obtain⟨A,B,C,X⟩:=aH X;refine nz 1 J rfl λU J=>wp_seq_k λD g=>aA λE h=>ws λF i=>xk 1 J rfl λU J=>x_v (v:=.bool false) J (mC (p:=some ⟨f,0,none⟩) pE rfl (J.ev rfl) (J.ev rfl)) rfl λU J=>x_m J rfl λU J=>wn (i _ _ ?_);refine c_f (b:=false) rfl J ?_ rfl;refine ws λH j=>xk 1 J rfl λU J=>?_;obtain⟨I,k,G⟩:=bnd G;refine x_c bCi J rfl (aEy k X :) λv U w o J=>?_;obtain⟨rfl,X⟩:=o;refine nk 2 J rfl λU J=>j _ _ (aY J G rfl (λl G=>?_) λl G=>?_)
  ·refine nz 1 J rfl λU J=>?_;replace X:=SH.optS (aE (x:=c) (X.bGo [1,1]));cases G;exact wp_ret (a _ _ (lv Tryz.results43 J rfl ⟨rfl,X⟩))
  refine ws λK m=>xk 2 J rfl λU J=>aM aPa J rfl λU J=>aK uu4 (X.cell 0 rfl 3 _ rfl) J rfl λU J=>x_m J rfl λU J=>wn (m _ _ ?_);refine aY J G rfl (λn G=>?_) λn G=>?_
  ·refine nz 1 J rfl λU J=>?_;replace X:=SH.optS (aE (x:=c) (X.bGo [1,1]));cases G;exact wp_ret (a _ _ (lv Tryz.results43 J rfl ⟨rfl,X⟩))
  refine wp_skip (h _ _ ?_);refine g _ _ (nz 1 J rfl λU J=>?_);replace X:=SH.optS (aE (x:=c) (X.bGo [1,1]));cases G;exact wp_ret (a _ _ (lv Tryz.results43 J rfl ⟨rfl,X⟩))
theorem oE {a0 a y} (G:gW a0=some y) (X:SH r (obj77 a a0::L) w) :
  Ret Tryz.prog 101 #[pP a] w λv w'=>v=.bool y.1/\SH r (obj77 a y.2::L) w':=by
 refine enter Tryz.func101 rfl Tryz.ntmps101 [(0,_)] rfl (by simp) ?_;intro U J Qf q A;unfold gW at G;obtain⟨e,f,g,X⟩:=aH X;refine nz 1 J rfl λU J=>ws λs j=>xk 2 J rfl λU J=>aM aTv J rfl λU J=>aK uu3 (X.cell 0 rfl 4 _ rfl) J rfl λU J=>x_l G J rfl λd _ U J G=>xk 1 J rfl λU J=>aM aTv J rfl λU J=>eA 0 sz3 J X rfl rfl λU w X J=>wn (j _ _ ?_);refine wp_seq_k λk l=>?_;have i:∀b c,nN a0 d b c=some y->∀U w,FR 35 [] U [(0,(pP a))]->SH r (blk a 77 [.slice e f g,bGj a0.f1,bGj b,.bool c,bGj d]::bGn e f g a0.f0::L) w->k U w:=by intro b c G U w J X;unfold nN at G;refine l _ _ (ws λt m=>?_);refine xk 2 J rfl λU J=>aM aPa J rfl λU J=>aK uu4 (X.cell 0 rfl 3 _ rfl) J rfl λU J=>nk 2 J rfl λU J=>?_;replace X:=X.bGo [1,1];replace X:=aE (x:=(⟨a0.f0,a0.f1,b,c,d⟩:S77)) X;cases G;refine m _ _ (wp_ret ?_);refine q _ _ (lv Tryz.results101 J rfl ?_);exact⟨rfl,X⟩
 refine ws λu n=>xk 2 J rfl λU J=>aM aLm J rfl λU J=>aK uu3 (X.cell 0 rfl 2 _ rfl) J rfl λU J=>nk 1 J rfl λU J=>n _ _ (aY J G rfl (λo G=>?_) λo G=>?_)
 ·refine ws λz p=>xk 2 J rfl λU J=>aM aLm J rfl λU J=>aK uu3 (X.cell 0 rfl 2 _ rfl) J rfl λU J=>x_l G J rfl λh _ U J G=>xk 1 J rfl λU J=>aM aLm J rfl λU J=>eA 0 sz3 J X rfl rfl λU w X J=>wn (p _ _ ?_);refine aC (xk 3 J rfl λU J=>?_);exact aM aLm J rfl λU J=>aK uu3 (X.cell 0 rfl 2 _ rfl) J rfl λU J=>xk 2 J rfl λU J=>aM aPa J rfl λU J=>eA 0 sz4 J X rfl rfl λU w X J=>wpList_nil (i h (h==0) G U w (J.sub _ rfl) X)
 exact wp_skip (i a0.f2 a0.f3 G U w (J.sub _ rfl) X)
theorem aEh {a0 p0 y} (G:oS a0=some y) (X:SH r (tQ (obj77) p0 a0::L) w) :
  Ret Tryz.prog 106 #[.pointer p0] w λv w'=>v=bGj y/\SH r (tQ (obj77) p0 a0::L) w':=by
 refine enter Tryz.func106 rfl Tryz.ntmps106 [(0,_)] rfl (by simp) ?_;intro U J Qf z c0;unfold oS at G;cases a0 with
 | none =>
  have l:=SH.unoptN X;clear X;obtain⟨rfl,X⟩:=l;refine nz 1 J rfl λU J=>nz 1 J rfl λU J=>wp_seq_k λa6 B=>ws λa7 C=>xk 1 J rfl λU J=>x_v (v:=.bool false) J (aA6 (p:=none) pE rfl (J.ev rfl) (J.ev rfl)) rfl λU J=>wn (C _ _ ?_);refine c_f (b:=false) rfl J ?_ rfl;refine wp_skip (B _ _ ?_);refine nz 2 J rfl λU J=>?_;replace X:=SH.optN (obj77) X;cases G;exact wp_ret (z _ _ (lv Tryz.results106 J rfl ⟨rfl,X⟩))
 | some a =>
  have l:=SH.unoptS X;clear X;obtain⟨c,rfl,X⟩:=l;obtain⟨d,e,f,X⟩:=aH X;refine nz 1 J rfl λU J=>nz 1 J rfl λU J=>wp_seq_k λa8 D=>ws λa9 E=>xk 1 J rfl λU J=>x_v (v:=.bool true) J (aA6 (p:=some ⟨c,0,none⟩) pE rfl (J.ev rfl) (J.ev rfl)) rfl λU J=>wn (E _ _ ?_);refine c_t (b:=true) rfl J ?_ rfl;refine ws λb1 F=>xk 2 J rfl λU J=>aM nZ J rfl λU J=>aK iK (X.cell 0 rfl 0 _ rfl) J rfl λU J=>aX iK (X.rd2L 1 rfl).2.1 J rfl λU J=>x_m J rfl λU J=>wn (F _ _ ?_);refine aA λn H=>?_;have a5:∀i,sR i=some y->∀U w,FR 24 [] U [(0,(pP c)),(3,bGj i)]->SH r (blk c 77 [.slice d e f,bGj a.f1,bGj a.f2,.bool a.f3,bGj a.f4]::bGn d e f a.f0::L) w->n U w:=by intro i G U w J X;unfold sR at G;refine H _ _ (D _ _ ?_);refine nz 2 J rfl λU J=>?_;replace X:=SH.optS (aE (x:=a) (X.bGo [1,1]));cases G;exact wp_ret (z _ _ (lv Tryz.results106 J rfl ⟨rfl,X⟩))
  obtain⟨I,K,G⟩:=bnd G;have M:∀g,(g)=I->∀U w,FR 24 [] U [(0,(pP c)),(3,bGj g)]->SH r (blk c 77 [.slice d e f,bGj a.f1,bGj a.f2,.bool a.f3,bGj a.f4]::bGn d e f a.f0::L) w->n U w:=by intro g ht U w J X;subst ht;replace G:qR g=some y:=G;unfold qR at G;exact a5 g G U w (J.sub _ rfl) X
  refine aT K (λs U w=>FR 24 [] U [(0,(pP c)),(3,bGj s.1),(11,.slice d e f),(12,bGj (a.f0.length:Int)),(13,bGj s.2)]/\SH r (blk c 77 [.slice d e f,bGj a.f1,bGj a.f2,.bool a.f3,bGj a.f4]::bGn d e f a.f0::L) w) ⟨J.sub _ rfl,X⟩ ?_;intro b2 N O G P Q U w A;obtain⟨o,R⟩:=N;replace G:dR a o R=some O:=G;unfold dR at G
  try dsimp only at A
  obtain⟨J,X⟩:=A;refine nz 1 J rfl λU J=>wp_seq_k λb3 S=>aY J G rfl (λT G=>?_) λT G=>?_
  ·refine wp_skip (S _ _ ?_);refine wp_seq_k λb4 W=>aA λb5 Y=>ws λb6 Z=>?_;obtain⟨k,q,G⟩:=bnd G;refine dT iK oD (X.rd2L 1 rfl) q J rfl λU J=>?_;obtain⟨cs,m,a1⟩:=el (X.rd2L 1 rfl) q;obtain⟨⟨a2,t,a3⟩,m,a4⟩:=m;obtain rfl:=m;refine hY (cs:=[str k.f0,.slice a2 t a3,bGj k.f2]) aPy oD (λj u h=>by rw [gM];exact a1 _ _ h) J rfl λU J=>eS (cs:=[str [],.slice none 0 0,bGj 0]) aXu J X rfl λb7 U w X J=>eA 0 oD J X rfl rfl λU w X J=>wn (Z _ _ ?_);refine aC (x_m J rfl λU J=>?_);refine aM aIc J rfl λU J=>aK cN (X.cell 0 rfl 1 _ rfl) J rfl λU J=>aX cN (show k.f1.length=t from a4) J rfl λU J=>x_l G J rfl λb8 _ U J G=>x_m J rfl λU J=>wpList_nil (Y _ _ ?_);refine W _ _ (aC ?_);refine x_l G J rfl λb9 _ U J G=>x_m J rfl λU J=>wpList_nil ?_;replace X:=X.drop 0;cases G;exact⟨_,P _ rfl,J.sub _ rfl,X⟩
  cases G;exact wp_exit (M o (Q _ rfl) U w (J.sub _ rfl) X)
theorem yR {a0 p0 y} (G:lU a0=some y) (X:SH r (tQ (obj77) p0 a0::L) w) :
  Ret Tryz.prog 19 #[.pointer p0] w λv w'=>∃ (M:Option Addr) (N:Nat) (O:Nat),v=.slice M N O/\SH r (own kS 9 M N O y::tQ (obj77) p0 a0::L) w':=by
 refine enter Tryz.func19 rfl Tryz.ntmps19 [(0,_)] rfl (by simp) ?_;intro U J Qf P d9;unfold lU at G;cases a0 with
 | none =>
  have E:=SH.unoptN X;clear X;obtain⟨rfl,X⟩:=E;refine nz 1 J rfl λU J=>nz 1 J rfl λU J=>wp_seq_k λc4 R=>ws λc5 S=>xk 1 J rfl λU J=>x_v (v:=.bool false) J (aA6 (p:=none) pE rfl (J.ev rfl) (J.ev rfl)) rfl λU J=>wn (S _ _ ?_);refine c_f (b:=false) rfl J ?_ rfl;refine wp_skip (R _ _ ?_);refine nz 2 J rfl λU J=>?_;replace X:=(SH.optN (obj77) (SH.nil_own (d:=kS) (e:=9) X)).pk 1;cases G;exact wp_ret (P _ _ (lv Tryz.results19 J rfl ⟨none,0,0,rfl,X⟩))
 | some a =>
  have E:=SH.unoptS X;clear X;obtain⟨c,rfl,X⟩:=E;obtain⟨f,g,i,X⟩:=aH X;refine nz 1 J rfl λU J=>nz 1 J rfl λU J=>wp_seq_k λc6 T=>ws λc7 W=>xk 1 J rfl λU J=>x_v (v:=.bool true) J (aA6 (p:=some ⟨c,0,none⟩) pE rfl (J.ev rfl) (J.ev rfl)) rfl λU J=>wn (W _ _ ?_);refine c_t (b:=true) rfl J ?_ rfl;refine ws λc8 Y=>xk 2 J rfl λU J=>aM nZ J rfl λU J=>aK iK (X.cell 0 rfl 0 _ rfl) J rfl λU J=>aX iK (X.rd2L 1 rfl).2.1 J rfl λU J=>x_m J rfl λU J=>wn (Y _ _ ?_);refine aA λH Z=>?_;have c3:∀D,sQ D=some y->∀m n o U w,FR 24 [] U [(0,(pP c)),(3,.slice m n o)]->SH r (blk c 77 [.slice f g i,bGj a.f1,bGj a.f2,.bool a.f3,bGj a.f4]::bGn f g i a.f0::own kS 9 m n o D::L) w->H U w:=by intro D G m n o U w J X;unfold sQ at G;refine Z _ _ (T _ _ ?_);refine nz 2 J rfl λU J=>?_;replace X:=(SH.optS (aE (x:=a) (X.bGo [1,1]))).pk 1;cases G;exact wp_ret (P _ _ (lv Tryz.results19 J rfl ⟨m,n,o,rfl,X⟩))
  obtain⟨a1,a2,G⟩:=bnd G;have a3:∀l,(l)=a1->∀q t z U w,FR 24 [] U [(0,(pP c)),(3,.slice q t z)]->SH r (blk c 77 [.slice f g i,bGj a.f1,bGj a.f2,.bool a.f3,bGj a.f4]::bGn f g i a.f0::own kS 9 q t z l::L) w->H U w:=by intro l ht q t z U w J X;subst ht;replace G:qQ l=some y:=G;unfold qQ at G;exact c3 l G q t z U w (J.sub _ rfl) X
  replace X:=(SH.nil_own (d:=kS) (e:=9) X).bGo [2,2];refine aT a2 (λs U w=>∃A B C,FR 24 [] U [(0,(pP c)),(3,.slice A B C),(11,.slice f g i),(12,bGj (a.f0.length:Int)),(13,bGj s.2)]/\SH r (blk c 77 [.slice f g i,bGj a.f1,bGj a.f2,.bool a.f3,bGj a.f4]::bGn f g i a.f0::own kS 9 A B C s.1::L) w) ⟨none,0,0,J.sub _ rfl,X⟩ ?_;intro c9 a4 a5 G a6 a7 U w Q;obtain⟨I,a8⟩:=a4;replace G:dQ a I a8=some a5:=G;unfold dQ at G
  try dsimp only at Q
  obtain⟨A,B,C,J,X⟩:=Q;refine nz 1 J rfl λU J=>wp_seq_k λd1 a9=>aY J G rfl (λb1 G=>?_) λb1 G=>?_
  ·refine wp_skip (a9 _ _ ?_);refine wp_seq_k λd2 b2=>aA λd3 b3=>ws λd4 b4=>?_;obtain⟨k,K,G⟩:=bnd G;refine dT iK oD (X.rd2L 1 rfl) K J rfl λU J=>?_;obtain⟨cs,F,b5⟩:=el (X.rd2L 1 rfl) K;obtain⟨⟨b6,b7,b8⟩,F,d5⟩:=F;obtain rfl:=F;refine hY (cs:=[str k.f0,.slice b6 b7 b8,bGj k.f2]) aPy oD (λj u h=>by rw [gM];exact b5 _ _ h) J rfl λU J=>eS (cs:=[str [],.slice none 0 0,bGj 0]) aXu J X rfl λd6 U w X J=>eA 0 oD J X rfl rfl λU w X J=>wn (b4 _ _ ?_);refine aC (x_m J rfl λU J=>?_);refine aM aLo J rfl λU J=>aK uu9 (X.cell 0 rfl 0 _ rfl) J rfl λU J=>jD (d:=kS) (e:=9) (ps:=#[(0,str k.f0)]) (cells:=[str k.f0]) (xs:=[k.f0]) (λw=>by kernel_rfl) rfl ⟨[str k.f0],_,rfl,rfl,rfl⟩ J X rfl λd7 U w X J=>?_;obtain⟨b9,G⟩:=aD G;have hr:=X.rd 0 rfl;refine jC 4 aR1 uL J X hr.1 hr.2.1 b9 rfl rfl λc0 c1 c2 U w X J=>x_m J rfl λU J=>wpList_nil (b3 _ _ ?_);refine b2 _ _ (aC ?_);refine x_l G J rfl λd8 _ U J G=>x_m J rfl λU J=>wpList_nil ?_;replace X:=X.drop 1 |>.drop 1 |>.bGo [2,2];cases G;exact⟨_,a6 _ rfl,c0,c1,c2,J.sub _ rfl,X⟩
  cases G;exact wp_exit (a3 I (a7 _ rfl) A B C U w (J.sub _ rfl) X)
theorem aGj {a0 y} (G:yI a0=some y) (X:SH r (L) w) :
  Ret Tryz.prog 10 #[bGj a0] w λv w'=>∃ (c:Option Addr),v=.tuple #[(.pointer c),(bGj y.2)]/\SH r (tQ (obj77) c y.1::L) w':=by
 refine enter Tryz.func10 rfl Tryz.ntmps10 [(0,_)] rfl (by simp) ?_;intro U J Qf f q;unfold yI at G;refine nz 2 J rfl λU J=>wp_seq_k λo i=>wp_seq_k λj k=>?_;have h:∀a,vC a0 a=some y->∀U w,FR 13 [] U [(0,bGj a0),(9,.bool a)]->SH r (L) w->j U w:=by
  intro a G U w J X;unfold vC at G;refine k _ _ (aY J G rfl (λl G=>?_) λl G=>?_)
  ·refine nz 2 J rfl λU J=>?_;replace X:=SH.optN (obj77) X;cases G;exact wp_ret (f _ _ (lv2 Tryz.results10 J rfl rfl ⟨none,rfl,X⟩))
  refine wp_skip (i _ _ ?_);refine ws λp m=>xk 1 J rfl λU J=>x_v (v:=.agg #[.slice none 0 0,bGj a0,bGj 0,.bool false,bGj 0]) J (iZ (ps:=#[(1,bGj a0)]) rfl (lN J rfl) (λw=>by kernel_rfl)) rfl λU J=>lE J X rfl λn U w X J=>nk 2 J rfl λU J=>?_;replace X:=aUj (dp:=kp98) (d:=(kI .u8)) (e':=5) (g:=(λx:S98=>x.f1)) (e:=98) X;replace X:=X.pk 1;replace X:=SH.optS (aE (x:=(⟨[],a0,0,false,0⟩:S77)) X);cases G;refine m _ _ (wp_ret ?_);refine f _ _ (lv2 Tryz.results10 J rfl rfl ?_);exact⟨some ⟨n,0,none⟩,rfl,X⟩
 refine aC (xk 3 J rfl λU J=>?_);refine bcG G (λb G=>?_) λb G=>?_
 ·exact ng 3 b J rfl rfl λU J=>h true G U w (J.sub _ rfl) X
 exact ng 3 b J rfl rfl λU J=>h (decide (16777216<a0)) G U w (J.sub _ rfl) X
theorem aB8 {a0 a1 a2 p0 A2 n2 c2 y} (G:pM a0 a1 a2=some y) (X:SH r (tQ (obj77) p0 a0::L) w) (B:RdL L (kI .u8) A2 n2 c2 a2) :
  Ret Tryz.prog 86 #[.pointer p0,str a1,.slice A2 n2 c2] w λv w'=>v=bGj y.1/\SH r (tQ (obj77) p0 y.2::L) w':=by
 refine enter Tryz.func86 rfl Tryz.ntmps86 [(0,_),(1,_),(2,_)] rfl (by simp) ?_;intro U J Qf C g8;unfold pM at G;cases a0 with
 | none =>
  have P:=SH.unoptN X;clear X;obtain⟨rfl,X⟩:=P;refine nz 1 J rfl λU J=>wp_seq_k λe2 a6=>ws λe3 a7=>xk 2 J rfl λU J=>?_;replace X:=SH.optN (obj77) X;obtain⟨e4,a8,G⟩:=bnd G;refine x_c aLj J rfl (fB a8 X :) λv U w o J=>?_;obtain⟨rfl,X⟩:=o;refine x_m J rfl λU J=>wn (a7 _ _ ?_);refine nz 2 J rfl λU J=>aY J G rfl (λa9 G=>?_) λa9 G=>?_
  ·refine nz 2 J rfl λU J=>?_;replace X:=(SH.optN (obj77) X).drop 1;cases G;exact wp_ret (C _ _ (lv Tryz.results86 J rfl ⟨rfl,X⟩))
  refine wp_skip (a6 _ _ ?_);refine ws λe5 e6=>xk 2 J rfl λU J=>?_;cases G
 | some i =>
  have P:=SH.unoptS X;clear X;obtain⟨b,rfl,X⟩:=P;obtain⟨e7,e8,e9,X⟩:=aH X;refine nz 1 J rfl λU J=>wp_seq_k λf5 b1=>ws λf6 b2=>xk 2 J rfl λU J=>?_;replace X:=SH.optS (aE (x:=i) (X.bGo [1,1]));obtain⟨f7,b3,G⟩:=bnd G;refine x_c aLj J rfl (fB b3 X :) λv U w o J=>?_;obtain⟨rfl,X⟩:=o;obtain⟨f8,f9,g0,X⟩:=aH (SH.unoptP X);refine x_m J rfl λU J=>wn (b2 _ _ ?_);refine nz 2 J rfl λU J=>aY J G rfl (λb4 G=>?_) λb4 G=>?_
  ·refine nz 2 J rfl λU J=>?_;replace X:=SH.optS (aE (x:=i) (X.bGo [1,1]));cases G;exact wp_ret (C _ _ (lv Tryz.results86 J rfl ⟨rfl,X⟩))
  refine wp_skip (b1 _ _ ?_);refine ws λg1 b5=>xk 2 J rfl λU J=>?_;replace X:=X.bGo [1,1];obtain⟨a,b6,G⟩:=bnd G;refine x_c aRx J rfl (jS b6 X :) λv U w o J=>?_;obtain⟨rfl,X⟩:=o;refine nk 5 J rfl λU J=>b5 _ _ (wp_seq_k λg2 b7=>?_);refine wp_seq_k λb8 b9=>?_;have Q:∀D,eH a1 a2 i a D=some y->∀E F H U w,FR 80 [] U [(0,(pP b)),(1,str a1),(2,.slice A2 n2 c2),(8,bGj a.1),(9,.bool a.2),(44,.bool D)]->SH r (blk b 77 [.slice E F H,bGj i.f1,bGj i.f2,.bool i.f3,bGj i.f4]::bGn E F H i.f0::L) w->b8 U w:=by
   intro D G E F H U w J X;unfold eH at G;refine b9 _ _ (aY J G rfl (λc0 G=>?_) λc0 G=>?_)
   ·refine nz 1 J rfl λU J=>?_;replace X:=SH.optS (aE (x:=i) (X.bGo [1,1]));cases G;exact wp_ret (C _ _ (lv Tryz.results86 J rfl ⟨rfl,X⟩))
   refine wp_skip (b7 _ _ ?_);refine ws λg3 c1=>xk 1 J rfl λU J=>?_;replace X:=aE (x:=i) (X.bGo [1,1]);obtain⟨j,c3,G⟩:=bnd G;refine x_c aQg J rfl (oE c3 X :) λv U w o J=>?_;obtain⟨rfl,X⟩:=o;obtain⟨S,T,W,X⟩:=aH X;refine x_m J rfl λU J=>wn (c1 _ _ ?_);refine wp_seq_k λc4 c5=>?_;have a5:∀q,gZ a2 a j q=some y->∀p s t U w,FR 80 [] U [(0,(pP b)),(2,.slice A2 n2 c2),(8,bGj a.1),(10,.bool j.1)]->SH r (blk b 77 [.slice p s t,bGj j.2.f1,bGj j.2.f2,.bool j.2.f3,bGj j.2.f4]::bGn p s t q::L) w->c4 U w:=by
    intro q G p s t U w J X;unfold gZ at G;refine c5 _ _ (wp_seq_k λg4 c6=>?_);refine wD [0,1,3,7,0,0,32,96,224,0,992,2016,4064,0,16352,32767,65535,131071] [14,17] rfl J X (by kernel_rfl) λw X=>?_;obtain⟨n,I,G⟩:=bnd G;have R:=X;obtain⟨g5,c7,c8,c9,Y,M,X⟩:=aA0 (X.pk 1) I;obtain⟨cs,hV,d0⟩:=el (X.rd 0 rfl) M;obtain rfl:=hV;refine⟨[(0,(pP b)),(1,(pP b)),(2,(pP b)),(3,.slice p s t),(4,bGj a.1),(5,(pP b)),(6,(pP b)),(7,(pP b)),(8,.slice p s t),(9,bGj a.1),(10,.pointer (some (ea p (a.1.toNat * 3)))),(11,.pointer (some (ea p (a.1.toNat * 3+1)))),(12,.slice c7 c8 c9),(13,.slice A2 n2 c2)],?_⟩;refine dF [0,1,2,3,4,5,6,7,8,9,10,11,12,13] [14] (by kernel_rfl) ⟨pm rfl,pt [(61,_)] rfl (λU J=>aN rfl (J.ev rfl)),pt [(62,_)] rfl (λU J=>aR nZ J rfl rfl),pt [(63,_)] rfl (λU J=>aS iK (R.cell 0 rfl 0 _ rfl) J rfl rfl rfl),pm rfl,pm rfl,pt [(66,_)] rfl (λU J=>aN rfl (J.ev rfl)),pt [(67,_)] rfl (λU J=>aR nZ J rfl rfl),pt [(68,_)] rfl (λU J=>aS iK (R.cell 0 rfl 0 _ rfl) J rfl rfl rfl),pm rfl,pt [(69,_),(70,_)] rfl (λU J=>fE iK oD (R.rd2L 1 rfl) I J rfl rfl rfl),pt [(71,_)] rfl (λU J=>kR (m:=a.1.toNat * 3) aIc J rfl rfl),pt [(72,_)] rfl (λU J=>aS cN (d0 1 _ rfl) J rfl rfl rfl),pm rfl,trivial⟩ ⟨et [(73,_),(74,_)] rfl (λU J K hK=>?_),trivial⟩;obtain⟨d1,G⟩:=aD G;have hr:=X.rdl 4 B rfl;refine cJ 1 aF9 cN J X hr.1 hr.2.1 d1 rfl rfl λZ a3 a4 w X=>hK _ [(15,.pointer (some (ea p (a.1.toNat * 3)))),(16,.pointer (some (ea p (a.1.toNat * 3+1))))] _ rfl (dF [0,1,2,3,4,15,16] [17] (by kernel_rfl) ⟨pm rfl,pt [(61,_)] rfl (λU J=>aN rfl (J.ev rfl)),pt [(62,_)] rfl (λU J=>aR nZ J rfl rfl),pt [(63,_)] rfl (λU J=>aS iK (X.cell 3 rfl 0 _ rfl) J rfl rfl rfl),pm rfl,pt [(64,_),(65,_)] rfl (λU J=>fE iK oD (X.rdp 1 rfl Y) I J rfl rfl rfl),pt [(76,_)] rfl (λU J=>kR (m:=a.1.toNat * 3) aIc J rfl rfl),trivial⟩ ⟨et [(75,_),(77,_)] rfl (λU J K hK=>?_),trivial⟩);refine aOj (z':=((⟨n.f0,n.f1++a2,n.f2⟩:S98),Z,a3,a4)) (off:=1) (vs:=[.slice Z a3 a4]) 1 aFt J X rfl (jL M).2.2 (λc h=>by cases h;rfl) (λw X=>?_) rfl rfl rfl rfl rfl rfl;replace X:=X.bGo [2,2,2];replace X:=aL2 (g:=(λx:S98=>x.f1)) (x':=(⟨n.f0,n.f1++a2,n.f2⟩:S98)) Y M X;refine hK _ [] _ rfl (rF [] (by kernel_rfl) trivial ⟨by kernel_rfl,by kernel_rfl⟩ [(0,_),(10,_)] rfl (λU J=>?_));refine c6 _ _ (wp_seq_k λg6 d2=>?_);refine nz 2 J rfl λU J=>aY J G rfl (λd3 G=>?_) λd3 G=>?_
    ·refine nz 1 J rfl λU J=>?_;replace X:=X.pk 1;replace X:=SH.optS (aE (x:=(⟨q.set a.1.toNat (⟨n.f0,n.f1++a2,n.f2⟩:S98),j.2.f1,j.2.f2,j.2.f3,j.2.f4⟩:S77)) X);cases G;exact wp_ret (C _ _ (lv Tryz.results86 J rfl ⟨rfl,X⟩))
    refine wp_skip (d2 _ _ ?_);refine nz 1 J rfl λU J=>?_;replace X:=X.pk 1;replace X:=SH.optS (aE (x:=(⟨q.set a.1.toNat (⟨n.f0,n.f1++a2,n.f2⟩:S98),j.2.f1,j.2.f2,j.2.f3,j.2.f4⟩:S77)) X);cases G;exact wp_ret (C _ _ (lv Tryz.results86 J rfl ⟨rfl,X⟩))
   refine nz 2 J rfl λU J=>aY J G rfl (λd4 G=>?_) λd4 G=>?_
   ·refine aC (xk 3 J rfl λU J=>?_);refine aM nZ J rfl λU J=>aK iK (X.cell 0 rfl 0 _ rfl) J rfl λU J=>xk 2 J rfl λU J=>x_v (v:=.agg #[str a1,.slice none 0 0,bGj 0]) J (iZ (ps:=#[(0,str a1)]) rfl (lN J rfl) (λw=>by kernel_rfl)) rfl λU J=>?_;replace X:=SH.nil_own (d:=(kI .u8)) (e:=5) X;refine jD (d:=kp98) (e:=98) (ps:=#[(0,.agg #[str a1,.slice none 0 0,bGj 0])]) (cells:=[str a1,.slice none 0 0,bGj 0]) (xs:=[((⟨a1,[],0⟩:S98),none,0,0)]) (λw=>by kernel_rfl) rfl ⟨[str a1,.slice none 0 0,bGj 0],_,rfl,rfl,rfl⟩ J X rfl λg7 U w X J=>?_;replace X:=aNt (g:=(λx:S98=>x.f1)) (x:=(⟨a1,[],0⟩:S98)) X;replace X:=X.pk 2;obtain⟨d5,d6,G⟩:=bnd G;refine x_c bCr J rfl (aXz (L:=blk b 77 [.slice S T W,bGj j.2.f1,bGj j.2.f2,.bool j.2.f3,bGj j.2.f4]::L) j.2.f0 a.1 [(⟨a1,[],0⟩:S98)] d6 X) λv U w o J=>?_;obtain⟨d7,d8,d9,rfl,X⟩:=o;exact xk 1 J rfl λU J=>aM nZ J rfl λU J=>eA 1 aW8 J X rfl rfl λU w X J=>wpList_nil (a5 d5 G d7 d8 d9 U w (J.sub _ rfl) X)
   exact wp_skip (a5 j.2.f0 G S T W U w (J.sub _ rfl) X)
  refine wD [0,1,0,4,12,28,0,64,252,511,1023,2047,4095,8191,16383,32767,65535,131071,262143,524287,1048575,2097151] [7] rfl J X (by kernel_rfl) λw X=>⟨[(0,.slice A2 n2 c2),(1,bGj (a2.length:Int)),(2,(pP b)),(3,(pP b)),(4,.pointer (some ⟨b,1,none⟩)),(5,bGj i.f1),(6,(pP b))],?_⟩;refine dF [0,1,2,3,4,5,6] [7] (by kernel_rfl) ⟨pm rfl,pt [(23,_)] rfl (λU J=>sO cN (X.rdl 2 B rfl).2.1 J rfl rfl),pm rfl,pt [(25,_)] rfl (λU J=>aN rfl (J.ev rfl)),pt [(26,_)] rfl (λU J=>aR aLl J rfl rfl),pt [(27,_)] rfl (λU J=>aS uu3 (X.cell 0 rfl 1 _ rfl) J rfl rfl rfl),pm rfl,trivial⟩ ⟨et [(29,_)] rfl (λU J K hK=>?_),trivial⟩;replace X:=SH.optS (aE (x:=i) (X.bGo [1,1]));obtain⟨N,e0,G⟩:=bnd G;refine eM bBo J (aEh e0 X :) rfl λv w o=>?_;obtain⟨rfl,X⟩:=o;obtain⟨u,z,A,X⟩:=aH (SH.unoptP X);obtain⟨f,O,G⟩:=gX G;refine bcG G (λk G=>?_) λk G=>?_
  ·refine hK _ [(8,bGj f),(9,.bool (decide (f<(a2.length:Int)))),(10,.bool (decide (f<(a2.length:Int)))),(11,undef),(12,undef),(13,undef),(14,undef),(15,undef),(16,undef),(17,undef),(18,undef),(19,undef),(20,undef),(21,.bool true)] _ rfl ?_;refine dZ [0,1,2,3,4,5,8,9,10,11,12,13,14,15,16,17,18,19,20,21] (by kernel_rfl) ⟨pm rfl,pt [(23,.slice A2 n2 c2)] rfl (λU J=>sO cN (X.rdl 2 B rfl).2.1 J rfl rfl),pm rfl,pt [(25,(pP b))] rfl (λU J=>aN rfl (J.ev rfl)),pt [(26,(pP b))] rfl (λU J=>aR aLl J rfl rfl),pt [(27,.pointer (some ⟨b,1,none⟩))] rfl (λU J=>aS uu3 (X.cell 0 rfl 1 _ rfl) J rfl rfl rfl),pt [(28,bGj i.f1),(30,bGj N)] rfl λU J=>cM O (bGp aAc J rfl),pt [(24,bGj (a2.length:Int)),(31,bGj f)] rfl (λU J=>aD9 rfl (J.ev rfl) (J.ev rfl)),pm rfl,bF rfl rfl rfl rfl [(9,.bool a.2),(33,.bool (decide (f<(a2.length:Int))))] rfl k rfl,bF rfl rfl rfl rfl [(33,.bool (decide (f<(a2.length:Int)))),(34,undef)] rfl k rfl,bF rfl rfl rfl rfl [(33,.bool (decide (f<(a2.length:Int)))),(35,undef)] rfl k rfl,rN rfl rfl rfl rfl [(0,(pP b)),(36,undef)] rfl rfl,rN rfl rfl rfl rfl [(36,undef),(37,undef)] rfl rfl,rN rfl rfl rfl rfl [(36,undef),(38,undef)] rfl rfl,rN rfl rfl rfl rfl [(36,undef),(39,undef)] rfl rfl,rN rfl rfl rfl rfl [(36,undef),(40,undef)] rfl rfl,rN rfl rfl rfl rfl [(36,undef),(41,undef)] rfl rfl,bF rfl rfl rfl rfl [(33,.bool (decide (f<(a2.length:Int)))),(36,undef),(42,undef)] rfl k rfl,pt [(33,.bool (decide (f<(a2.length:Int)))),(43,undef)] rfl (λU J=>nT k J rfl rfl rfl),trivial⟩ [(0,_),(1,_),(2,_),(8,_),(9,_),(44,_)] rfl (λU J=>?_);exact Q true G u z A U w (J.sub _ rfl) X
  refine bcG G (λl G=>?_) λl G=>?_
  ·refine hK _ [(8,bGj f),(9,.bool (decide (f<(a2.length:Int)))),(10,.bool (decide (f<(a2.length:Int)))),(11,.bool a.2),(12,.bool (!a.2)),(13,.bool (!a.2)),(14,(pP b)),(15,(pP b)),(16,(pP b)),(17,.slice u z A),(18,bGj (i.f0.length:Int)),(19,.bool (decide (500<=(i.f0.length:Int)))),(20,.bool (decide (500<=(i.f0.length:Int)))),(21,.bool (decide (500<=(i.f0.length:Int))))] _ rfl ?_;refine dZ [0,1,2,3,4,5,8,9,10,11,12,13,14,15,16,17,18,19,20,21] (by kernel_rfl) ⟨pm rfl,pt [(23,.slice A2 n2 c2)] rfl (λU J=>sO cN (X.rdl 2 B rfl).2.1 J rfl rfl),pm rfl,pt [(25,(pP b))] rfl (λU J=>aN rfl (J.ev rfl)),pt [(26,(pP b))] rfl (λU J=>aR aLl J rfl rfl),pt [(27,.pointer (some ⟨b,1,none⟩))] rfl (λU J=>aS uu3 (X.cell 0 rfl 1 _ rfl) J rfl rfl rfl),pt [(28,bGj i.f1),(30,bGj N)] rfl λU J=>cM O (bGp aAc J rfl),pt [(24,bGj (a2.length:Int)),(31,bGj f)] rfl (λU J=>aD9 rfl (J.ev rfl) (J.ev rfl)),pm rfl,cE rfl rfl rfl rfl [(9,.bool a.2),(33,.bool (decide (f<(a2.length:Int))))] rfl k (λU J=>fZ J rfl rfl) rfl,cE rfl rfl rfl rfl [(33,.bool (decide (f<(a2.length:Int)))),(34,.bool a.2)] rfl k (λU J=>aKi rfl (J.ev rfl)) rfl,cE rfl rfl rfl rfl [(33,.bool (decide (f<(a2.length:Int)))),(35,.bool (!a.2))] rfl k (λU J=>fZ J rfl rfl) rfl,cE rfl rfl rfl rfl [(0,(pP b)),(36,.bool (!a.2))] rfl l (λU J=>fZ J rfl rfl) rfl,cE rfl rfl rfl rfl [(36,.bool (!a.2)),(37,(pP b))] rfl l (λU J=>aN rfl (J.ev rfl)) rfl,cE rfl rfl rfl rfl [(36,.bool (!a.2)),(38,(pP b))] rfl l (λU J=>aR nZ J rfl rfl) rfl,cE rfl rfl rfl rfl [(36,.bool (!a.2)),(39,(pP b))] rfl l (λU J=>aS iK (X.cell 0 rfl 0 _ rfl) J rfl rfl rfl) rfl,cE rfl rfl rfl rfl [(36,.bool (!a.2)),(40,.slice u z A)] rfl l (λU J=>sO iK (X.rd2L 1 rfl).2.1 J rfl rfl) rfl,cE rfl rfl rfl rfl [(36,.bool (!a.2)),(41,bGj (i.f0.length:Int))] rfl l (λU J=>aYu rfl (J.ev rfl) (J.ev rfl)) rfl,cE rfl rfl rfl rfl [(33,.bool (decide (f<(a2.length:Int)))),(36,.bool (!a.2)),(42,.bool (decide (500<=(i.f0.length:Int))))] rfl k (λU J=>nT l J rfl rfl rfl) rfl,pt [(33,.bool (decide (f<(a2.length:Int)))),(43,.bool (decide (500<=(i.f0.length:Int))))] rfl (λU J=>oJ k J rfl rfl rfl),trivial⟩ [(0,_),(1,_),(2,_),(8,_),(9,_),(44,_)] rfl (λU J=>?_);exact Q (decide (500<=(i.f0.length:Int))) G u z A U w (J.sub _ rfl) X
  refine hK _ [(8,bGj f),(9,.bool (decide (f<(a2.length:Int)))),(10,.bool (decide (f<(a2.length:Int)))),(11,.bool a.2),(12,.bool (!a.2)),(13,.bool (!a.2)),(14,undef),(15,undef),(16,undef),(17,undef),(18,undef),(19,undef),(20,.bool false),(21,.bool false)] _ rfl ?_;refine dZ [0,1,2,3,4,5,8,9,10,11,12,13,14,15,16,17,18,19,20,21] (by kernel_rfl) ⟨pm rfl,pt [(23,.slice A2 n2 c2)] rfl (λU J=>sO cN (X.rdl 2 B rfl).2.1 J rfl rfl),pm rfl,pt [(25,(pP b))] rfl (λU J=>aN rfl (J.ev rfl)),pt [(26,(pP b))] rfl (λU J=>aR aLl J rfl rfl),pt [(27,.pointer (some ⟨b,1,none⟩))] rfl (λU J=>aS uu3 (X.cell 0 rfl 1 _ rfl) J rfl rfl rfl),pt [(28,bGj i.f1),(30,bGj N)] rfl λU J=>cM O (bGp aAc J rfl),pt [(24,bGj (a2.length:Int)),(31,bGj f)] rfl (λU J=>aD9 rfl (J.ev rfl) (J.ev rfl)),pm rfl,cE rfl rfl rfl rfl [(9,.bool a.2),(33,.bool (decide (f<(a2.length:Int))))] rfl k (λU J=>fZ J rfl rfl) rfl,cE rfl rfl rfl rfl [(33,.bool (decide (f<(a2.length:Int)))),(34,.bool a.2)] rfl k (λU J=>aKi rfl (J.ev rfl)) rfl,cE rfl rfl rfl rfl [(33,.bool (decide (f<(a2.length:Int)))),(35,.bool (!a.2))] rfl k (λU J=>fZ J rfl rfl) rfl,bF rfl rfl rfl rfl [(0,(pP b)),(36,.bool (!a.2))] rfl l rfl,bF rfl rfl rfl rfl [(36,.bool (!a.2)),(37,undef)] rfl l rfl,bF rfl rfl rfl rfl [(36,.bool (!a.2)),(38,undef)] rfl l rfl,bF rfl rfl rfl rfl [(36,.bool (!a.2)),(39,undef)] rfl l rfl,bF rfl rfl rfl rfl [(36,.bool (!a.2)),(40,undef)] rfl l rfl,bF rfl rfl rfl rfl [(36,.bool (!a.2)),(41,undef)] rfl l rfl,cE rfl rfl rfl rfl [(33,.bool (decide (f<(a2.length:Int)))),(36,.bool (!a.2)),(42,undef)] rfl k (λU J=>oJ l J rfl rfl rfl) rfl,pt [(33,.bool (decide (f<(a2.length:Int)))),(43,.bool false)] rfl (λU J=>oJ k J rfl rfl rfl),trivial⟩ [(0,_),(1,_),(2,_),(8,_),(9,_),(44,_)] rfl (λU J=>?_);exact Q false G u z A U w (J.sub _ rfl) X
theorem yS {a0 a1 p0 y} (G:oQ a0 a1=some y) (X:SH r (tQ (obj77) p0 a0::L) w) :
  Ret Tryz.prog 20 #[.pointer p0,str a1] w λv w'=>∃ (j:Option Addr) (k:Nat) (l:Nat),v=.tuple #[(.slice j k l),(bGj y.2)]/\SH r (own (kI .u8) 5 j k l y.1::tQ (obj77) p0 a0::L) w':=by
 refine enter Tryz.func20 rfl Tryz.ntmps20 [(0,_),(1,_)] rfl (by simp) ?_;intro U J Qf c c0;unfold oQ at G;cases a0 with
 | none =>
  have f:=SH.unoptN X;clear X;obtain⟨rfl,X⟩:=f;refine nz 2 J rfl λU J=>wp_seq_k λR n=>ws λS o=>xk 2 J rfl λU J=>?_;replace X:=SH.optN (obj77) X;obtain⟨T,p,G⟩:=bnd G;refine x_c aLj J rfl (fB p X :) λv U w a J=>?_;obtain⟨rfl,X⟩:=a;refine x_m J rfl λU J=>wn (o _ _ ?_);refine nz 2 J rfl λU J=>aY J G rfl (λq G=>?_) λq G=>?_
  ·refine nz 3 J rfl λU J=>?_;replace X:=(SH.optN (obj77) (SH.nil_own (d:=(kI .u8)) (e:=5) X)).drop 2 |>.pk 1;cases G;exact wp_ret (c _ _ (lv2 Tryz.results20 J rfl rfl ⟨none,0,0,rfl,X⟩))
  refine wp_skip (n _ _ ?_);refine ws λW Y=>xk 2 J rfl λU J=>?_;cases G
 | some b =>
  have f:=SH.unoptS X;clear X;obtain⟨Z,rfl,X⟩:=f;obtain⟨a2,a3,a4,X⟩:=aH X;refine nz 2 J rfl λU J=>wp_seq_k λa5 s=>ws λa6 t=>xk 2 J rfl λU J=>?_;replace X:=SH.optS (aE (x:=b) (X.bGo [1,1]));obtain⟨a7,u,G⟩:=bnd G;refine x_c aLj J rfl (fB u X :) λv U w a J=>?_;obtain⟨rfl,X⟩:=a;obtain⟨a8,a9,b1,X⟩:=aH (SH.unoptP X);refine x_m J rfl λU J=>wn (t _ _ ?_);refine nz 2 J rfl λU J=>aY J G rfl (λz G=>?_) λz G=>?_
  ·refine nz 3 J rfl λU J=>?_;replace X:=(SH.optS (aE (x:=b) ((SH.nil_own (d:=(kI .u8)) (e:=5) X).bGo [2,2]))).pk 1;cases G;exact wp_ret (c _ _ (lv2 Tryz.results20 J rfl rfl ⟨none,0,0,rfl,X⟩))
  refine wp_skip (s _ _ ?_);refine ws λb2 A=>xk 2 J rfl λU J=>?_;replace X:=X.bGo [1,1];obtain⟨B,C,G⟩:=bnd G;refine x_c aRx J rfl (jS C X :) λv U w a J=>?_;obtain⟨rfl,X⟩:=a;refine nk 5 J rfl λU J=>A _ _ (wp_seq_k λb3 D=>?_);refine nz 2 J rfl λU J=>aY J G rfl (λE G=>?_) λE G=>?_
  ·refine nz 2 J rfl λU J=>?_;replace X:=(SH.optS (aE (x:=b) ((SH.nil_own (d:=(kI .u8)) (e:=5) X).bGo [2,2]))).pk 1;cases G;exact wp_ret (c _ _ (lv2 Tryz.results20 J rfl rfl ⟨none,0,0,rfl,X⟩))
  refine wp_skip (D _ _ ?_);refine ws λb4 F=>xk 2 J rfl λU J=>aM nZ J rfl λU J=>aK iK (X.cell 0 rfl 0 _ rfl) J rfl λU J=>x_m J rfl λU J=>?_;obtain⟨H,h,G⟩:=bnd G;refine dT iK oD (X.rd2L 1 rfl) h J rfl λU J=>xQ (m:=B.1.toNat * 3) aIc J (λU J=>?_) rfl rfl rfl rfl rfl;obtain⟨b5,b6,b7,b8,I,i,X⟩:=aA0 (X.pk 1) h;obtain⟨cs,Q,K⟩:=el (X.rd 0 rfl) i;obtain rfl:=Q;refine aK cN (K 1 _ rfl) J rfl λU J=>?_;obtain⟨b9,M,G⟩:=bnd G;refine x_c aZu J rfl (nU M X (RdL.own 1 rfl (X.dropN 0)) :) λv U w a J=>?_;obtain⟨N,O,P,rfl,X⟩:=a;refine nk 2 J rfl λU J=>?_;replace X:=X.bGo [3,3,3];replace X:=aUi (g:=(λx:S98=>x.f1)) (x:=H) I i X;replace X:=(SH.optS (aE (x:=b) (X.pk 2))).pk 1;cases G;refine F _ _ (wp_ret ?_);refine c _ _ (lv2 Tryz.results20 J rfl rfl ?_);exact⟨N,O,P,rfl,X⟩
end
noncomputable section
set_option linter.unusedSimpArgs false
def pQ (a0:Int) (a:S77):Option (S77):=(at_ a.f0 a0).bind λb=>(some (⟨a.f0.set a0.toNat (⟨b.f0,b.f1,(b.f1.length:Int)⟩:S98),a.f1,a.f2,a.f3,a.f4⟩:S77))
def nL (a0:Int) (a:S77):Option (S77):=ltt (IntKind.i64.wrap (a0+1)) λb=>((aV6 a.f0 a0 b).bind λc=>(some (⟨c,a.f1,a.f2,a.f3,a.f4⟩:S77)))
def nM (a0:Int) (a:S77) (a2:List UInt8):Option (S77×List UInt8):=(at_ a.f0 a0).bind λb=>(ltt (IntKind.i64.wrap (a0+1)) λd=>(chk (d=a0+1) ((eP (⟨a.f0.eraseIdx a0.toNat,a.f1,a.f2,a.f3,a.f4⟩:S77) a2).bind λc=>(if c.2=true then ((at_ (a.f0.eraseIdx a0.toNat) c.1).bind λf=>(some ((⟨(a.f0.eraseIdx a0.toNat).set c.1.toNat (⟨a2,b.f1,b.f2⟩:S98),a.f1,a.f2,a.f3,a.f4⟩:S77),a2))) else ((aPf (a.f0.eraseIdx a0.toNat) c.1 [(⟨a2,b.f1,b.f2⟩:S98)]).bind λe=>(some ((⟨e,a.f1,a.f2,a.f3,a.f4⟩:S77),a2)))))))
end
section
variable {r:World} {L:List HP} {w:World} {Z:Nat->Prop} {wz:World}
theorem aCb {a0 a1 g1 h1 y} (G:pQ a0 a1=some y) (X:SH r (blk g1 29 [pP h1]::obj77 h1 a1::L) w) :
  Ret Tryz.prog 107 #[bGj a0,(pP g1)] w λv w'=>v=.tuple #[]/\SH r (blk g1 29 [pP h1]::obj77 h1 y::L) w':=by
 refine enter Tryz.func107 rfl Tryz.ntmps107 [(0,_),(1,_)] rfl (by simp) ?_;intro U J Qf u q;unfold pQ at G;obtain⟨b,i,j,X⟩:=aH (X.pk 1);refine wD [0,1,3,7,0,0,32,96,224,0,992,2016,4064,8160,16383,32767,65535] [16] rfl J X (by kernel_rfl) λw X=>?_;obtain⟨a,e,G⟩:=bnd G;have d:=X;obtain⟨t,k,l,n,o,f,X⟩:=aA0 (X.pk 1) e;obtain⟨cs,s,p⟩:=el (X.rd 0 rfl) f;obtain rfl:=s;refine⟨[(0,(pP h1)),(1,(pP h1)),(2,(pP h1)),(3,.slice b i j),(4,bGj a0),(5,(pP h1)),(6,(pP h1)),(7,(pP h1)),(8,.slice b i j),(9,bGj a0),(10,.pointer (some (ea b (a0.toNat * 3)))),(11,.pointer (some (ea b (a0.toNat * 3+1)))),(12,.slice k l n),(13,bGj (a.f1.length:Int)),(14,.pointer (some (ea b (a0.toNat * 3)))),(15,.pointer (some (ea b (a0.toNat * 3+2))))],?_⟩;refine dF [0,1,2,3,4,5,6,7,8,9,10,11,12,13,14,15] [16] (by kernel_rfl) ⟨pt [(1,_)] rfl (λU J=>aS pE (d.cell 2 rfl 0 _ rfl) J rfl rfl rfl),pt [(3,_)] rfl (λU J=>aN rfl (J.ev rfl)),pt [(4,_)] rfl (λU J=>aR nZ J rfl rfl),pt [(5,_)] rfl (λU J=>aS iK (d.cell 0 rfl 0 _ rfl) J rfl rfl rfl),pm rfl,pt [(1,_)] rfl (λU J=>aS pE (d.cell 2 rfl 0 _ rfl) J rfl rfl rfl),pt [(8,_)] rfl (λU J=>aN rfl (J.ev rfl)),pt [(9,_)] rfl (λU J=>aR nZ J rfl rfl),pt [(10,_)] rfl (λU J=>aS iK (d.cell 0 rfl 0 _ rfl) J rfl rfl rfl),pm rfl,pt [(11,_),(12,_)] rfl (λU J=>fE iK oD (d.rd2L 1 rfl) e J rfl rfl rfl),pt [(13,_)] rfl (λU J=>kR (m:=a0.toNat * 3) aIc J rfl rfl),pt [(14,_)] rfl (λU J=>aS cN (p 1 _ rfl) J rfl rfl rfl),pt [(15,_)] rfl (λU J=>sO cN (X.rd 1 rfl).2.1 J rfl rfl),pt [(6,_),(7,_)] rfl (λU J=>fE iK oD (X.rdp 0 rfl o) e J rfl rfl rfl),pt [(17,_)] rfl (λU J=>kR (m:=a0.toNat * 3) aZ0 J rfl rfl),trivial⟩ ⟨et [(16,_),(18,_)] rfl (λU J K hK=>?_),trivial⟩;refine aOj (z':=((⟨a.f0,a.f1,(a.f1.length:Int)⟩:S98),k,l,n)) (off:=2) (vs:=[bGj (a.f1.length:Int)]) 0 sz3 J X rfl (jL f).2.2 (λc h=>by cases h;rfl) (λw X=>?_) rfl rfl rfl rfl rfl rfl;replace X:=X.bGo [2,2,2];replace X:=aL2 (g:=(λx:S98=>x.f1)) (x':=(⟨a.f0,a.f1,(a.f1.length:Int)⟩:S98)) o f X;refine hK _ [] _ rfl (rF [] (by kernel_rfl) trivial ⟨by kernel_rfl,by kernel_rfl⟩ [(1,_)] rfl (λU J=>?_));replace X:=X.pk 1;replace X:=(aE (x:=(⟨a1.f0.set a0.toNat (⟨a.f0,a.f1,(a.f1.length:Int)⟩:S98),a1.f1,a1.f2,a1.f3,a1.f4⟩:S77)) X).pk 1;cases G;refine q _ _ (aIo Tryz.results107 J ?_);exact⟨rfl,X⟩
theorem aBc {a0 a1 g1 h1 y} (G:nL a0 a1=some y) (X:SH r (blk g1 29 [pP h1]::obj77 h1 a1::L) w) :
  Ret Tryz.prog 79 #[bGj a0,(pP g1)] w λv w'=>v=.tuple #[]/\SH r (blk g1 29 [pP h1]::obj77 h1 y::L) w':=by
 refine enter Tryz.func79 rfl Tryz.ntmps79 [(0,_),(1,_)] rfl (by simp) ?_;intro U J Qf m h;unfold nL at G;obtain⟨a,b,c,X⟩:=aH (X.pk 1);refine wD [0,0,2,6,14,0,0,64,254,511,1023,2047] [8,11] rfl J X (by kernel_rfl) λw X=>?_;obtain⟨d,e,G⟩:=gX G;refine⟨[(0,(pP h1)),(1,(pP h1)),(2,(pP h1)),(3,(pP h1)),(4,.slice a b c),(5,bGj a0),(6,bGj a0),(7,bGj d)],?_⟩;refine dF [0,1,2,3,4,5,6,7] [8] (by kernel_rfl) ⟨pt [(1,_)] rfl (λU J=>aS pE (X.cell 2 rfl 0 _ rfl) J rfl rfl rfl),pt [(1,_)] rfl (λU J=>aS pE (X.cell 2 rfl 0 _ rfl) J rfl rfl rfl),pt [(4,_)] rfl (λU J=>aN rfl (J.ev rfl)),pt [(5,_)] rfl (λU J=>aR nZ J rfl rfl),pt [(6,_)] rfl (λU J=>aS iK (X.cell 0 rfl 0 _ rfl) J rfl rfl rfl),pm rfl,pm rfl,pt [(9,_)] rfl λU J=>cM e (bGp kW J rfl),trivial⟩ ⟨et [(7,_),(8,_),(10,_)] rfl (λU J K hK=>?_),trivial⟩;replace X:=X.pk 1;obtain⟨f,g,G⟩:=bnd G;refine eM bCm J (bA5 (L:=blk h1 77 [.slice a b c,bGj a1.f1,bGj a1.f2,.bool a1.f3,bGj a1.f4]::blk g1 29 [pP h1]::L) a1.f0 a0 d g X) rfl λv w i=>?_;obtain⟨j,k,l,rfl,X⟩:=i;refine hK _ [(9,(pP h1)),(10,(pP h1))] _ rfl (dF [0,9,10] [11] (by kernel_rfl) ⟨pt [(1,_)] rfl (λU J=>aS pE (X.cell 2 rfl 0 _ rfl) J rfl rfl rfl),pt [(3,_)] rfl (λU J=>aN rfl (J.ev rfl)),pt [(12,_)] rfl (λU J=>aR nZ J rfl rfl),trivial⟩ ⟨et [(11,_),(13,_)] rfl (λU J K hK=>?_),trivial⟩);refine jY 1 aW8 J X rfl rfl λw X=>hK _ [] _ rfl (rF [] (by kernel_rfl) trivial ⟨by kernel_rfl,by kernel_rfl⟩ [(1,_)] rfl (λU J=>?_));replace X:=X.bGo [1,1];replace X:=(aE (x:=(⟨f,a1.f1,a1.f2,a1.f3,a1.f4⟩:S77)) X).pk 1;cases G;refine h _ _ (aIo Tryz.results79 J ?_);exact⟨rfl,X⟩
theorem aBd {a0 a1 a2 g1 h1 g2 y} (G:nM a0 a1 a2=some y) (X:SH r (blk g1 29 [pP h1]::obj77 h1 a1::obj9 g2 a2::L) w) :
  Ret Tryz.prog 90 #[bGj a0,(pP g1),(pP g2)] w λv w'=>v=.tuple #[]/\SH r (blk g1 29 [pP h1]::obj77 h1 y.1::obj9 g2 y.2::L) w':=by
 refine enter Tryz.func90 rfl Tryz.ntmps90 [(0,_),(1,_),(2,_)] rfl (by simp) ?_;intro U J Qf hQ D;unfold nM at G;obtain⟨q,s,t,X⟩:=aH (X.pk 1);replace X:=uC (X.pk 3);refine ws λa3 E=>aK pE (X.cell 3 rfl 0 _ rfl) J rfl λU J=>xk 1 J rfl λU J=>aM nZ J rfl λU J=>aK iK (X.cell 1 rfl 0 _ rfl) J rfl λU J=>x_m J rfl λU J=>?_;obtain⟨a,z,G⟩:=bnd G;refine dT iK oD (X.rd2L 2 rfl) z J rfl λU J=>?_;obtain⟨a4,b,f,i,F,A,X⟩:=aA0 (X.pk 2) z;obtain⟨cs,Z,H⟩:=el (X.rd 0 rfl) A;obtain rfl:=Z;refine hY (cs:=[str a.f0,.slice b f i,bGj a.f2]) aPy oD (λj u h=>by rw [gM];exact H _ _ h) J rfl λU J=>eS (cs:=[str [],.slice none 0 0,bGj 0]) aXu J X rfl λm U w X J=>eA 0 oD J X rfl rfl λU w X J=>wn (E _ _ ?_);refine wp_seq_k λa5 I=>wD [0,0,2,6,14,0,0,64,254,511,1023,2047] [8,11] rfl J X (by kernel_rfl) λw X=>?_;obtain⟨M,N,G⟩:=gX G;refine⟨[(0,(pP h1)),(1,(pP h1)),(2,(pP h1)),(3,(pP h1)),(4,.slice q s t),(5,bGj a0),(6,bGj a0),(7,bGj M)],?_⟩;refine dF [0,1,2,3,4,5,6,7] [8] (by kernel_rfl) ⟨pt [(1,_)] rfl (λU J=>aS pE (X.cell 6 rfl 0 _ rfl) J rfl rfl rfl),pt [(1,_)] rfl (λU J=>aS pE (X.cell 6 rfl 0 _ rfl) J rfl rfl rfl),pt [(15,_)] rfl (λU J=>aN rfl (J.ev rfl)),pt [(16,_)] rfl (λU J=>aR nZ J rfl rfl),pt [(17,_)] rfl (λU J=>aS iK (X.cell 5 rfl 0 _ rfl) J rfl rfl rfl),pm rfl,pm rfl,pt [(20,_)] rfl λU J=>cM N (bGp kW J rfl),trivial⟩ ⟨et [(18,_),(19,_),(21,_)] rfl (λU J K hK=>?_),trivial⟩;replace X:=X.bGo [3,2];obtain⟨O,G⟩:=aD G;refine eM bCm J (aZb (L:=blk m 98 [str a.f0,.slice b f i,bGj a.f2]::own (kI .u8) 5 b f i a.f1::blk g2 9 [str a2]::blk h1 77 [.slice q s t,bGj a1.f1,bGj a1.f2,.bool a1.f3,bGj a1.f4]::blk g1 29 [pP h1]::L) O F A X) rfl λv w l=>?_;obtain⟨n,o,p,rfl,X⟩:=l;refine hK _ [(9,(pP h1)),(10,(pP h1))] _ rfl (dF [0,9,10] [11] (by kernel_rfl) ⟨pt [(1,_)] rfl (λU J=>aS pE (X.cell 5 rfl 0 _ rfl) J rfl rfl rfl),pt [(14,_)] rfl (λU J=>aN rfl (J.ev rfl)),pt [(23,_)] rfl (λU J=>aR nZ J rfl rfl),trivial⟩ ⟨et [(22,_),(24,_)] rfl (λU J K hK=>?_),trivial⟩);refine jY 4 aW8 J X rfl rfl λw X=>hK _ [] _ rfl (rF [] (by kernel_rfl) trivial ⟨by kernel_rfl,by kernel_rfl⟩ [(1,_),(2,_),(4,_)] rfl (λU J=>?_));refine I _ _ (ws λa6 P=>?_);refine aK uu9 (X.cell 4 rfl 0 _ rfl) J rfl λU J=>aM aLo J rfl λU J=>eA 2 sz9 J X rfl rfl λU w X J=>wn (P _ _ ?_);refine ws λa7 Q=>aK pE (X.cell 5 rfl 0 _ rfl) J rfl λU J=>aK uu9 (X.cell 4 rfl 0 _ rfl) J rfl λU J=>?_;replace X:=X.bGo [2,2];obtain⟨k,R,G⟩:=bnd G;refine x_c aRx J rfl (jS R X :) λv U w l J=>?_;obtain⟨rfl,X⟩:=l;refine nk 5 J rfl λU J=>Q _ _ (nz 1 J rfl λU J=>?_);refine aY J G rfl (λS G=>?_) λS G=>?_
 ·refine wD [0,1,3,7,0,0,63,127] [7] rfl J X (by kernel_rfl) λw X=>?_;obtain⟨a8,B,G⟩:=bnd G;refine⟨[(0,(pP h1)),(1,(pP h1)),(2,(pP h1)),(3,.slice n o p),(4,bGj k.1),(5,.agg #[str a2,.slice b f i,bGj a.f2]),(6,.pointer (some (ea n (k.1.toNat * 3))))],?_⟩;refine dF [0,1,2,3,4,5,6] [7] (by kernel_rfl) ⟨pt [(1,_)] rfl (λU J=>aS pE (X.cell 5 rfl 0 _ rfl) J rfl rfl rfl),pt [(34,_)] rfl (λU J=>aN rfl (J.ev rfl)),pt [(35,_)] rfl (λU J=>aR nZ J rfl rfl),pt [(36,_)] rfl (λU J=>aS iK (X.cell 0 rfl 0 _ rfl) J rfl rfl rfl),pm rfl,pt [(4,_)] rfl (λU J=>qD (ad:=⟨m,0,none⟩) (cs:=[str a2,.slice b f i,bGj a.f2]) aPy oD (λj u h=>by rw [gJ,Nat.zero_add];exact X.cell 2 rfl j u h) J rfl rfl rfl),pt [(37,_),(38,_)] rfl (λU J=>fE iK oD (X.rd2L 1 rfl) B J rfl rfl rfl),trivial⟩ ⟨et [(39,_),(40,_)] rfl (λU J K hK=>?_),trivial⟩;have b9:=X;obtain⟨a9,b1,b2,b3,T,C,X⟩:=aA0 (X.pk 1) B;refine aOj (z':=((⟨a2,a.f1,a.f2⟩:S98),b,f,i)) (off:=0) (vs:=[str a2,.slice b f i,bGj a.f2]) 0 oD J X rfl (jL C).2.2 (λc h=>by cases h;rfl) (λw X=>?_) rfl rfl rfl rfl rfl rfl;replace X:=X.bGo [2,5,2];replace X:=aL2 (g:=(λx:S98=>x.f1)) (x':=(⟨a2,a.f1,a.f2⟩:S98)) T C X;refine hK _ [] _ rfl (rF [] (by kernel_rfl) trivial ⟨by kernel_rfl,by kernel_rfl⟩ [(1,_),(2,_)] rfl (λU J=>?_));replace X:=X.pk 2;replace X:=(sG (x:=a2) ((aE (x:=(⟨(a1.f0.eraseIdx a0.toNat).set k.1.toNat (⟨a2,a.f1,a.f2⟩:S98),a1.f1,a1.f2,a1.f3,a1.f4⟩:S77)) X).pk 3)).drop 2 |>.drop 2 |>.bGo [1,2];cases G;refine D _ _ (aIo Tryz.results90 J ?_);exact⟨rfl,X⟩
 refine wD [0,0,2,6,14,0,0,64,254,511,1023,2047] [7,8,11] rfl J X (by kernel_rfl) λw X=>⟨[(0,(pP h1)),(1,(pP h1)),(2,(pP h1)),(3,(pP h1)),(4,.slice n o p),(5,bGj k.1),(6,.agg #[str a2,.slice b f i,bGj a.f2])],?_⟩;refine dF [0,1,2,3,4,5,6] [7] (by kernel_rfl) ⟨pt [(1,_)] rfl (λU J=>aS pE (X.cell 5 rfl 0 _ rfl) J rfl rfl rfl),pt [(1,_)] rfl (λU J=>aS pE (X.cell 5 rfl 0 _ rfl) J rfl rfl rfl),pt [(42,_)] rfl (λU J=>aN rfl (J.ev rfl)),pt [(43,_)] rfl (λU J=>aR nZ J rfl rfl),pt [(44,_)] rfl (λU J=>aS iK (X.cell 0 rfl 0 _ rfl) J rfl rfl rfl),pm rfl,pt [(4,_)] rfl (λU J=>qD (ad:=⟨m,0,none⟩) (cs:=[str a2,.slice b f i,bGj a.f2]) aPy oD (λj u h=>by rw [gJ,Nat.zero_add];exact X.cell 2 rfl j u h) J rfl rfl rfl),trivial⟩ ⟨et [(47,_)] rfl (λU J K hK=>?_),trivial⟩;replace X:=X.pk 3;refine eW (d:=kp98) (e:=98) (ps:=#[(0,.agg #[str a2,.slice b f i,bGj a.f2])]) (cells:=[str a2,.slice b f i,bGj a.f2]) (xs:=[((⟨a2,a.f1,a.f2⟩:S98),b,f,i)]) (λw=>by kernel_rfl) rfl ⟨[str a2,.slice b f i,bGj a.f2],_,rfl,rfl,rfl⟩ J X rfl λb4 w X=>?_;replace X:=aNt (g:=(λx:S98=>x.f1)) (x:=(⟨a2,a.f1,a.f2⟩:S98)) X;refine hK _ [] _ rfl (dF [0,1,2,3,4,5] [8] (by kernel_rfl) ⟨pt [(1,_)] rfl (λU J=>aS pE (X.cell 5 rfl 0 _ rfl) J rfl rfl rfl),pt [(1,_)] rfl (λU J=>aS pE (X.cell 5 rfl 0 _ rfl) J rfl rfl rfl),pt [(42,_)] rfl (λU J=>aN rfl (J.ev rfl)),pt [(43,_)] rfl (λU J=>aR nZ J rfl rfl),pt [(44,_)] rfl (λU J=>aS iK (X.cell 1 rfl 0 _ rfl) J rfl rfl rfl),pm rfl,trivial⟩ ⟨et [(45,_),(46,_),(48,_)] rfl (λU J K hK=>?_),trivial⟩);replace X:=X.pk 2;obtain⟨W,Y,G⟩:=bnd G;refine eM bCr J (aXz (L:=blk h1 77 [.slice n o p,bGj a1.f1,bGj a1.f2,.bool a1.f3,bGj a1.f4]::blk m 98 [str a2,.slice b f i,bGj a.f2]::blk g2 9 [str a2]::blk g1 29 [pP h1]::L) (a1.f0.eraseIdx a0.toNat) k.1 [(⟨a2,a.f1,a.f2⟩:S98)] Y X) rfl λv w l=>?_;obtain⟨b5,b6,b7,rfl,X⟩:=l;refine hK _ [(9,(pP h1)),(10,(pP h1))] _ rfl (dF [0,9,10] [11] (by kernel_rfl) ⟨pt [(1,_)] rfl (λU J=>aS pE (X.cell 4 rfl 0 _ rfl) J rfl rfl rfl),pt [(41,_)] rfl (λU J=>aN rfl (J.ev rfl)),pt [(50,_)] rfl (λU J=>aR nZ J rfl rfl),trivial⟩ ⟨et [(49,_),(51,_)] rfl (λU J K hK=>?_),trivial⟩);refine jY 1 aW8 J X rfl rfl λw X=>hK _ [] _ rfl (rF [] (by kernel_rfl) trivial ⟨by kernel_rfl,by kernel_rfl⟩ [(1,_),(2,_)] rfl (λU J=>?_));replace X:=X.bGo [1,1];replace X:=(sG (x:=a2) ((aE (x:=(⟨W,a1.f1,a1.f2,a1.f3,a1.f4⟩:S77)) X).pk 2)).drop 2 |>.bGo [1,2];cases G;refine D _ _ (aIo Tryz.results90 J ?_);exact⟨rfl,X⟩
end
noncomputable section
set_option linter.unusedSimpArgs false
def nO (e:List UInt8) (a:S77):Option (Int×S77):=(cU (some a) e).bind λc=>(if c != 0 then (some (c,a)) else ((eP a e).bind λd=>(if !d.2 then (some (5,a)) else ((gW a).bind λb=>(if !b.1 then (some (9,b.2)) else ((pQ d.1 b.2).bind λf=>(some (0,f))))))))
def lF (e:List UInt8) (a:S77):Option (Int×S77):=(cU (some a) e).bind λc=>(if c != 0 then (some (c,a)) else ((eP a e).bind λd=>(if !d.2 then (some (5,a)) else ((gW a).bind λb=>(if !b.1 then (some (9,b.2)) else ((nL d.1 b.2).bind λf=>(some (0,f))))))))
def oH (g:List UInt8) (a:S77) (b:List UInt8):Option (Int×S77×List UInt8):=(cU (some a) g).bind λd=>(if d != 0 then (some (d,a,b)) else ((eP a g).bind λe=>(if !e.2 then (some (5,a,b)) else ((gW a).bind λc=>(if !c.1 then (some (9,c.2,b)) else ((nM e.1 c.2 b).bind λf=>(some (0,f.1,f.2))))))))
def oR (a0:Option S77) (c:List UInt8):Option bHh:=match a0 with | none=>(none) | some b=>((nO c b).bind λa=>(some (a.1,some a.2)))
def pN (a0:Option S77) (c:List UInt8):Option bHh:=match a0 with | none=>(none) | some b=>((lF c b).bind λa=>(some (a.1,some a.2)))
def pO (a0:Option S77) (e a2:List UInt8):Option bHh:=match a0 with | none=>((cU none a2).bind λb=>(if b != 0 then (some (b,none)) else (none))) | some a=>((rI e).bind λf=>(if !f then (some (1,some a)) else ((cU (some a) a2).bind λc=>(if c != 0 then (some (c,some a)) else ((oH e a a2).bind λd=>(some (d.1,some d.2.1)))))))
end
end Go.Proofs.YtdkpjpoajlmmfaaGreatDoor.M
