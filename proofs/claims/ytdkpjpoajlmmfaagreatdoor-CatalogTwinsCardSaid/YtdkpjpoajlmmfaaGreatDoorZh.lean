/- Texts of the claim, joined: what it uses of Vf, Dfu, Mfu, Dfa, Mfa, Ha, Dfb, Mfb, Dfd, Mfd, Dfe. -/
import Derived.Test.YtdkpjpoajlmmfaaGreatDoorZg
import Derived.Shelf.Strconv.Itoa3
namespace Go.Proofs
open Go.Shelf
def Tryz.fuA_ren:Go.Shelf.Ren:=⟨fun | 283=>118 | n=>n,fun | 3=>3 | 9=>9 | 4=>4 | n=>n,fun | n=>n⟩
theorem Tryz.fuA:Go.Proofs.Lays.n283 Tryz.prog Tryz.fuA_ren:={
  mixed:=by kernel_rfl
  f283:=Tryz.func118.trans (congrArg some (by kernel_rfl))
  t3:=Tryz.underlying3
  a3:=Tryz.isAgg3
  z3:=Tryz.sizeOf3
  v3:=Tryz.zeroValue3
  t4:=Tryz.underlying4
  a4:=Tryz.isAgg4
  z4:=Tryz.sizeOf4
  v4:=Tryz.zeroValue4
  t9:=Tryz.underlying9
  a9:=Tryz.isAgg9
  z9:=Tryz.sizeOf9
  v9:=Tryz.zeroValue9 }
def Tryz.fuB_ren:Go.Shelf.Ren:=⟨fun | 284=>119 | 129=>134 | 317=>133 | 318=>135 | n=>n,fun | 53=>24 | 3=>3 | 212=>200 | 0=>0 | 4=>4 | 46=>125 | 5=>5 | 9=>9 | n=>n,fun | 17=>2 | n=>n⟩
theorem Tryz.fuB:Go.Proofs.LaysM.n284 Tryz.prog Tryz.fuB_ren:={
  mixed:=by kernel_rfl
  f129:=Tryz.func134.trans (congrArg some (by kernel_rfl))
  f284:=Tryz.func119.trans (congrArg some (by kernel_rfl))
  f317:=Tryz.func133.trans (congrArg some (by kernel_rfl))
  f318:=Tryz.func135.trans (congrArg some (by kernel_rfl))
  t0:=Tryz.underlying0
  a0:=Tryz.isAgg0
  z0:=Tryz.sizeOf0
  v0:=Tryz.zeroValue0
  t3:=Tryz.underlying3
  a3:=Tryz.isAgg3
  z3:=Tryz.sizeOf3
  v3:=Tryz.zeroValue3
  t4:=Tryz.underlying4
  a4:=Tryz.isAgg4
  z4:=Tryz.sizeOf4
  v4:=Tryz.zeroValue4
  t5:=Tryz.underlying5
  a5:=Tryz.isAgg5
  z5:=Tryz.sizeOf5
  v5:=Tryz.zeroValue5
  t9:=Tryz.underlying9
  a9:=Tryz.isAgg9
  z9:=Tryz.sizeOf9
  v9:=Tryz.zeroValue9
  t46:=Tryz.underlying125
  a46:=Tryz.isAgg125
  z46:=Tryz.sizeOf125
  v46:=Tryz.zeroValue125
  t53:=Tryz.underlying24
  a53:=Tryz.isAgg24
  z53:=Tryz.sizeOf24
  v53:=Tryz.zeroValue24
  t212:=Tryz.underlying200
  a212:=Tryz.isAgg200
  z212:=Tryz.sizeOf200
  v212:=Tryz.zeroValue200
  g17:=by kernel_rfl
  i0:=by kernel_rfl
  i3:=by kernel_rfl
  i4:=by kernel_rfl
  i5:=by kernel_rfl
  i9:=by kernel_rfl
  i46:=by kernel_rfl
  i53:=by kernel_rfl
  i212:=by kernel_rfl
  m17:=by kernel_rfl }
def Tryz.fuC_ren:Go.Shelf.Ren:=⟨fun | 285=>120 | n=>n,fun | 37=>23 | 53=>24 | 3=>3 | 4=>4 | 51=>67 | 9=>9 | 5=>5 | 0=>0 | n=>n,fun | n=>n⟩
theorem Tryz.fuC:Go.Proofs.Lays.n285 Tryz.prog Tryz.fuC_ren:={
  mixed:=by kernel_rfl
  f285:=Tryz.func120.trans (congrArg some (by kernel_rfl))
  t0:=Tryz.underlying0
  a0:=Tryz.isAgg0
  z0:=Tryz.sizeOf0
  v0:=Tryz.zeroValue0
  t3:=Tryz.underlying3
  a3:=Tryz.isAgg3
  z3:=Tryz.sizeOf3
  v3:=Tryz.zeroValue3
  t4:=Tryz.underlying4
  a4:=Tryz.isAgg4
  z4:=Tryz.sizeOf4
  v4:=Tryz.zeroValue4
  t5:=Tryz.underlying5
  a5:=Tryz.isAgg5
  z5:=Tryz.sizeOf5
  v5:=Tryz.zeroValue5
  t9:=Tryz.underlying9
  a9:=Tryz.isAgg9
  z9:=Tryz.sizeOf9
  v9:=Tryz.zeroValue9
  t37:=Tryz.underlying23
  a37:=Tryz.isAgg23
  z37:=Tryz.sizeOf23
  v37:=Tryz.zeroValue23
  t51:=Tryz.underlying67
  a51:=Tryz.isAgg67
  z51:=Tryz.sizeOf67
  v51:=Tryz.zeroValue67
  t53:=Tryz.underlying24
  a53:=Tryz.isAgg24
  z53:=Tryz.sizeOf24
  v53:=Tryz.zeroValue24 }
namespace YtdkpjpoajlmmfaaGreatDoor.M
open Go Go.RowKit Go.Proofs.YtdkpjpoajlmmfaaGreatDoor.E Go.Shelf
open Go.Lib (zeros24 zeros24_at)
open Go.Sort (Holds grow putRow alloc_eq_grow putRow_grow_new cell?_putRow)
set_option linter.unusedVariables false
set_option linter.unusedSimpArgs false
theorem hz0 (w:World) (T:TypeId) (nd:Nat) (hs:nd<=24):Holds (λ(b:UInt8)=>Value.int .u8 (b.toNat:Int)) (w.alloc (.cells zeros24 T)) w.heap.size 0 (Array.replicate nd (0:UInt8)):=λj hj=>by
  have hj':j<nd:=by simpa using hj
  refine⟨?_,World.frozen?_alloc_new _ _ _ _⟩;rw [World.cell?_alloc_new,zeros24_at _ (by omega),getElem!_pos _ j hj];simp
theorem bEc (w:World) (o:Obj) (dk:Array UInt8) (k:Nat):∃ os,(putRow (λ(b:UInt8)=>Value.int .u8 (b.toNat:Int)) (w.alloc o) w.heap.size 0 dk).drewN k=grow (w.drewN k) os:=by rw [alloc_eq_grow];obtain⟨os',_,e⟩:=putRow_grow_new (λ(b:UInt8)=>Value.int .u8 (b.toNat:Int)) w #[o] w.heap.size 0 dk (Nat.le_refl _);exact⟨os',by rw [e]; rfl⟩
theorem slA {P:Program} {o:Oper} {a:Act} {w:World} {T:TypeId} {x hi:Operand} {p q v:Value} (h:∀ W,(Instr.sliceAt T p none (some q) none).run P W=.ok v W) (ho:o.op=.slice T x none (some hi) none) (hx:a.eval x=p) (hh:a.eval hi=q):RunV P o a w v:=by unfold RunV execOp; rw [ho];simp only [hx,hh,Option.map_some,Option.map_none,Sem.run_bind,h];rfl
theorem cvA {P:Program} {o:Oper} {a:Act} {w:World} {T U:TypeId} {x:Operand} {p v:Value} (h:(convert T U p).run P w=.ok v w) (ho:o.op=.convert T U x) (hx:a.eval x=p):RunV P o a w v:=by unfold RunV execOp; rw [ho];simp only [hx,Sem.run_bind,h];rfl
section
variable {P:Program} {ops:Array Oper} {Q:Exit->Act->World->Prop} {o:Oper} {rest:List Oper} {a:Act} {w:World} {n t:Nat} {D:List Deferred} {F:List (Nat×Value)}
theorem aR4 {T:TypeId} {cs:Array Value} {z:Value} (hz:(P.info? T).bind (·.zero)=some z) (hA:FR n D a F) (kk:∀ a',FR n D a' ((t,.pointer (some ⟨w.heap.size,0,none⟩))::F)->wpList P ops Q rest a' (w.alloc (.cells cs T)))
    (ho:o.op=.alloc T) (hcs:z.cells=cs) (hd:o.dst=some t) (hg:o.guard=none) (ht:Nat.blt t n=true):wpList P ops Q (o::rest) a w :=
  mC hg λK hK=>by
    obtain⟨i,hi1,hi2⟩:=Option.bind_eq_some_iff.1 hz;have h:(execOp a.eval o).run P w=.ok (.value (.pointer (some ⟨w.heap.size,0,none⟩))) (w.alloc (.cells cs T)):=by unfold execOp; rw [ho];simp [Instr.alloc,newVar,newRow,zeroValue,typeInfo,hi1,hi2,hcs]
    unfold Oper.wp;rw [h];exact hK _ _ (kk _ (by rw [hd]; exact hA.put t _ (by have:=Nat.le_of_ble_eq_true ht; omega)))
end
set_option maxHeartbeats 4000000 in
set_option maxRecDepth 100000 in
theorem bEk (n : Int) (h0 : 0 ≤ n) (h1 : n < 18446744073709551616) (w : World) (htab : Lib.TabIs Tryz.prog w "internal/strconv.uint64pow10" .u64 Lib.pow10Tab) :
    Ret Tryz.prog 100 #[.int .u64 n,.int .i64 10] w λv w'=>v=str (Lib.itoa n)/\∃ k os,w'=grow (w.drewN k) os:=by
  obtain⟨u,rfl⟩:∃ u:Nat,n=u:=⟨n.toNat,by omega⟩;refine enter Tryz.func100 rfl Tryz.ntmps100 [(0,.int .u64 (u:Int)),(1,.int .i64 10)] rfl (by simp) ?_;intro ac hA Qf hQ hQn;refine wp_seq_k λa3 I=>?_;refine aD ?_;refine eO hA (λac hA=>?_) rfl rfl rfl rfl rfl;refine wpList_nil ?_;refine I _ _ ?_;refine wp_seq_k λa4 a5=>?_;refine wp_seq_k λa6 J=>?_;refine aD ?_;refine dV hA (λac hA=>?_) rfl rfl rfl rfl rfl;refine dY hA (yZ rfl (hA.ev rfl) (hA.ev rfl)) (λac hA=>?_) rfl rfl rfl;refine wpList_nil ?_;refine J _ _ ?_;refine aKi hA rfl (λG=>?_) λG=>?_
  rotate_left
  · cases G
  refine wp_seq_k λa7 N=>?_;refine wp_seq_k λa8 S=>?_;refine aD ?_;refine dV hA (λac hA=>?_) rfl rfl rfl rfl rfl;refine dY hA (aDi rfl (hA.ev rfl) (hA.ev rfl)) (λac hA=>?_) rfl rfl rfl;refine wpList_nil ?_;refine S _ _ ?_;refine aKi hA rfl (λhs=>?_) λhs=>?_
  · have hs:u<100:=by have:=of_decide_eq_true hs; omega
    refine wp_seq_k λa9 U=>?_;refine aD ?_;refine dV hA (λac hA=>?_) rfl rfl rfl rfl rfl;refine dY (v:=.int .i64 (u:Int)) hA (cO (by rw [IntKind.wrap_i64]; omega) (aQ Tryz.underlying24 Tryz.underlying3 rfl (hA.ev rfl))) (λac hA=>?_) rfl rfl rfl;refine aIc (R:=λv w'=>v=str (Lib.itoa u)/\w'=w) (aZ Tryz.func118 (by kernel_rfl) rfl) hA (Calls.mono (Any.internal_strconv_small Tryz.fuA u hs w) (by rintro e w' ⟨rfl,rfl⟩; exact⟨_,rfl,by rw [Lib.itoa_nonneg]; rfl,rfl⟩)) (λv ac w' hR hA=>?_) rfl rfl rfl rfl rfl;obtain⟨rfl,rfl⟩:=hR;refine eO hA (λac hA=>?_) rfl rfl rfl rfl rfl;refine wpList_nil ?_;refine U _ _ ?_;refine wp_ret ?_;refine hQ _ _ ?_;refine lv Tryz.results100 hA rfl ?_;exact⟨rfl,0,#[],by simp [World.drewN_zero]⟩
  have hs:¬u<100:=by have:=of_decide_eq_false hs; omega
  have hu1:1<=u:=by omega
  have C:u<18446744073709551616:=by omega
  have b3:Lib.nDigits u<=20:=by have:=Lib.numDigits_eq u hu1 C; split at this <;> omega
  have hal:Program.arrayLen Tryz.prog 182=24:=by simp [Program.arrayLen,Tryz.underlying182]
  have hsl:∀ W,(Instr.sliceAt 182 (.pointer (some ⟨w.heap.size,0,none⟩)) none (some (.int .i64 (Lib.nDigits u:Int))) none).run Tryz.prog W=.ok (.slice (some ⟨w.heap.size,0,none⟩) (Lib.nDigits u) 24) W:=λW=>by
    rw [run_sliceAt_array_h W 182 ⟨w.heap.size,0,none⟩ (by simp [Program.arrayLen,Program.elem,Tryz.underlying182]) .i64 (Lib.nDigits u:Int) (by omega) (by rw [hal]; omega)];have he:Program.elem Tryz.prog 182=5:=by simp [Program.elem,Tryz.underlying182]
    rw [he,Tryz.sizeOf5,hal];simp [Result.andThen,slicedAt,Addr.add]
  have hfmt:=Any.internal_strconv_formatBase10 Tryz.fuC w.heap.size 0 24 u (Array.replicate (Lib.nDigits u) 0) (w.alloc (.cells Lib.zeros24 182)) (hz0 w 182 (Lib.nDigits u) (by omega)) (by rw [Array.size_replicate]; exact Lib.lt_pow_nDigits u) C (by rw [Array.size_replicate]; omega);rw [Array.size_replicate] at hfmt;have HH0:=hz0 w 182 (Lib.nDigits u) (by omega);refine wp_skip ?_;refine N _ _ ?_;refine wp_seq_k λb4 X=>?_;refine aD ?_;refine aR4 (cs:=Lib.zeros24) (z:=.agg Lib.zeros24) (by kernel_rfl) hA (λac hA=>?_) rfl rfl rfl rfl rfl;refine wpList_nil ?_;refine X _ _ ?_;refine wp_seq_k λb5 Y=>?_;refine aD ?_;refine dV hA (λac hA=>?_) rfl rfl rfl rfl rfl;refine aIc (R:=λv w'=>v=.int .i64 (Lib.nDigits u:Int)/\w'=w.alloc (.cells Lib.zeros24 182)) (aZ Tryz.func119 (by kernel_rfl) rfl) hA (Calls.mono (Any.internal_strconv_numDigits Tryz.fuB u hu1 C _ (Lib.tabIs_alloc htab _)) (by rintro e w' ⟨rfl,rfl⟩; exact⟨_,rfl,rfl,rfl⟩)) (λv ac w' hR hA=>?_) rfl rfl rfl rfl rfl;obtain⟨rfl,rfl⟩:=hR;refine eO hA (λac hA=>?_) rfl rfl rfl rfl rfl;refine wpList_nil ?_;refine Y _ _ ?_;refine wp_seq_k λb6 a0=>?_;refine aD ?_;refine dV hA (λac hA=>?_) rfl rfl rfl rfl rfl;refine dY hA (slA (λW=>hsl W) rfl (hA.ev rfl) (hA.ev rfl)) (λac hA=>?_) rfl rfl rfl;refine dV hA (λac hA=>?_) rfl rfl rfl rfl rfl;refine aIc (R:=λv w'=>v=.tuple #[]/\∃ k v' dk,w'=(putRow (λ(b:UInt8)=>Value.int .u8 (b.toNat:Int)) (w.alloc (.cells Lib.zeros24 182)) w.heap.size 0 dk).drewN k/\Lib.FmtInv (Lib.nDigits u) u 0 v' dk) (aZ Tryz.func120 (by kernel_rfl) rfl) hA (Calls.mono hfmt (by rintro e w' ⟨rfl,k,v',dk,rfl,hF⟩; exact⟨_,rfl,rfl,k,v',dk,rfl,hF⟩)) (λv ac w' hR hA=>?_) rfl rfl rfl rfl rfl;obtain⟨rfl,k,v',dk,rfl,hF⟩:=hR;refine wpList_nil ?_;refine a0 _ _ ?_;refine wp_seq_k λb7 a1=>?_;refine aD ?_;refine dV hA (λac hA=>?_) rfl rfl rfl rfl rfl;refine dY hA (slA (λW=>hsl W) rfl (hA.ev rfl) (hA.ev rfl)) (λac hA=>?_) rfl rfl rfl;have hcv:(convert 23 9 (.slice (some ⟨w.heap.size,0,none⟩) (Lib.nDigits u) 24)).run Tryz.prog ((putRow (λ(b:UInt8)=>Value.int .u8 (b.toNat:Int)) (w.alloc (.cells Lib.zeros24 182)) w.heap.size 0 dk).drewN k)=.ok (.string ⟨(Lib.decDigits u).toArray⟩) ((putRow (λ(b:UInt8)=>Value.int .u8 (b.toNat:Int)) (w.alloc (.cells Lib.zeros24 182)) w.heap.size 0 dk).drewN k):=by
    have h:=run_convert_bytes_back (P:=Tryz.prog) ((putRow (λ(b:UInt8)=>Value.int .u8 (b.toNat:Int)) (w.alloc (.cells Lib.zeros24 182)) w.heap.size 0 dk).drewN k) 23 9 5 ⟨w.heap.size,0,none⟩ 24 (Lib.decDigits u) Tryz.underlying23 Tryz.underlying5 Tryz.underlying9 (λj hj=>by
      rw [Lib.row_is_numeral hF j hj,Lib.add_plain,World.cell?_drewN];exact cell?_putRow (λ(b:UInt8)=>Value.int .u8 (b.toNat:Int)) _ w.heap.size 0 _ dk HH0 (by simp [hF.size]) j (by rw [hF.size]; rw [Lib.decDigits_length] at hj; exact hj))
    rw [Lib.decDigits_length] at h;exact h
  refine dY (v:=str (Lib.decDigits u)) hA (cvA hcv rfl (hA.ev rfl)) (λac hA=>?_) rfl rfl rfl;refine eO hA (λac hA=>?_) rfl rfl rfl rfl rfl;refine wpList_nil ?_;refine a1 _ _ ?_;refine wp_ret ?_;refine hQ _ _ ?_;refine lv Tryz.results100 hA rfl ?_;obtain⟨os,eo⟩:=bEc w (.cells Lib.zeros24 182) dk k;exact⟨by rw [Lib.itoa_nonneg],k,os,eo⟩
end YtdkpjpoajlmmfaaGreatDoor.M
end Go.Proofs
namespace Go.Proofs.YtdkpjpoajlmmfaaGreatDoor.M
open Go Go.RowKit Go.Proofs.YtdkpjpoajlmmfaaGreatDoor.E
set_option linter.unusedVariables false
noncomputable section
set_option linter.unusedSimpArgs false
def sO (a0:Int) (a1:Int):Option ((List UInt8)) :=
  chk (0<=a0/\a0<18446744073709551616/\a1=10) (some (Lib.itoa a0))
def jS (a0:Int) (a1:Int):Option ((List UInt8)) :=
  (sO a0 a1).bind λz=>(some z)
end
set_option maxRecDepth 100000
set_option maxHeartbeats 4000000
set_option linter.unusedSimpArgs false
section
variable {r:World} {L:List HP} {w:World} {Z:Nat->Prop} {wz:World}
theorem aBl {a0 a1 y} (G:sO a0 a1=some y) (X:SH r (L) w) (qz:Nat) (hZ:L[qz]?=some (zone Z wz)) (hG2:Gb Z wz 2 .u64 bK) :
  Ret Tryz.prog 100 #[.int .u64 a0,.int .i64 a1] w λv w'=>v=str y/\SH r (L) w':=by
 have q:=aC G;clear G;obtain⟨⟨h0,h1,rfl⟩,G⟩:=q;cases G;refine Calls.mono (bEk a0 h0 h1 w (Gb.tab ((show bK=Lib.pow10Tab from by decide)▸hG2) X qz hZ (by kernel_rfl))) ?_;rintro e w' ⟨v,rfl,rfl,k,os,rfl⟩;exact⟨_,rfl,rfl,(X.drewN k).grow os⟩
theorem wK {a0 a1 y} (G:jS a0 a1=some y) (X:SH r (L) w) (qz:Nat) (hZ:L[qz]?=some (zone Z wz)) (hG2:Gb Z wz 2 .u64 bK) :
  Ret Tryz.prog 75 #[.int .u64 a0,.int .i64 a1] w λv w'=>v=str y/\SH r (L) w':=by
 refine enter Tryz.func75 rfl Tryz.ntmps75 [(0,_),(1,_)] rfl (by simp) ?_;intro U J Qf hQ hQn;unfold jS at G;refine nz 1 J rfl λU J=>ws λI z=>xk 2 J rfl λU J=>?_;obtain⟨N,C,G⟩:=bnd G;refine x_c bAn J rfl (aBl C X (qz+0) hZ hG2 :) λv U w hR J=>?_;obtain⟨rfl,X⟩:=hR;refine x_m J rfl λU J=>wn (z _ _ ?_);cases G;refine wp_ret (hQ _ _ ?_);exact lv Tryz.results75 J rfl ⟨rfl,X⟩
end
noncomputable section
set_option linter.unusedSimpArgs false
def eL (a0:(List (S98×Hd))) (k0:Nat) (a1:Int) (a2:(List (S98×Hd))):Option ((List (S98×Hd))) :=
  (kX a0 a1 (a0.length:Int)).bind λG=>(if ((a2.length:Int)==0)=true then (some a0) else (if (a1==(a0.length:Int))=true then (chk (a0.length+a2.length<=140737488355328 / 48) (some (a0++a2))) else (ltt (IntKind.i64.wrap ((a0.length:Int)+(a2.length:Int))) λz=>(if (decide (((k0:Nat):Int)<z))=true then ((kX a0 0 a1).bind λY=>(ltt (IntKind.i64.wrap (z - a1)) λS=>(chk (0<S/\k0<a1.toNat+S.toNat/\(a1.toNat+S.toNat) * 48<=140737488355328) (ltt (Y++List.replicate S.toNat (((⟨[],[],0⟩:S98),none,0,0):S98×Hd)) λI=>(chk (0<=a1/\a1<(I.length:Int)) (chk (0<(a2.take (min a2.length (I.length - a1.toNat))).length/\(0+a1.toNat)+(a2.take (min a2.length (I.length - a1.toNat))).length<=I.length) (ltt (I.take (0+a1.toNat)++a2.take (min a2.length (I.length - a1.toNat))++I.drop ((0+a1.toNat)+(a2.take (min a2.length (I.length - a1.toNat))).length)) λJ=>(ltt (IntKind.i64.wrap (a1+(a2.length:Int))) λC=>(chk (0<=C/\C<(J.length:Int)) (chk (0<(G.take (min G.length (J.length - C.toNat))).length/\(0+C.toNat)+(G.take (min G.length (J.length - C.toNat))).length<=J.length) (ltt (J.take (0+C.toNat)++G.take (min G.length (J.length - C.toNat))++J.drop ((0+C.toNat)+(G.take (min G.length (J.length - C.toNat))).length)) λa3=>(some a3)))))))))))) else (chk (0<k0) (chk (0<=z/\z<=(k0:Int)) (ltt (IntKind.i64.wrap (a1+(a2.length:Int))) λN=>(chk (0<=N/\N<((z.toNat:Nat):Int)/\z.toNat<=k0) (chk (0<a2.length/\0<k0) (chk (0<=N/\N<((z.toNat:Nat):Int)/\z.toNat<=k0) (chk (0<=a1/\a1<((z.toNat:Nat):Int)/\z.toNat<=k0) ((rdo (a0.map some++List.replicate (k0 - a0.length) none) (0+a1.toNat) (min (z.toNat - a1.toNat) (z.toNat - N.toNat))).bind λU=>(chk (0<U.length/\(0+N.toNat)+U.length<=k0) (ltt ((a0.map some++List.replicate (k0 - a0.length) none).take (0+N.toNat)++U.map some++(a0.map some++List.replicate (k0 - a0.length) none).drop ((0+N.toNat)+U.length)) λX=>(chk (0<=a1/\a1<((z.toNat:Nat):Int)/\z.toNat<=k0) (chk (0<(a2.take (min a2.length (z.toNat - a1.toNat))).length/\(0+a1.toNat)+(a2.take (min a2.length (z.toNat - a1.toNat))).length<=k0) (ltt (X.take (0+a1.toNat)++(a2.take (min a2.length (z.toNat - a1.toNat))).map some++X.drop ((0+a1.toNat)+(a2.take (min a2.length (z.toNat - a1.toNat))).length)) λa4=>((rdo a4 0 z.toNat).bind λa5=>(some a5)))))))))))))))))))
def eK (a0:(List (S98×Hd))) (k0:Nat) (a1:Int) (a2:Int):Option ((List (S98×Hd))) :=
  chk (0<=a1/\a1<=a2/\a2<=(a0.length:Int)/\(a0.length:Int)<=(a0.length:Int)) (if (a1==a2)=true then (some a0) else (chk (0<k0) (chk (0<=a1/\a1<=(k0:Int)) (chk (0<=a2/\a2<=((a0.length:Nat):Int)/\a0.length<=k0) ((rdo (a0.map some++List.replicate (k0 - a0.length) none) (0+a2.toNat) (a0.length - a2.toNat)).bind λC=>(chk (a1.toNat+(a0.length - a2.toNat)<=k0) (ltt ((a0.map some++List.replicate (k0 - a0.length) none).take a1.toNat++C.map some++(a0.map some++List.replicate (k0 - a0.length) none).drop (a1.toNat+(a0.length - a2.toNat))) λz=>(chk (0<=(((a1.toNat+(a0.length - a2.toNat)):Nat):Int)/\(((a1.toNat+(a0.length - a2.toNat)):Nat):Int)<(a0.length:Int)/\(a0.length:Int)<=((k0:Nat):Int)) (chk (0<((a0.length:Int).toNat - (((a1.toNat+(a0.length - a2.toNat)):Nat):Int).toNat)/\(0+(((a1.toNat+(a0.length - a2.toNat)):Nat):Int).toNat)+((a0.length:Int).toNat - (((a1.toNat+(a0.length - a2.toNat)):Nat):Int).toNat)<=k0) (ltt (z.take (0+(((a1.toNat+(a0.length - a2.toNat)):Nat):Int).toNat)++(List.replicate ((a0.length:Int).toNat - (((a1.toNat+(a0.length - a2.toNat)):Nat):Int).toNat) (((⟨[],[],0⟩:S98),none,0,0):S98×Hd)).map some++z.drop ((0+(((a1.toNat+(a0.length - a2.toNat)):Nat):Int).toNat)+((a0.length:Int).toNat - (((a1.toNat+(a0.length - a2.toNat)):Nat):Int).toNat))) λG=>((rdo G 0 (a1.toNat+(a0.length - a2.toNat))).bind λI=>(some I))))))))))))
end
section
variable {r:World} {L:List HP} {w:World} {Z:Nat->Prop} {wz:World}
theorem sB {a0 k0 a1 a2 A0 n0 A2 n2 c2 y} (G:eL a0 k0 a1 a2=some y) (X:SH r (own kp98 98 A0 n0 k0 a0::own kp98 98 A2 n2 c2 a2::L) w) :
  Ret Tryz.prog 91 #[.slice A0 n0 k0,.int .i64 a1,.slice A2 n2 c2] w λv w'=>∃ (B0:Option Addr) (m0:Nat) (d0:Nat),v=.slice B0 m0 d0/\SH r (own kp98 98 B0 m0 d0 y::L) w':=by
 refine enter Tryz.func91 rfl Tryz.ntmps91 [(0,_),(1,_),(2,_)] rfl (by simp) ?_;intro U J Qf hQ hQn;unfold eL at G;obtain rfl:=(X.rd 0 rfl).2.1;obtain rfl:=(X.rd 1 rfl).2.1;refine nz 1 J rfl λU J=>ws λg6 b5=>xk 2 J rfl λU J=>?_;obtain⟨a8,N,G⟩:=bnd G;refine x_v J (lX iM oK rfl (J.ev rfl) (J.ev rfl) (oH (X.rd 0 rfl) N).1 (oH (X.rd 0 rfl) N).2.2.2.2.2) rfl λU J=>wn (b5 _ _ ?_);refine ws λg7 b6=>xk 1 J rfl λU J=>aW iM (X.rd 1 rfl).2.1 J (λU J=>?_) rfl;refine x_m J rfl λU J=>wn (b6 _ _ ?_);refine wp_seq_k λg8 b7=>nz 2 J rfl λU J=>aX J G rfl (λb8 G=>?_) λb8 G=>?_
 ·refine nz 2 J rfl λU J=>?_;replace X:=X.drop 1;cases G;refine wp_ret (hQ _ _ ?_);exact lv Tryz.results91 J rfl ⟨A0,a0.length,k0,rfl,X⟩
 refine wp_skip (b7 _ _ ?_);refine ws λg9 b9=>xk 1 J rfl λU J=>aW iM (X.rd 0 rfl).2.1 J (λU J=>?_) rfl;refine x_m J rfl λU J=>wn (b9 _ _ ?_);refine wp_seq_k λh1 c0=>nz 3 J rfl λU J=>aX J G rfl (λc4 G=>?_) λc4 G=>?_
 ·refine ws λh2 c5=>xk 2 J rfl λU J=>?_;obtain⟨c6,G⟩:=aC G;have hr:=X.rd 1 rfl;refine lI 0 aWw iM J X hr.1 hr.2.1 c6 rfl (λc7 c8 c9 U w X J=>?_) rfl;refine x_m J rfl λU J=>wn (c5 _ _ ?_);replace X:=X.drop 1;cases G;refine wp_ret (hQ _ _ ?_);exact lv Tryz.results91 J rfl ⟨c7,c8,c9,rfl,X⟩
 refine wp_skip (c0 _ _ ?_);refine wp_seq_k λh3 d1=>ws λh4 d2=>xk 2 J rfl λU J=>x_l G J rfl λz a9 U J G=>x_m J rfl λU J=>x_v J (aTx iM rfl (J.ev rfl)) rfl λU J=>nk 1 J rfl λU J=>d2 _ _ (aX J G rfl (λd3 G=>?_) λd3 G=>?_)
 ·refine ws λh5 d4=>xk 2 J rfl λU J=>?_;obtain⟨h6,Y,G⟩:=bnd G;refine x_v J (oU iM oK rfl (J.ev rfl) (J.ev rfl) (oH (X.rd 0 rfl) Y).2.2.2.2.1 (oH (X.rd 0 rfl) Y).2.2.1) rfl λU J=>xk 2 J rfl λU J=>x_v (v:=.int .i64 z) J (cO a9 (kT rfl (J.ev rfl) (J.ev rfl))) rfl λU J=>x_m J rfl λU J=>x_l G J rfl λa3 _ U J G=>?_;obtain⟨d5,G⟩:=aC G;refine aYg (((⟨[],[],0⟩:S98),none,0,0):S98×Hd) iM uu3 aWw rfl J X (bCn (X.rd 0 rfl) Y).1 (bCn (X.rd 0 rfl) Y).2.1 d5 (λa4 a5 U w X J=>?_) rfl;obtain⟨d6,d7,G⟩:=gQ G;rw [← d7] at X;refine x_m J rfl λU J=>wn (d4 _ _ ?_);refine ws λh7 d8=>xk 2 J rfl λU J=>?_;obtain⟨d9,G⟩:=aC G;have a6:=X.rd 0 rfl;refine x_v (v:=.slice (some ⟨a4,(0+a1.toNat) * 3,none⟩) ((a1.toNat+a3.toNat) - a1.toNat) (a5 - a1.toNat)) J (aCu (lo:=0) iM oK rfl (J.ev rfl) (J.ev rfl) ⟨d9.1,by have:=a6.2.1; omega,a6.2.2.1⟩) rfl λU J=>x_m J rfl λU J=>?_;obtain⟨e1,G⟩:=aC G;refine aY0 (lo:=(0+a1.toNat)) (zs:=a2.take (min a2.length (d6.length - a1.toNat))) 0 iM oK J X (Rd.take_ (X.rd 2 rfl).1 _) (cpk (X.rd 2 rfl).2.1 (by have:=a6.2.1; omega)) e1 rfl (λh8 U w X J=>?_) rfl;obtain⟨e2,e3,G⟩:=gQ G;rw [← e3] at X;refine wn (d8 _ _ ?_);refine wp_seq_k λh9 e4=>bZ [0,0,0,6,15,0,0,96,255] [8] rfl J X (by kernel_rfl) (by kernel_rfl) (by kernel_rfl) (by kernel_rfl) λw X=>?_;obtain⟨S,e5,G⟩:=gQ G;obtain⟨e6,G⟩:=aC G;have a7:=X.rd 0 rfl;refine⟨[(0,.slice (some ⟨a4,0,none⟩) (a1.toNat+a3.toNat) a5),(1,.int .i64 a1),(2,.int .i64 (a2.length:Int)),(3,.int .i64 S),(4,.slice (some ⟨a4,(0+S.toNat) * 3,none⟩) ((a1.toNat+a3.toNat) - S.toNat) (a5 - S.toNat)),(5,.slice A0 a0.length k0),(6,.int .i64 a1),(7,.slice (if k0=a1.toNat then A0 else A0.map (·.add (a1.toNat * 3))) (a0.length - a1.toNat) (k0 - a1.toNat))],?_⟩
  refine dF [0,1,2,3,4,5,6,7] [8] (by kernel_rfl) ⟨pm rfl,pm rfl,pm rfl,pt [(47,_),(48,_)] rfl λU J=>cO e5 (kT rfl (J.ev rfl) (J.ev rfl)),pt [(46,_),(49,_)] rfl λU J=>aCu (lo:=0) iM oK rfl (J.ev rfl) (J.ev rfl) ⟨e6.1,by have:=a7.2.1; omega,a7.2.2.1⟩,pm rfl,pm rfl,pt [(51,_),(52,_)] rfl (λU J=>lX iM oK rfl (J.ev rfl) (J.ev rfl) (oH (X.rd 1 rfl) N).1 (oH (X.rd 1 rfl) N).2.2.2.2.2),trivial⟩ ⟨et [(50,_),(53,_)] rfl (λU J K hK=>?_),trivial⟩;obtain⟨e7,G⟩:=aC G;refine aZr (lo:=(0+S.toNat)) (zs:=a8.take (min a8.length (e2.length - S.toNat))) 0 iM oK J X (Rd.take_ (bBe (X.rd 1 rfl) N).1 _) (cpk (bBe (X.rd 1 rfl) N).2.1 (by have:=a7.2.1; omega)) e7 rfl (λi0 w X=>?_) rfl;obtain⟨i1,e8,G⟩:=gQ G;rw [← e8] at X;refine hK _ [] _ rfl (dU [] (by kernel_rfl) trivial ⟨by kernel_rfl,by kernel_rfl⟩ [(9,_)] rfl (λU J=>?_));refine e4 _ _ (nz 2 J rfl λU J=>?_);replace X:=X.drop 1 |>.drop 1;cases G;refine wp_ret (hQ _ _ ?_);exact lv Tryz.results91 J rfl ⟨some ⟨a4,0,none⟩,a1.toNat+a3.toNat,a5,rfl,X⟩
 refine wp_skip (d1 _ _ ?_);refine wp_seq_k λi2 e9=>?_;obtain⟨f0,G⟩:=aC G;have hQ0:=aD5 f0 X;clear X;obtain⟨I,rfl,X⟩:=hQ0;refine aD (xk 3 J rfl λU J=>?_);refine x_v (v:=.int .i64 z) J (cO a9 (kT rfl (J.ev rfl) (J.ev rfl))) rfl λU J=>?_;obtain⟨b3,G⟩:=aC G;refine x_v J (oU iM oK rfl (J.ev rfl) (J.ev rfl) b3.1 b3.2) rfl λU J=>x_m J rfl λU J=>wn (e9 _ _ ?_);refine wp_seq_k λi3 i4=>ws λi5 f1=>xk 4 J rfl λU J=>x_l G J rfl λC f2 U J G=>?_;obtain⟨f3,G⟩:=aC G;refine x_v (v:=.slice (some ⟨I,(0+C.toNat) * 3,none⟩) (z.toNat - C.toNat) (k0 - C.toNat)) J (aCu (lo:=0) iM oK rfl (J.ev rfl) (J.ev rfl) f3) rfl λU J=>?_;obtain⟨f4,G⟩:=aC G;refine x_v (v:=.bool false) J (aX8 (aX4 (aR0 iM oK X 1 0 rfl rfl (by decide) f4)) rfl (evs J rfl)) rfl λU J=>nk 1 J rfl λU J=>f1 _ _ (c_t (b:=true) rfl J ?_ rfl);refine wp_seq_k λi6 f5=>bZ [0,0,0,6,15,0,0,96,255] [8] rfl J X (by kernel_rfl) (by kernel_rfl) (by kernel_rfl) (by kernel_rfl) λw X=>?_;obtain⟨f6,G⟩:=aC G;obtain⟨f7,G⟩:=aC G;refine⟨[(0,.slice (some ⟨I,0,none⟩) z.toNat k0),(1,.int .i64 a1),(2,.int .i64 (a2.length:Int)),(3,.int .i64 C),(4,.slice (some ⟨I,(0+C.toNat) * 3,none⟩) (z.toNat - C.toNat) (k0 - C.toNat)),(5,.slice (some ⟨I,0,none⟩) z.toNat k0),(6,.int .i64 a1),(7,.slice (some ⟨I,(0+a1.toNat) * 3,none⟩) (z.toNat - a1.toNat) (k0 - a1.toNat))],?_⟩;refine dF [0,1,2,3,4,5,6,7] [8] (by kernel_rfl) ⟨pm rfl,pm rfl,pm rfl,pt [(70,_),(71,_)] rfl λU J=>cO f2 (kT rfl (J.ev rfl) (J.ev rfl)),pt [(69,_),(72,_)] rfl λU J=>aCu (lo:=0) iM oK rfl (J.ev rfl) (J.ev rfl) f6,pm rfl,pm rfl,pt [(74,_),(75,_)] rfl λU J=>aCu (lo:=0) iM oK rfl (J.ev rfl) (J.ev rfl) f7,trivial⟩ ⟨et [(73,_),(76,_)] rfl (λU J K hK=>?_),trivial⟩;obtain⟨f8,b4,G⟩:=bnd G;obtain⟨f9,G⟩:=aC G;refine aZl (lo:=(0+C.toNat)) (zs:=f8) 0 iM oK J X (aUc (lo:=(0+a1.toNat)) X 0 rfl (aBs b4).2.1) (aBs b4).1 f9 rfl (λi7 w X=>?_) rfl;obtain⟨i8,g0,G⟩:=gQ G;rw [← g0] at X;refine hK _ [] _ rfl (dU [] (by kernel_rfl) trivial ⟨by kernel_rfl,by kernel_rfl⟩ [(0,_),(1,_),(2,_)] rfl (λU J=>?_));refine f5 _ _ (ws λi9 g1=>?_);refine xk 2 J rfl λU J=>?_;obtain⟨g2,G⟩:=aC G;refine x_v (v:=.slice (some ⟨I,(0+a1.toNat) * 3,none⟩) (z.toNat - a1.toNat) (k0 - a1.toNat)) J (aCu (lo:=0) iM oK rfl (J.ev rfl) (J.ev rfl) g2) rfl λU J=>x_m J rfl λU J=>?_;obtain⟨g3,G⟩:=aC G;refine aYu (lo:=(0+a1.toNat)) (zs:=a2.take (min a2.length (z.toNat - a1.toNat))) 0 iM oK J X (Rd.take_ (X.rd 1 rfl).1 _) (cpk (X.rd 1 rfl).2.1 rfl) g3 rfl (λj0 U w X J=>?_) rfl;obtain⟨j1,g4,G⟩:=gQ G;rw [← g4] at X;refine wn (g1 _ _ ?_);refine nz 2 J rfl λU J=>?_;obtain⟨j2,g5,G⟩:=bnd G;replace X:=(aKa X g5).drop 1;cases G;refine wp_ret (hQ _ _ ?_);exact lv Tryz.results91 J rfl ⟨some ⟨I,0,none⟩,z.toNat,k0,rfl,X⟩
theorem rX {a0 k0 a1 a2 A0 n0 y} (G:eK a0 k0 a1 a2=some y) (X:SH r (own kp98 98 A0 n0 k0 a0::L) w) :
  Ret Tryz.prog 80 #[.slice A0 n0 k0,.int .i64 a1,.int .i64 a2] w λv w'=>∃ (B0:Option Addr) (m0:Nat) (d0:Nat),v=.slice B0 m0 d0/\SH r (own kp98 98 B0 m0 d0 y::L) w':=by
 refine enter Tryz.func80 rfl Tryz.ntmps80 [(0,_),(1,_),(2,_)] rfl (by simp) ?_;intro U J Qf hQ hQn;unfold eK at G;obtain rfl:=(X.rd 0 rfl).2.1;refine nz 1 J rfl λU J=>ws λb8 Y=>xk 4 J rfl λU J=>aW iM (X.rd 0 rfl).2.1 J (λU J=>?_) rfl;obtain⟨C,G⟩:=aC G;refine x_v J (aF4 iM oK rfl (J.ev rfl) (J.ev rfl) (J.ev rfl) (J.ev rfl) ⟨C.1,C.2.1,C.2.2.1,by have:=(X.rd 0 rfl).2; omega⟩) rfl λU J=>wn (Y _ _ ?_);refine wp_seq_k λb9 a3=>nz 3 J rfl λU J=>aX J G rfl (λa4 G=>?_) λa4 G=>?_
 ·refine nz 2 J rfl λU J=>?_;cases G;refine wp_ret (hQ _ _ ?_);exact lv Tryz.results80 J rfl ⟨A0,a0.length,k0,rfl,X⟩
 refine wp_skip (a3 _ _ ?_);refine ws λc0 a5=>xk 1 J rfl λU J=>aW iM (X.rd 0 rfl).2.1 J (λU J=>?_) rfl;refine x_m J rfl λU J=>wn (a5 _ _ ?_);refine wp_seq_k λc4 a6=>?_;obtain⟨a7,G⟩:=aC G;have hQ0:=aD5 a7 X;clear X;obtain⟨z,rfl,X⟩:=hQ0;refine bZ [0,0,3,0,0,24,63,127] [6] rfl J X (by kernel_rfl) (by kernel_rfl) (by kernel_rfl) (by kernel_rfl) λw X=>?_;obtain⟨N,G⟩:=aC G;obtain⟨I,G⟩:=aC G;refine⟨[(0,.slice (some ⟨z,0,none⟩) a0.length k0),(1,.int .i64 a1),(2,.slice (some ⟨z,0,none⟩) a1.toNat k0),(3,.slice (some ⟨z,0,none⟩) a0.length k0),(4,.int .i64 a2),(5,.slice (if k0=a2.toNat then (some ⟨z,0,none⟩) else (some (⟨z,0,none⟩:Addr)).map (·.add (a2.toNat * 3))) (a0.length - a2.toNat) (k0 - a2.toNat))],?_⟩
 refine dF [0,1,2,3,4,5] [6] (by kernel_rfl) ⟨pm rfl,pm rfl,pt [(20,_),(21,_)] rfl (λU J=>oU iM oK rfl (J.ev rfl) (J.ev rfl) N.1 N.2),pm rfl,pm rfl,pt [(23,_),(24,_)] rfl (λU J=>lX iM oK rfl (J.ev rfl) (J.ev rfl) I.1 I.2.1),trivial⟩ ⟨et [(22,_),(25,_)] rfl (λU J K hK=>?_),trivial⟩;obtain⟨c5,S,G⟩:=bnd G;obtain⟨a8,G⟩:=aC G;refine aYx 0 iM oK J X (aUp (lo:=0) (L0:=a2.toNat) (m:=a0.length) X 0 rfl S ⟨rfl,I.2.2⟩) (aBs S).1 a8 rfl (λw X=>?_) rfl;obtain⟨c6,a9,G⟩:=gQ G;rw [← a9] at X;refine hK _ [(7,.slice (some ⟨z,0,none⟩) (a1.toNat+(a0.length - a2.toNat)) k0)] _ rfl (dU [7] (by kernel_rfl) ⟨pm rfl,trivial⟩ ⟨by kernel_rfl,by kernel_rfl⟩ [(0,_),(7,_)] rfl (λU J=>?_));refine a6 _ _ (ws λc7 b3=>?_);refine xk 2 J rfl λU J=>x_v J (aCj iM rfl (J.ev rfl)) rfl λU J=>x_m J rfl λU J=>?_;obtain⟨b4,G⟩:=aC G;refine x_v (v:=.slice (some ⟨z,(0+(((a1.toNat+(a0.length - a2.toNat)):Nat):Int).toNat) * 3,none⟩) ((a0.length:Int).toNat - (((a1.toNat+(a0.length - a2.toNat)):Nat):Int).toNat) (k0 - (((a1.toNat+(a0.length - a2.toNat)):Nat):Int).toNat)) J (aUd (lo:=0) iM oK rfl (J.ev rfl) (J.ev rfl) (J.ev rfl) b4) rfl λU J=>?_;obtain⟨b5,G⟩:=aC G;refine aWb (lo:=(0+(((a1.toNat+(a0.length - a2.toNat)):Nat):Int).toNat)) (z0:=(((⟨[],[],0⟩:S98),none,0,0):S98×Hd)) 0 iM aVk rfl J X b5 rfl (λU w X J=>?_) rfl;obtain⟨c8,b6,G⟩:=gQ G;rw [← b6] at X;refine wn (b3 _ _ ?_);refine nz 2 J rfl λU J=>?_;obtain⟨c9,b7,G⟩:=bnd G;replace X:=aKa X b7;cases G;refine wp_ret (hQ _ _ ?_);exact lv Tryz.results80 J rfl ⟨some ⟨z,0,none⟩,a1.toNat+(a0.length - a2.toNat),k0,rfl,X⟩
end
theorem aNa {α:Type} {xs:List α} {l u:Nat} (h:l<=u) (hu:u<=xs.length):kX xs (l:Int) (u:Int)=some ((xs.take u).drop l):=by unfold kX; rw [if_pos (by omega)]; simp
theorem gJ {α:Type} {p:Prop} [Decidable p] {x:Option α} (h:p):chk p x=x:=if_pos h
theorem aYz {n:Int} (h : -9223372036854775808<=n) (h':n<=9223372036854775807):IntKind.i64.wrap n=n:=IntWalk.i64_in n ⟨h,h'⟩
theorem bC5 {α β:Type} (e:α) (f:α->Option β):ltt e f=f e:=rfl
section
variable {α:Type}
theorem aEa (A C:List (Option α)) (B:List α) {lo k:Nat} (hlo:A.length=lo) (hk:B.length=k):rdo (A++(B.map some++C)) lo k=some B:=by unfold rdo;rw [if_pos (by simp; omega), ← hlo,List.drop_left, ← hk,show B.length=(B.map some).length by simp,List.take_left,aMa]
theorem aQg (A B:List α) {k:Nat} (m:Nat) (h:A.length=k):(A++B).drop (k+m)=B.drop m:=by subst h; rw [List.drop_append,List.drop_of_length_le (by omega),List.nil_append,Nat.add_sub_cancel_left]
theorem aCt (A B:List α) {k:Nat} (h:A.length=k):(A++B).take k=A:=by subst h; exact List.take_left
theorem aNn (A B:List α) {k:Nat} (h:A.length=k):(A++B).drop k=B:=by subst h; exact List.drop_left
end
theorem aV8 (P D ys:List (S98×Hd)) (k0:Nat) (hk:P.length+D.length<=k0) (hb:(P.length+D.length+ys.length) * 48<=140737488355328) (hm:0<ys.length) :
    eL (P++D) k0 (P.length:Int) ys=some (P++ys++D):=by
  unfold eL;have hl:(P++D).length=P.length+D.length:=List.length_append;have c1:=aNa (xs:=P++D) (l:=P.length) (u:=(P++D).length) (by omega) (Nat.le_refl _);rw [List.take_length,List.drop_left] at c1;rw [c1];simp only [Option.bind_some,bC5];rw [if_neg (by simp only [beq_iff_eq]; omega)];by_cases hD:D=[]
  · subst hD
    rw [if_pos (by simp),gJ (by rw [hl]; simp only [List.length_nil] at hb ⊢; omega)];simp
  have hDl:0<D.length:=List.length_pos_iff.2 hD;rw [if_neg (by simp only [beq_iff_eq,hl]; omega),hl,aYz (n:=((P.length+D.length:Nat):Int)+(ys.length:Int)) (by omega) (by omega),
    show ((P.length+D.length:Nat):Int)+(ys.length:Int)=((P.length+D.length+ys.length:Nat):Int) by omega]
  have e2:IntKind.i64.wrap ((P.length:Int)+(ys.length:Int))=((P.length+ys.length:Nat):Int):=by rw [aYz (by omega) (by omega)]; omega
  have e3:IntKind.i64.wrap (((P.length+D.length+ys.length:Nat):Int) - (P.length:Int))=((D.length+ys.length:Nat):Int):=by rw [aYz (by omega) (by omega)]; omega
  rw [e2,e3];simp only [Int.toNat_natCast,Nat.zero_add];by_cases hg:k0<P.length+D.length+ys.length
  · rw [if_pos (by simp only [decide_eq_true_eq]; omega)]
    have c2:=aNa (xs:=P++D) (l:=0) (u:=P.length) (by omega) (by omega);rw [List.take_left,List.drop_zero,show ((0:Nat):Int)=0 from rfl] at c2;rw [c2];simp only [Option.bind_some];generalize (((⟨[],[],0⟩:S98),none,0,0):S98×Hd)=z;have q0:(P++List.replicate (D.length+ys.length) z).length=P.length+D.length+ys.length:=by simp; omega
    have q1:ys.take (min ys.length (P.length+D.length+ys.length - P.length))=ys:=List.take_of_length_le (by omega);have q2:(P++List.replicate (D.length+ys.length) z).take P.length++ys++(P++List.replicate (D.length+ys.length) z).drop (P.length+ys.length)=P++ys++List.replicate D.length z:=by rw [List.take_left,aQg _ _ _ rfl,List.drop_replicate];congr 2;omega
    rw [gJ (by omega),q0,q1,gJ (by omega),gJ (by omega),q2];have q3:(P++ys++List.replicate D.length z).length=P.length+D.length+ys.length:=by simp; omega
    rw [q3,gJ (by omega)];have q4:D.take (min D.length (P.length+D.length+ys.length - (P.length+ys.length)))=D:=List.take_of_length_le (by omega);rw [q4,gJ (by omega),aCt (P++ys) _ (by simp),List.drop_of_length_le (by omega),List.append_nil]
  · rw [if_neg (by simp only [decide_eq_true_eq]; omega),gJ (by omega),gJ (by omega),gJ (by omega),gJ (by omega),gJ (by omega),gJ (by omega)]
    have e4:(P++D).map some++List.replicate (k0 - (P.length+D.length)) none=P.map some++(D.map some++List.replicate (k0 - (P.length+D.length)) none):=by simp
    rw [e4,aEa (P.map some) _ D (by simp) (by omega)];simp only [Option.bind_some];have q1:ys.take (min ys.length (P.length+D.length+ys.length - P.length))=ys:=List.take_of_length_le (by omega);rw [gJ (by omega),gJ (by omega),q1,gJ (by omega)];generalize hN:List.replicate (k0 - (P.length+D.length)) (none:Option (S98×Hd))=N;have hNl:N.length=k0 - (P.length+D.length):=by rw [← hN]; simp
    obtain⟨O,hO⟩:∃ O,O=P.map some++(D.map some++N):=⟨_,rfl⟩;rw [← hO];have hOl:O.length=k0:=by rw [hO]; simp [hNl]; omega
    have q5:(O.take (P.length+ys.length)).length=P.length+ys.length:=by rw [List.length_take]; omega
    have q6:(O.take (P.length+ys.length)++D.map some++O.drop (P.length+ys.length+D.length)).take P.length=P.map some:=by rw [List.append_assoc,List.take_append_of_le_length (by omega),List.take_take,Nat.min_eq_left (by omega),hO,aCt _ _ (by simp)]
    have q7:(O.take (P.length+ys.length)++D.map some++O.drop (P.length+ys.length+D.length)).drop (P.length+ys.length)=D.map some++O.drop (P.length+ys.length+D.length):=by rw [List.append_assoc,aNn _ _ q5]
    rw [q6,q7];have q8:P.map some++ys.map some++(D.map some++O.drop (P.length+ys.length+D.length))=[]++((P++ys++D).map some++O.drop (P.length+ys.length+D.length)):=by simp
    rw [q8,aEa [] _ (P++ys++D) (lo:=0) (k:=P.length+D.length+ys.length) rfl (by simp; omega)];rfl
theorem aVx (P D:List (S98×Hd)) (x:S98×Hd) (k0:Nat) (hk:P.length+1+D.length<=k0) (hb:k0<=9223372036854775807) :
    eK (P++x::D) k0 (P.length:Int) ((P.length:Int)+1)=some (P++D):=by
  unfold eK;have hl:(P++x::D).length=P.length+1+D.length:=by simp; omega
  have t1:((P.length:Int)+1).toNat=P.length+1:=by omega
  rw [hl,t1,gJ (by omega),if_neg (by simp; omega),gJ (by omega),gJ (by omega),gJ (by omega)];simp only [Int.toNat_natCast,Nat.zero_add,bC5];rw [show P.length+1+D.length - (P.length+1)=D.length by omega];generalize hN:List.replicate (k0 - (P.length+1+D.length)) (none:Option (S98×Hd))=N;have hNl:N.length=k0 - (P.length+1+D.length):=by rw [← hN]; simp
  have e4:(P++x::D).map some++N=(P.map some++[some x])++(D.map some++N):=by simp
  rw [e4,aEa (P.map some++[some x]) N D (by simp) rfl];simp only [Option.bind_some];obtain⟨O,hO⟩:∃ O,O=(P.map some++[some x])++(D.map some++N):=⟨_,rfl⟩;rw [← hO];have hOl:O.length=k0:=by rw [hO]; simp [hNl]; omega
  have q6:O.take P.length=P.map some:=by rw [hO,List.append_assoc,aCt _ _ (by simp)]
  rw [q6,gJ (by omega),gJ (by omega),show P.length+1+D.length - (P.length+D.length)=1 by omega,gJ (by omega)];have q9:((P.map some++D.map some++O.drop (P.length+D.length)).take (P.length+D.length))=(P++D).map some:=by rw [aCt _ _ (by simp)]; simp
  rw [q9];have q8:∀ X Y:List (Option (S98×Hd)),(P++D).map some++X++Y=[]++((P++D).map some++(X++Y)):=by intro X Y; simp
  rw [q8,aEa [] _ (P++D) (lo:=0) (k:=P.length+D.length) rfl (by simp)];rfl
section
variable {r w:World} {L:List HP} {α β:Type} {d:Kd β} {e':TypeId} {g:α->List β}
theorem aBb:∀ {ps qs:List (α×Hd)} {L:List HP} {S:Nat->Prop},Sep (uF d e' g ps::uF d e' g qs::L) w S->Sep (uF d e' g (ps++qs)::L) w S
  | [],qs,L,S,h=>by have h1:Sep ([]++(uF d e' g qs::L)) w S:=Sep.unstar (Ls:=[]) h;exact h1
  | p::ps,qs,L,S,h=>qN.2 ((qN.1 h).tl λS hS=>aBb hS)
theorem aFv:∀ {ps qs:List (α×Hd)} {L:List HP} {S:Nat->Prop},Sep (uF d e' g (ps++qs)::L) w S->Sep (uF d e' g ps::uF d e' g qs::L) w S
  | [],qs,L,S,h=>Sep.star (Ls:=[]) h
  | p::ps,qs,L,S,h=>qN.2 ((qN.1 h).tl λS hS=>aFv hS)
end
abbrev oF (A:Option Addr) (n c:Nat) (xs:List S98):HP:=own2 kp98 (kI .u8) 5 (λx:S98=>x.f1) 98 A n c xs
def aN3 (xs:List S98) (i:Int) (ys:List S98):Option (List S98):=if 0<=i/\i<=(xs.length:Int)/\0<ys.length/\(xs.length+ys.length) * 48<=140737488355328 then some (xs.take i.toNat++ys++xs.drop i.toNat) else none
def aWd (xs:List S98) (i j:Int):Option (List S98):=if 0<=i/\i<(xs.length:Int)/\j=i+1 then some (xs.eraseIdx i.toNat) else none
theorem aXr {r w:World} {L:List HP} (xs:List S98) (i:Int) (ys:List S98) {A B:Option Addr} {n c m c2:Nat} {y:List S98} (hF:aN3 xs i ys=some y) (hS:SH r (oF A n c xs::oF B m c2 ys::L) w) :
    Ret Tryz.prog 91 #[.slice A n c,.int .i64 i,.slice B m c2] w λv w'=>∃ (A':Option Addr) (n' c':Nat),v=.slice A' n' c'/\SH r (oF A' n' c' y::L) w':=by
  unfold aN3 at hF;split at hF
  · rename_i hi
    cases hF;obtain⟨ps,hps,h1⟩:=aFm hS;have h2:SH r (oF B m c2 ys::own kp98 98 A n c ps::uF (kI .u8) 5 (λx:S98=>x.f1) ps::L) w:=h1.sh λS hS=>(hS.tl λS hS=>hS.swap).swap;obtain⟨qs,hqs,h3⟩:=aFm h2;have h4:SH r (own kp98 98 A n c ps::own kp98 98 B m c2 qs::uF (kI .u8) 5 (λx:S98=>x.f1) ps::uF (kI .u8) 5 (λx:S98=>x.f1) qs::L) w:=h3.sh λS hS =>
      (hS.tl λS hS=>(hS.swap).tl λS hS=>hS.swap).swap
    have hpl:ps.length=xs.length:=by rw [← hps,List.length_map]
    have hql:qs.length=ys.length:=by rw [← hqs,List.length_map]
    obtain⟨hr,hn,hnc,hcm⟩:=h4.rd 0 rfl;have hpd:ps.take i.toNat++ps.drop i.toNat=ps:=List.take_append_drop _ _;have hpt:(ps.take i.toNat).length=i.toNat:=by rw [List.length_take]; omega
    have hdl:(ps.drop i.toNat).length=xs.length - i.toNat:=by rw [List.length_drop]; omega
    have e:=aV8 (ps.take i.toNat) (ps.drop i.toNat) qs c (by omega) (by omega) (by omega);rw [hpd,hpt,Int.toNat_of_nonneg hi.1] at e;refine Calls.mono (sB e h4 :) ?_;rintro ev w' ⟨v,hv,A',n',c',hv2,h5⟩;refine⟨v,hv,A',n',c',hv2,aCq (ps:=ps.take i.toNat++qs++ps.drop i.toNat) ?_ (h5.tl λS hS=>?_)⟩
    · rw [List.map_append,List.map_append,List.map_take,List.map_drop,hps,hqs]
    · rw [← hpd] at hS
      have s1:=aFv hS;have s2:=s1.tl λS hS=>hS.swap;rw [List.append_assoc];exact aBb (s2.tl λS hS=>aBb hS)
  · cases hF
theorem aSf {r w:World} {L:List HP} {xs:List S98} {i:Int} {ps:List (S98×Hd)} {p:S98×Hd} {A:Option Addr} {n c:Nat} (hps:ps.map Prod.fst=xs) (hp:at_ ps i=some p) (hS:SH r (own kp98 98 A n c ps::uF (kI .u8) 5 (λx:S98=>x.f1) (ps.eraseIdx i.toNat)::L) w) :
    Ret Tryz.prog 80 #[.slice A n c,.int .i64 i,.int .i64 (i+1)] w λv w'=>∃ (A':Option Addr) (n' c':Nat),v=.slice A' n' c'/\SH r (oF A' n' c' (xs.eraseIdx i.toNat)::L) w':=by
  obtain⟨hi0,hil,hip⟩:=jJ hp;obtain⟨hr,hn,hnc,hcm⟩:=hS.rd 0 rfl;obtain⟨hlt,hpp⟩:=List.getElem?_eq_some_iff.1 hip;have hpd:ps.take i.toNat++p::ps.drop (i.toNat+1)=ps:=by rw [← hpp, ← List.drop_eq_getElem_cons hlt,List.take_append_drop]
  have hpt:(ps.take i.toNat).length=i.toNat:=by rw [List.length_take]; omega
  have hdl:(ps.drop (i.toNat+1)).length=ps.length - (i.toNat+1):=List.length_drop;have hcb:c<=9223372036854775807:=by unfold maxLen at hcm; omega
  have e:=aVx (ps.take i.toNat) (ps.drop (i.toNat+1)) p c (by omega) hcb;rw [hpd,hpt,Int.toNat_of_nonneg hi0] at e;refine Calls.mono (rX e hS :) ?_;rintro ev w' ⟨v,hv,A',n',c',hv2,h5⟩;refine⟨v,hv,A',n',c',hv2,?_⟩;rw [← List.eraseIdx_eq_take_drop_succ] at h5;refine aCq (ps:=ps.eraseIdx i.toNat) ?_ h5;rw [← hps,List.eraseIdx_eq_take_drop_succ,List.eraseIdx_eq_take_drop_succ,List.map_append,List.map_take,List.map_drop]
theorem aYa {r w:World} {L:List HP} {xs:List S98} {i j:Int} {ps:List (S98×Hd)} {p:S98×Hd} {A:Option Addr} {n c:Nat} (hj:j=i+1) (hps:ps.map Prod.fst=xs) (hp:at_ ps i=some p) (hS:SH r (own kp98 98 A n c ps::uF (kI .u8) 5 (λx:S98=>x.f1) (ps.eraseIdx i.toNat)::L) w) :
    Ret Tryz.prog 80 #[.slice A n c,.int .i64 i,.int .i64 j] w λv w'=>∃ (A':Option Addr) (n' c':Nat),v=.slice A' n' c'/\SH r (oF A' n' c' (xs.eraseIdx i.toNat)::L) w':=by
  subst hj;exact aSf hps hp hS
theorem bCe {r w:World} {L:List HP} (xs:List S98) (i j:Int) {A:Option Addr} {n c:Nat} {y:List S98} (hF:aWd xs i j=some y) (hS:SH r (oF A n c xs::L) w) :
    Ret Tryz.prog 80 #[.slice A n c,.int .i64 i,.int .i64 j] w λv w'=>∃ (A':Option Addr) (n' c':Nat),v=.slice A' n' c'/\SH r (oF A' n' c' y::L) w':=by
  unfold aWd at hF;split at hF
  · rename_i hi
    cases hF;obtain⟨h0,h1,rfl⟩:=hi;have hx:at_ xs i=some (xs[i.toNat]'(by omega)):=by unfold at_; rw [if_pos h0,List.getElem?_eq_getElem]
    obtain⟨ps,A',n',c',hps,hp,h2⟩:=aAf hS hx;have h3:SH r (own kp98 98 A n c ps::uF (kI .u8) 5 (λx:S98=>x.f1) (ps.eraseIdx i.toNat)::L) w:=h2.sh λS hS=>hS.tl λS hS=>by obtain⟨S1,S2,q1,q2,qd,hA,hL⟩:=hS;exact hL.mono q2
    exact aSf hps hp h3
  · cases hF
noncomputable section
set_option linter.unusedSimpArgs false
def sX (a0:(List UInt8)):Option (Bool) :=
  if (!(a0==[]))=true then (some (decide ((a0.length:Int)<=32))) else (some false)
def wY (a0:(List UInt8)):Option (Bool) :=
  sX a0
def iO (z:Int) (C:Bool):Option ((Int)⊕((Unit)⊕(Bool))) :=
  if C=true then (some (.inr (.inr false))) else (ltt (IntKind.i64.wrap (z+1)) λG=>(some (.inl (G))))
def fX (a0:(List UInt8)) (z:Int):Option ((Int)⊕((Unit)⊕(Bool))) :=
  if (decide (z<(a0.length:Int)))=true then ((at_ a0 z).bind λC=>(if ((C.toNat:Int) != 46)=true then (if (decide ((C.toNat:Int)<48))=true then (if (decide ((C.toNat:Int)<97))=true then (iO z true) else (iO z (decide (122<(C.toNat:Int))))) else (if (decide (57<(C.toNat:Int)))=true then (if (decide ((C.toNat:Int)<97))=true then (iO z true) else (iO z (decide (122<(C.toNat:Int))))) else (iO z false))) else (iO z false))) else (some (.inr (.inl ())))
def rG (a0:(List UInt8)):Option (Bool) :=
  (loop (λs=>fX a0 s) (0)).bind λt=>match t with | (.inl t)=>wY a0 | (.inr t)=>some t
def jZ (a0:S98) (a1:(List UInt8)):Option (Int) :=
  if (Op.bytesLess a0.f0 a1)=true then (some (-1)) else (if (!(Op.bytesLess a0.f0 a1||a0.f0==a1))=true then (some 1) else (some 0))
def bW (a0:(List S98)) (a1:(List UInt8)) (z:Int):Option (Int×Bool) :=
  if (decide (z<(a0.length:Int)))=true then ((at_ a0 z).bind λC=>((jZ C a1).bind λG=>(some (z,G==0)))) else (some (z,false))
def bN (a0:(List S98)) (a1:(List UInt8)) (z:Int):Option (Int×Bool) :=
  bW a0 a1 z
def bE (z:Int) (C:Int):Option ((Int×Int)⊕((Int))) :=
  some (.inl (z,C))
def aU (a0:(List S98)) (a1:(List UInt8)) (z:Int) (C:Int):Option ((Int×Int)⊕((Int))) :=
  if (decide (z<C))=true then (ltt (IntKind.i64.wrap (z+C)) λI=>(ltt (IntKind.u64.wrap I) λJ=>(ltt (pH .u64 J 1) λN=>(ltt (IntKind.i64.wrap N) λG=>((at_ a0 G).bind λS=>((jZ S a1).bind λU=>(if (decide (U<0))=true then (ltt (IntKind.i64.wrap (G+1)) λX=>(bE X C)) else (bE z G)))))))) else (some (.inr (z)))
def bJ (a0:(List S98)) (a1:(List UInt8)):Option (Int×Bool) :=
  (loop (λs=>aU a0 a1 s.1 s.2) (0,(a0.length:Int))).bind λt=>bN a0 a1 t
def eD (a0:S77) (a1:(List UInt8)):Option (Int×Bool) :=
  (bJ a0.f0 a1).bind λz=>(some (z.1,z.2))
def cQ (a0:(Option S77)) (a1:(List UInt8)):Option (Int) :=
  match a0 with | none=>(some 5) | some z=>((rG a1).bind λC=>(if (!C)=true then (some 1) else (if z.f3=true then (some 9) else (some 0))))
def nZ (a0:S77) (C:Int) (G:Int) (z:Bool):Option (Bool×S77) :=
  some (!z,(⟨a0.f0,a0.f1,G,z,C⟩:S77))
def gP (a0:S77):Option (Bool×S77) :=
  ltt (IntKind.i64.wrap (a0.f4+1)) λz=>(if (decide (0<a0.f2))=true then (ltt (IntKind.i64.wrap (a0.f2 - 1)) λC=>(nZ a0 z C (C==0))) else (nZ a0 z a0.f2 a0.f3))
def sR (z:Int):Option (Int) :=
  some z
def qW (z:Int):Option (Int) :=
  sR z
def dK (C:S77) (G:Int) (z:Int):Option ((Int×Int)⊕((Int))) :=
  if (decide (z<(C.f0.length:Int)))=true then ((at_ C.f0 z).bind λI=>(ltt (IntKind.i64.wrap (G+(I.f1.length:Int))) λJ=>(ltt (IntKind.i64.wrap (z+1)) λN=>(some (.inl (J,N)))))) else (some (.inr (G)))
def pE (a0:(Option S77)):Option (Int) :=
  match a0 with | none=>(some 0) | some z=>((loop (λs=>dK z s.1 s.2) (0,0)).bind λt=>qW t)
def sQ (z:(List (List UInt8))):Option ((List (List UInt8))) :=
  some z
def qV (z:(List (List UInt8))):Option ((List (List UInt8))) :=
  sQ z
def dM (G:S77) (z:(List (List UInt8))) (C:Int):Option (((List (List UInt8))×Int)⊕(((List (List UInt8))))) :=
  if (decide (C<(G.f0.length:Int)))=true then ((at_ G.f0 C).bind λI=>(chk (z.length+[I.f0].length<=140737488355328 / 16) (ltt (IntKind.i64.wrap (C+1)) λJ=>(some (.inl (z++[I.f0],J)))))) else (some (.inr (z)))
def jU (a0:(Option S77)):Option ((List (List UInt8))) :=
  match a0 with | none=>(some []) | some z=>((loop (λs=>dM z s.1 s.2) ([],0)).bind λt=>qV t)
def uQ (a0:Int) (z:Bool):Option ((Option S77)×Int) :=
  if z=true then (some (none,1)) else (some (some (⟨[],a0,0,false,0⟩:S77),0))
def vQ (a0:Int):Option ((Option S77)×Int) :=
  if (decide (a0<1))=true then (uQ a0 true) else (uQ a0 (decide (16777216<a0)))
def gR (a2:(List Int)) (G:(Int×Bool)) (z:(Bool×S77)) (I:(List S98)):Option (Int×(Option S77)) :=
  (at_ I G.1).bind λC=>(chk (C.f1.length+a2.length<=140737488355328 / 1) (if (!z.1)=true then (some (9,some (⟨I.set G.1.toNat (⟨C.f0,C.f1++a2,C.f2⟩:S98),z.2.f1,z.2.f2,z.2.f3,z.2.f4⟩:S77))) else (some (0,some (⟨I.set G.1.toNat (⟨C.f0,C.f1++a2,C.f2⟩:S98),z.2.f1,z.2.f2,z.2.f3,z.2.f4⟩:S77)))))
def eA (a1:(List UInt8)) (a2:(List Int)) (G:S77) (z:(Int×Bool)) (I:Bool):Option (Int×(Option S77)) :=
  if I=true then (some (10,some G)) else ((gP G).bind λC=>(if (!z.2)=true then ((aN3 C.2.f0 z.1 [(⟨a1,[],0⟩:S98)]).bind λJ=>(gR a2 z C J)) else (gR a2 z C C.2.f0)))
def pK (a0:(Option S77)) (a1:(List UInt8)) (a2:(List Int)):Option (Int×(Option S77)) :=
  match a0 with | none=>((cQ none a1).bind λG=>(if (G != 0)=true then (some (G,none)) else (none))) | some z=>((cQ (some z) a1).bind λI=>(if (I != 0)=true then (some (I,some z)) else ((eD z a1).bind λC=>((pE (some z)).bind λJ=>(ltt (IntKind.i64.wrap (z.f1 - J)) λN=>(if (decide (N<(a2.length:Int)))=true then (eA a1 a2 z C true) else (if (!C.2)=true then (eA a1 a2 z C (decide (500<=(z.f0.length:Int)))) else (eA a1 a2 z C false))))))))
def jT (a0:(Option S77)) (a1:(List UInt8)):Option ((List Int)×Int) :=
  match a0 with | none=>((cQ none a1).bind λC=>(if (C != 0)=true then (some ([],C)) else (none))) | some z=>((cQ (some z) a1).bind λG=>(if (G != 0)=true then (some ([],G)) else ((eD z a1).bind λI=>(if (!I.2)=true then (some ([],5)) else ((at_ z.f0 I.1).bind λJ=>((dE J.f1).bind λN=>(some (N,0))))))))
end
section
variable {r:World} {L:List HP} {w:World} {Z:Nat->Prop} {wz:World}
theorem aD9 {a0 y} (G:rG a0=some y) (X:SH r (L) w) :
  Ret Tryz.prog 70 #[str a0] w λv w'=>v=.bool y/\SH r (L) w':=by
 refine enter Tryz.func70 rfl Tryz.ntmps70 [(0,_)] rfl (by simp) ?_;intro U J Qf hQ hQn;unfold rG at G;refine nz 1 J rfl λU J=>wp_seq_k λd3 b3=>ws λd4 b4=>xk 1 J rfl λU J=>x_v J (aBx uu9 rfl (J.ev rfl)) rfl λU J=>x_m J rfl λU J=>wn (b4 _ _ ?_);refine aA λa4 b5=>?_;have hb1:sX a0=some y->∀U w,FR 39 [] U [(0,str a0)]->SH r (L) w->a4 U w:=by
  intro G U w J X;unfold sX at G;refine b5 _ _ (b3 _ _ ?_);refine ws λd5 a5=>xk 1 J rfl λU J=>x_v J (aJn rfl (J.ev rfl) (J.ev rfl)) rfl λU J=>x_m J rfl λU J=>bcG G (λI G=>?_) λI G=>?_
  ·refine xg 1 I J rfl rfl λU J=>aN I J ?_ rfl;refine x_v J (aBx uu9 rfl (J.ev rfl)) rfl λU J=>ng 3 I J rfl rfl λU J=>?_;cases G;refine a5 _ _ (wp_ret ?_);refine hQ _ _ (lv Tryz.results70 J rfl ?_);exact⟨rfl,X⟩
  refine ng 5 I J rfl rfl λU J=>?_;cases G;refine a5 _ _ (wp_ret ?_);refine hQ _ _ (lv Tryz.results70 J rfl ?_);exact⟨rfl,X⟩
 obtain⟨b6,b7,G⟩:=bnd G;have b8:=G;have b9:(.inl ())=b6->∀U w,FR 39 [] U [(0,str a0)]->SH r (L) w->a4 U w:=by intro ht U w J X;subst ht;replace G:wY a0=some y:=G;unfold wY at G;exact hb1 G U w (J.sub _ rfl) X
 refine aT b7 (λs U w=>FR 39 [] U [(0,str a0),(6,.int .i64 (a0.length:Int)),(7,.int .i64 s)]/\SH r (L) w) ⟨J.sub _ rfl,X⟩ ?_;intro d6 c0 a6 G c4 a7 U w hLab;obtain⟨a1,rfl⟩:∃ q,q=c0:=⟨_,rfl⟩;replace G:fX a0 a1=some a6:=G;unfold fX at G
 try dsimp only at hLab
 obtain⟨J,X⟩:=hLab;refine nz 1 J rfl λU J=>wp_seq_k λd7 c5=>aX J G rfl (λc6 G=>?_) λc6 G=>?_
 ·refine wp_skip (c5 _ _ ?_);refine wp_seq_k λd8 c7=>aA λd9 c8=>nz 2 J rfl λU J=>ws λe1 c9=>xk 2 J rfl λU J=>?_;obtain⟨a8,a9,G⟩:=bnd G;refine x_v J (aL7 uu9 rfl (J.ev rfl) (J.ev rfl) (jJ a9).1 (jJ a9).2.2) rfl λU J=>x_m J rfl λU J=>wn (c9 _ _ ?_);refine wp_seq_k λd0 d1=>?_;have hj1:∀a3,iO a1 a3=some a6->∀U w,FR 39 [] U [(0,str a0),(6,.int .i64 (a0.length:Int)),(7,.int .i64 a1),(30,.bool a3)]->SH r (L) w->d0 U w:=by
   intro a3 G U w J X;unfold iO at G;refine d1 _ _ (aX J G rfl (λd2 G=>?_) λd2 G=>?_)
   ·refine nz 1 J rfl λU J=>?_;cases G;refine wp_ret ?_;have ht:=a7 _ rfl;subst ht;replace G:=b8;replace G:some false=some y:=G;cases G;refine hQ _ _ (lv Tryz.results70 J rfl ?_);exact⟨rfl,X⟩
   refine wp_skip (c8 _ _ ?_);refine c7 _ _ (aD ?_);refine x_l G J rfl λe2 _ U J G=>x_m J rfl λU J=>wpList_nil ?_;cases G;exact⟨_,c4 _ rfl,J.sub _ rfl,X⟩
  refine aD (xk 3 J rfl λU J=>?_);refine bcG G (λz G=>?_) λz G=>?_
  ·refine xg 3 z J rfl rfl λU J=>bcG G (λN G=>?_) λN G=>?_
   ·refine xg 2 N J rfl rfl λU J=>aN z J ?_ rfl;refine xg 1 N J rfl rfl λU J=>xg 2 z J rfl rfl λU J=>aN rfl J ?_ rfl;refine x_m J rfl λU J=>aN rfl J ?_ rfl;refine xk 1 J rfl λU J=>aN rfl J ?_ rfl;refine x_m J rfl λU J=>bcG G (λS G=>?_) λS G=>?_
    ·refine xg 2 S J rfl rfl λU J=>aN rfl J ?_ rfl;refine xg 1 S J rfl rfl λU J=>oQ rfl J (λU J=>?_) rfl;exact wpList_nil (hj1 true G U w (J.sub _ rfl) X)
    refine xg 2 S J rfl rfl λU J=>aN rfl J ?_ rfl;refine xg 1 S J rfl rfl λU J=>oQ rfl J (λU J=>?_) rfl;exact wpList_nil (hj1 (decide (122<(a8.toNat:Int))) G U w (J.sub _ rfl) X)
   refine xg 2 N J rfl rfl λU J=>aN z J ?_ rfl;refine xg 1 N J rfl rfl λU J=>xg 2 z J rfl rfl λU J=>bcG G (λC G=>?_) λC G=>?_
   ·refine xg 3 C J rfl rfl λU J=>bcG G (λY G=>?_) λY G=>?_
    ·refine xg 2 Y J rfl rfl λU J=>aN C J ?_ rfl;exact xg 1 Y J rfl rfl λU J=>ng 1 C J rfl rfl λU J=>hj1 true G U w (J.sub _ rfl) X
    refine xg 2 Y J rfl rfl λU J=>aN C J ?_ rfl;exact xg 1 Y J rfl rfl λU J=>ng 1 C J rfl rfl λU J=>hj1 (decide (122<(a8.toNat:Int))) G U w (J.sub _ rfl) X
   exact ng 7 C J rfl rfl λU J=>hj1 false G U w (J.sub _ rfl) X
  refine xg 8 z J rfl rfl λU J=>xO 3 rfl J rfl λU J=>xk 2 J rfl λU J=>xO 1 rfl J rfl λU J=>cD rfl J (λU J=>?_) rfl;exact wpList_nil (hj1 false G U w (J.sub _ rfl) X)
 cases G;exact wp_exit (b9 (a7 _ rfl) U w (J.sub _ rfl) X)
theorem wQ {a0 a1 A0 n0 c0 y} (G:jZ a0 a1=some y) (X:SH r (L) w) :
  Ret Tryz.prog 72 #[.agg #[str a0.f0,.slice A0 n0 c0,.int .i64 a0.f2],str a1] w λv w'=>v=.int .i64 y/\SH r (L) w':=by
 refine enter Tryz.func72 rfl Tryz.ntmps72 [(0,_),(1,_)] rfl (by simp) ?_;intro U J Qf hQ hQn;unfold jZ at G;refine ws λa4 z=>mF J X (λa5 U w X J=>?_) rfl;refine x_m J rfl λU J=>wn (z _ _ ?_);refine wp_seq_k λa6 C=>aA λa7 I=>ws λa8 N=>aO aJ6 J (λU J=>?_) rfl;refine aM uu9 (X.cell 0 rfl 0 _ rfl) J (λU J=>?_) rfl;refine x_m J rfl λU J=>x_v J (aP0 rfl (J.ev rfl) (J.ev rfl)) rfl λU J=>x_m J rfl λU J=>wn (N _ _ ?_);refine aX J G rfl (λS G=>?_) λS G=>?_
 ·refine nz 1 J rfl λU J=>?_;replace X:=X.drop 0;cases G;refine wp_ret (hQ _ _ ?_);exact lv Tryz.results72 J rfl ⟨rfl,X⟩
 refine ws λa9 Y=>aO aJ6 J (λU J=>?_) rfl;refine aM uu9 (X.cell 0 rfl 0 _ rfl) J (λU J=>?_) rfl;refine x_m J rfl λU J=>x_v J (bAk rfl (J.ev rfl) (J.ev rfl)) rfl λU J=>x_m J rfl λU J=>wn (Y _ _ ?_);refine aX J G rfl (λa3 G=>?_) λa3 G=>?_
 ·refine nz 1 J rfl λU J=>?_;replace X:=X.drop 0;cases G;refine wp_ret (hQ _ _ ?_);exact lv Tryz.results72 J rfl ⟨rfl,X⟩
 refine wp_skip (I _ _ ?_);refine C _ _ (nz 1 J rfl λU J=>?_);replace X:=X.drop 0;cases G;refine wp_ret (hQ _ _ ?_);exact lv Tryz.results72 J rfl ⟨rfl,X⟩
theorem lF {a0 a1 A0 n0 c0 y} (G:bJ a0 a1=some y) (X:SH r (L) w) (ha0:RdL L (kL kp98 (λx:S98=>x.f1)) A0 n0 c0 a0) :
  Ret Tryz.prog 71 #[.slice A0 n0 c0,str a1,.func (.func 72) #[] #[]] w λv w'=>v=.tuple #[(.int .i64 y.1),(.bool y.2)]/\SH r (L) w':=by
 refine enter Tryz.func71 rfl Tryz.ntmps71 [(0,_),(1,_),(2,_)] rfl (by simp) ?_;intro U J Qf hQ hQn;unfold bJ at G;refine nz 2 J rfl λU J=>ws λe7 b4=>xk 1 J rfl λU J=>aW iM (X.rdl 0 ha0 rfl).2.1 J (λU J=>?_) rfl;refine x_m J rfl λU J=>wn (b4 _ _ ?_);refine nz 3 J rfl λU J=>wp_seq_k λe8 b5=>aA λa3 b6=>?_;have hb1:∀I,bW a0 a1 I=some y->∀U w,FR 49 [] U [(0,.slice A0 n0 c0),(1,str a1),(2,.func (.func 72) #[] #[]),(8,.int .i64 (a0.length:Int)),(9,.int .i64 I)]->SH r (L) w->a3 U w:=by
  intro I G U w J X;unfold bW at G;refine b6 _ _ (b5 _ _ ?_);refine ws λe9 a4=>xk 5 J rfl λU J=>bcG G (λz G=>?_) λz G=>?_
  ·refine xg 3 z J rfl rfl λU J=>aN z J ?_ rfl;obtain⟨a5,a6,G⟩:=bnd G;refine fK iM oK (X.rdl 0 ha0 rfl) a6 J (λU J=>?_) rfl;refine aN z J ?_ rfl;obtain⟨cs,hV,b7⟩:=el (X.rdl 0 ha0 rfl) a6;obtain⟨⟨b8,b9,c4⟩,hV,f3⟩:=hV;obtain rfl:=hV;refine iL (cs:=[str a5.f0,.slice b8 b9 c4,.int .i64 a5.f2]) aOs oK (λj u h=>by rw [iD]; exact b7 _ _ h) J (λU J=>?_) rfl;refine xg 1 z J rfl rfl λU J=>aN z J ?_ rfl;obtain⟨f4,c5,G⟩:=bnd G;refine x_c bA8 J rfl (wQ c5 X :) λv U w hR J=>?_;obtain⟨rfl,X⟩:=hR;refine ng 4 z J rfl rfl λU J=>?_;cases G;refine a4 _ _ (wp_ret ?_);refine hQ _ _ (lv2 Tryz.results71 J rfl rfl ?_);exact⟨rfl,X⟩
  refine ng 11 z J rfl rfl λU J=>?_;cases G;refine a4 _ _ (wp_ret ?_);refine hQ _ _ (lv2 Tryz.results71 J rfl rfl ?_);exact⟨rfl,X⟩
 obtain⟨c6,c7,G⟩:=bnd G;have c8:∀C,(C)=c6->∀U w,FR 49 [] U [(0,.slice A0 n0 c0),(1,str a1),(2,.func (.func 72) #[] #[]),(8,.int .i64 (a0.length:Int)),(9,.int .i64 C)]->SH r (L) w->a3 U w:=by intro C ht U w J X;subst ht;replace G:bN a0 a1 C=some y:=G;unfold bN at G;exact hb1 C G U w (J.sub _ rfl) X
 refine aT c7 (λs U w=>FR 49 [] U [(0,.slice A0 n0 c0),(1,str a1),(2,.func (.func 72) #[] #[]),(8,.int .i64 (a0.length:Int)),(9,.int .i64 s.1),(10,.int .i64 s.2)]/\SH r (L) w) ⟨J.sub _ rfl,X⟩ ?_;intro f5 c9 a7 G d0 d1 U w hLab;obtain⟨N,a8⟩:=c9;replace G:aU a0 a1 N a8=some a7:=G;unfold aU at G
 try dsimp only at hLab
 obtain⟨J,X⟩:=hLab;refine wp_seq_k λf6 d2=>nz 3 J rfl λU J=>aX J G rfl (λd3 G=>?_) λd3 G=>?_
 ·refine wp_skip (d2 _ _ ?_);refine aA λd4 d5=>?_;have hb2:∀S Y,bE S Y=some a7->∀U w,FR 49 [] U [(0,.slice A0 n0 c0),(1,str a1),(2,.func (.func 72) #[] #[]),(8,.int .i64 (a0.length:Int)),(9,.int .i64 S),(10,.int .i64 Y)]->SH r (L) w->d4 U w:=by intro S Y G U w J X;unfold bE at G;cases G;exact d5 _ _ ⟨_,d0 _ rfl,J.sub _ rfl,X⟩
  refine ws λf7 d6=>xk 2 J rfl λU J=>x_l G J rfl λf8 _ U J G=>eP G J (aQ uu3 aPw rfl (J.ev rfl)) rfl λf9 _ U J G=>eP G J (uI rfl (J.ev rfl) (J.ev rfl) (by decide)) rfl λg0 _ U J G=>eP G J (aQ aPw uu3 rfl (J.ev rfl)) rfl λd7 _ U J G=>x_m J rfl λU J=>wn (d6 _ _ ?_);refine ws λg1 d8=>xk 3 J rfl λU J=>?_;obtain⟨a9,b3,G⟩:=bnd G;refine fK iM oK (X.rdl 0 ha0 rfl) b3 J (λU J=>?_) rfl;obtain⟨cs,hV,d9⟩:=el (X.rdl 0 ha0 rfl) b3;obtain⟨⟨e1,e2,e3⟩,hV,g2⟩:=hV;obtain rfl:=hV;refine iL (cs:=[str a9.f0,.slice e1 e2 e3,.int .i64 a9.f2]) aOs oK (λj u h=>by rw [iD]; exact d9 _ _ h) J (λU J=>?_) rfl;refine x_m J rfl λU J=>?_;obtain⟨g3,e4,G⟩:=bnd G;refine x_c bA8 J rfl (wQ e4 X :) λv U w hR J=>?_;obtain⟨rfl,X⟩:=hR;refine nk 1 J rfl λU J=>d8 _ _ (aX J G rfl (λe5 G=>?_) λe5 G=>?_)
  ·refine aD (x_m J rfl λU J=>?_);exact x_l G J rfl λe6 _ U J G=>x_m J rfl λU J=>wpList_nil (hb2 e6 a8 G U w (J.sub _ rfl) X)
  refine aD (nk 2 J rfl λU J=>?_);exact hb2 N d7 G U w (J.sub _ rfl) X
 cases G;exact wp_exit (c8 N (d1 _ rfl) U w (J.sub _ rfl) X)
theorem kA {a0 a1 g0 A0_0 n0_0 c0_0 y} (G:eD a0 a1=some y) (X:SH r (blk g0 77 [.slice A0_0 n0_0 c0_0,.int .i64 a0.f1,.int .i64 a0.f2,.bool a0.f3,.int .i64 a0.f4]::own2 kp98 (kI .u8) 5 (λx:S98=>x.f1) 98 A0_0 n0_0 c0_0 a0.f0::L) w) :
  Ret Tryz.prog 44 #[.pointer (some ⟨g0,0,none⟩),str a1] w λv w'=>v=.tuple #[(.int .i64 y.1),(.bool y.2)]/\SH r (blk g0 77 [.slice A0_0 n0_0 c0_0,.int .i64 a0.f1,.int .i64 a0.f2,.bool a0.f3,.int .i64 a0.f4]::own2 kp98 (kI .u8) 5 (λx:S98=>x.f1) 98 A0_0 n0_0 c0_0 a0.f0::L) w':=by
 refine enter Tryz.func44 rfl Tryz.ntmps44 [(0,_),(1,_)] rfl (by simp) ?_;intro U J Qf hQ hQn;unfold eD at G;refine nz 2 J rfl λU J=>ws λI z=>xk 2 J rfl λU J=>aO oC J (λU J=>?_) rfl;refine aM iM (X.cell 0 rfl 0 _ rfl) J (λU J=>?_) rfl;refine x_m J rfl λU J=>?_;obtain⟨N,C,G⟩:=bnd G;refine x_c bDw J rfl (lF C X (RdL.own2 1 rfl (X.dropN 0)) :) λv U w hR J=>?_;obtain⟨rfl,X⟩:=hR;refine nk 4 J rfl λU J=>?_;replace X:=X.pk 1 |>.pk 1;cases G;refine z _ _ (wp_ret ?_);refine hQ _ _ (lv2 Tryz.results44 J rfl rfl ?_);exact⟨rfl,X⟩
theorem eT {a0 a1 p0 y} (G:cQ a0 a1=some y) (X:SH r (tP (obj77) p0 a0::L) w) :
  Ret Tryz.prog 43 #[.pointer p0,str a1] w λv w'=>v=.int .i64 y/\SH r (tP (obj77) p0 a0::L) w':=by
 refine enter Tryz.func43 rfl Tryz.ntmps43 [(0,_),(1,_)] rfl (by simp) ?_;intro U J Qf hQ hQn;unfold cQ at G;cases a0 with
 | none =>
  have hU:=SH.unoptN X;clear X;obtain⟨rfl,X⟩:=hU;refine nz 1 J rfl λU J=>wp_seq_k λa8 a9=>aA λb3 b4=>ws λb5 C=>xk 1 J rfl λU J=>x_v (v:=.bool true) J (nT (p:=none) oX rfl (J.ev rfl) (J.ev rfl)) rfl λU J=>x_m J rfl λU J=>wn (C _ _ ?_);refine c_t (b:=true) rfl J ?_ rfl;refine nz 1 J rfl λU J=>?_;replace X:=SH.optN (obj77) X;cases G;refine wp_ret (hQ _ _ ?_);exact lv Tryz.results43 J rfl ⟨rfl,X⟩
 | some z =>
  have hU:=SH.unoptS X;clear X;obtain⟨I,rfl,X⟩:=hU;obtain⟨b6,b7,b8,X⟩:=aG X;refine nz 1 J rfl λU J=>wp_seq_k λb9 N=>aA λc0 S=>ws λc4 Y=>xk 1 J rfl λU J=>x_v (v:=.bool false) J (nT (p:=some ⟨I,0,none⟩) oX rfl (J.ev rfl) (J.ev rfl)) rfl λU J=>x_m J rfl λU J=>wn (Y _ _ ?_);refine c_f (b:=false) rfl J ?_ rfl;refine ws λc5 a3=>xk 1 J rfl λU J=>?_;obtain⟨c6,a4,G⟩:=bnd G;refine x_c bBf J rfl (aD9 a4 X :) λv U w hR J=>?_;obtain⟨rfl,X⟩:=hR;refine nk 2 J rfl λU J=>a3 _ _ (aX J G rfl (λa5 G=>?_) λa5 G=>?_)
  ·refine nz 1 J rfl λU J=>?_;replace X:=SH.optS (aF (x:=z) (X.pk 1 |>.pk 1));cases G;refine wp_ret (hQ _ _ ?_);exact lv Tryz.results43 J rfl ⟨rfl,X⟩
  refine ws λc7 a6=>xk 2 J rfl λU J=>aO aOn J (λU J=>?_) rfl;refine aM uu4 (X.cell 0 rfl 3 _ rfl) J (λU J=>?_) rfl;refine x_m J rfl λU J=>wn (a6 _ _ ?_);refine aX J G rfl (λa7 G=>?_) λa7 G=>?_
  ·refine nz 1 J rfl λU J=>?_;replace X:=SH.optS (aF (x:=z) (X.pk 1 |>.pk 1));cases G;refine wp_ret (hQ _ _ ?_);exact lv Tryz.results43 J rfl ⟨rfl,X⟩
  refine wp_skip (S _ _ ?_);refine N _ _ (nz 1 J rfl λU J=>?_);replace X:=SH.optS (aF (x:=z) (X.pk 1 |>.pk 1));cases G;refine wp_ret (hQ _ _ ?_);exact lv Tryz.results43 J rfl ⟨rfl,X⟩
theorem oL {a0 g0 y} (G:gP a0=some y) (X:SH r (obj77 g0 a0::L) w) :
  Ret Tryz.prog 101 #[.pointer (some ⟨g0,0,none⟩)] w λv w'=>v=.bool y.1/\SH r (obj77 g0 y.2::L) w':=by
 refine enter Tryz.func101 rfl Tryz.ntmps101 [(0,_)] rfl (by simp) ?_;intro U J Qf hQ hQn;unfold gP at G;obtain⟨N,S,Y,X⟩:=aG X;refine nz 1 J rfl λU J=>ws λb3 a3=>xk 2 J rfl λU J=>aO aSh J (λU J=>?_) rfl;refine aM uu3 (X.cell 0 rfl 4 _ rfl) J (λU J=>?_) rfl;refine x_l G J rfl λI _ U J G=>xk 1 J rfl λU J=>aO aSh J (λU J=>?_) rfl;refine eH 0 sz3 J X rfl (λU w X J=>?_) rfl;refine wn (a3 _ _ ?_);refine wp_seq_k λa4 a5=>?_;have hj1:∀z C,nZ a0 I z C=some y->∀U w,FR 35 [] U [(0,(pP g0))]->SH r (blk g0 77 [.slice N S Y,.int .i64 a0.f1,.int .i64 z,.bool C,.int .i64 I]::own2 kp98 (kI .u8) 5 (λx:S98=>x.f1) 98 N S Y a0.f0::L) w->a4 U w:=by intro z C G U w J X;unfold nZ at G;refine a5 _ _ (ws λb4 a6=>?_);refine xk 2 J rfl λU J=>aO aOn J (λU J=>?_) rfl;refine aM uu4 (X.cell 0 rfl 3 _ rfl) J (λU J=>?_) rfl;refine nk 2 J rfl λU J=>?_;replace X:=X.pk 1 |>.pk 1;replace X:=aF (x:=(⟨a0.f0,a0.f1,z,C,I⟩:S77)) X;cases G;refine a6 _ _ (wp_ret ?_);refine hQ _ _ (lv Tryz.results101 J rfl ?_);exact⟨rfl,X⟩
 refine ws λb5 a7=>xk 2 J rfl λU J=>aO aKe J (λU J=>?_) rfl;refine aM uu3 (X.cell 0 rfl 2 _ rfl) J (λU J=>?_) rfl;refine nk 1 J rfl λU J=>a7 _ _ (aX J G rfl (λa8 G=>?_) λa8 G=>?_)
 ·refine ws λb6 a9=>xk 2 J rfl λU J=>aO aKe J (λU J=>?_) rfl;refine aM uu3 (X.cell 0 rfl 2 _ rfl) J (λU J=>?_) rfl;refine x_l G J rfl λa1 _ U J G=>xk 1 J rfl λU J=>aO aKe J (λU J=>?_) rfl;refine eH 0 sz3 J X rfl (λU w X J=>?_) rfl;refine wn (a9 _ _ ?_);refine aD (xk 3 J rfl λU J=>?_);refine aO aKe J (λU J=>?_) rfl;refine aM uu3 (X.cell 0 rfl 2 _ rfl) J (λU J=>?_) rfl;refine xk 2 J rfl λU J=>aO aOn J (λU J=>?_) rfl;refine eH 0 sz4 J X rfl (λU w X J=>?_) rfl;exact wpList_nil (hj1 a1 (a1==0) G U w (J.sub _ rfl) X)
 exact wp_skip (hj1 a0.f2 a0.f3 G U w (J.sub _ rfl) X)
theorem aDt {a0 p0 y} (G:pE a0=some y) (X:SH r (tP (obj77) p0 a0::L) w) :
  Ret Tryz.prog 106 #[.pointer p0] w λv w'=>v=.int .i64 y/\SH r (tP (obj77) p0 a0::L) w':=by
 refine enter Tryz.func106 rfl Tryz.ntmps106 [(0,_)] rfl (by simp) ?_;intro U J Qf hQ hQn;unfold pE at G;cases a0 with
 | none =>
  have hU:=SH.unoptN X;clear X;obtain⟨rfl,X⟩:=hU;refine nz 1 J rfl λU J=>nz 1 J rfl λU J=>wp_seq_k λd7 a8=>ws λd8 a9=>xk 1 J rfl λU J=>x_v (v:=.bool false) J (zV (p:=none) oX rfl (J.ev rfl) (J.ev rfl)) rfl λU J=>wn (a9 _ _ ?_);refine c_f (b:=false) rfl J ?_ rfl;refine wp_skip (a8 _ _ ?_);refine nz 2 J rfl λU J=>?_;replace X:=SH.optN (obj77) X;cases G;refine wp_ret (hQ _ _ ?_);exact lv Tryz.results106 J rfl ⟨rfl,X⟩
 | some z =>
  have hU:=SH.unoptS X;clear X;obtain⟨C,rfl,X⟩:=hU;obtain⟨I,N,S,X⟩:=aG X;refine nz 1 J rfl λU J=>nz 1 J rfl λU J=>wp_seq_k λd9 b3=>ws λe1 b4=>xk 1 J rfl λU J=>x_v (v:=.bool true) J (zV (p:=some ⟨C,0,none⟩) oX rfl (J.ev rfl) (J.ev rfl)) rfl λU J=>wn (b4 _ _ ?_);refine c_t (b:=true) rfl J ?_ rfl;refine ws λe2 b5=>xk 2 J rfl λU J=>aO oC J (λU J=>?_) rfl;refine aM iM (X.cell 0 rfl 0 _ rfl) J (λU J=>?_) rfl;refine aW iM (X.rd2L 1 rfl).2.1 J (λU J=>?_) rfl;refine x_m J rfl λU J=>wn (b5 _ _ ?_);refine aA λa4 b6=>?_;have hb1:∀a1,sR a1=some y->∀U w,FR 24 [] U [(0,(pP C)),(3,.int .i64 a1)]->SH r (blk C 77 [.slice I N S,.int .i64 z.f1,.int .i64 z.f2,.bool z.f3,.int .i64 z.f4]::own2 kp98 (kI .u8) 5 (λx:S98=>x.f1) 98 I N S z.f0::L) w->a4 U w:=by intro a1 G U w J X;unfold sR at G;refine b6 _ _ (b3 _ _ ?_);refine nz 2 J rfl λU J=>?_;replace X:=SH.optS (aF (x:=z) (X.pk 1 |>.pk 1));cases G;refine wp_ret (hQ _ _ ?_);exact lv Tryz.results106 J rfl ⟨rfl,X⟩
  obtain⟨b7,b8,G⟩:=bnd G;have b9:∀Y,(Y)=b7->∀U w,FR 24 [] U [(0,(pP C)),(3,.int .i64 Y)]->SH r (blk C 77 [.slice I N S,.int .i64 z.f1,.int .i64 z.f2,.bool z.f3,.int .i64 z.f4]::own2 kp98 (kI .u8) 5 (λx:S98=>x.f1) 98 I N S z.f0::L) w->a4 U w:=by intro Y ht U w J X;subst ht;replace G:qW Y=some y:=G;unfold qW at G;exact hb1 Y G U w (J.sub _ rfl) X
  refine aT b8 (λs U w=>FR 24 [] U [(0,(pP C)),(3,.int .i64 s.1),(11,.slice I N S),(12,.int .i64 (z.f0.length:Int)),(13,.int .i64 s.2)]/\SH r (blk C 77 [.slice I N S,.int .i64 z.f1,.int .i64 z.f2,.bool z.f3,.int .i64 z.f4]::own2 kp98 (kI .u8) 5 (λx:S98=>x.f1) 98 I N S z.f0::L) w) ⟨J.sub _ rfl,X⟩ ?_;intro e3 c0 c4 G c5 c6 U w hLab;obtain⟨a5,c7⟩:=c0;replace G:dK z a5 c7=some c4:=G;unfold dK at G
  try dsimp only at hLab
  obtain⟨J,X⟩:=hLab;refine nz 1 J rfl λU J=>wp_seq_k λe4 c8=>aX J G rfl (λc9 G=>?_) λc9 G=>?_
  ·refine wp_skip (c8 _ _ ?_);refine wp_seq_k λe5 d0=>aA λe6 d1=>ws λe7 d2=>?_;obtain⟨a3,a6,G⟩:=bnd G;refine fK iM oK (X.rd2L 1 rfl) a6 J (λU J=>?_) rfl;obtain⟨cs,hV,d3⟩:=el (X.rd2L 1 rfl) a6;obtain⟨⟨d4,a7,d5⟩,hV,d6⟩:=hV;obtain rfl:=hV;refine iL (cs:=[str a3.f0,.slice d4 a7 d5,.int .i64 a3.f2]) aOs oK (λj u h=>by rw [iD]; exact d3 _ _ h) J (λU J=>?_) rfl;refine eY (cs:=[str [],.slice none 0 0,.int .i64 0]) aVk J X (λe8 U w X J=>?_) rfl;refine eH 0 oK J X rfl (λU w X J=>?_) rfl;refine wn (d2 _ _ ?_);refine aD (x_m J rfl λU J=>?_);refine aO aG3 J (λU J=>?_) rfl;refine aM cL (X.cell 0 rfl 1 _ rfl) J (λU J=>?_) rfl;refine aW cL (show a3.f1.length=a7 from d6) J (λU J=>?_) rfl;refine x_l G J rfl λe9 _ U J G=>x_m J rfl λU J=>wpList_nil (d1 _ _ ?_);refine d0 _ _ (aD ?_);refine x_l G J rfl λf5 _ U J G=>x_m J rfl λU J=>wpList_nil ?_;replace X:=X.drop 0;cases G;exact⟨_,c5 _ rfl,J.sub _ rfl,X⟩
  cases G;exact wp_exit (b9 a5 (c6 _ rfl) U w (J.sub _ rfl) X)
theorem tN {a0 p0 y} (G:jU a0=some y) (X:SH r (tP (obj77) p0 a0::L) w) :
  Ret Tryz.prog 19 #[.pointer p0] w λv w'=>∃ (B0:Option Addr) (m0:Nat) (d0:Nat),v=.slice B0 m0 d0/\SH r (own kS 9 B0 m0 d0 y::tP (obj77) p0 a0::L) w':=by
 refine enter Tryz.func19 rfl Tryz.ntmps19 [(0,_)] rfl (by simp) ?_;intro U J Qf hQ hQn;unfold jU at G;cases a0 with
 | none =>
  have hU:=SH.unoptN X;clear X;obtain⟨rfl,X⟩:=hU;refine nz 1 J rfl λU J=>nz 1 J rfl λU J=>wp_seq_k λf6 b9=>ws λf7 c0=>xk 1 J rfl λU J=>x_v (v:=.bool false) J (zV (p:=none) oX rfl (J.ev rfl) (J.ev rfl)) rfl λU J=>wn (c0 _ _ ?_);refine c_f (b:=false) rfl J ?_ rfl;refine wp_skip (b9 _ _ ?_);refine nz 2 J rfl λU J=>?_;replace X:=(SH.optN (obj77) (SH.nil_own (d:=kS) (e:=9) X)).pk 1;cases G;refine wp_ret (hQ _ _ ?_);exact lv Tryz.results19 J rfl ⟨none,0,0,rfl,X⟩
 | some z =>
  have hU:=SH.unoptS X;clear X;obtain⟨C,rfl,X⟩:=hU;obtain⟨I,N,S,X⟩:=aG X;refine nz 1 J rfl λU J=>nz 1 J rfl λU J=>wp_seq_k λf8 c4=>ws λf9 c5=>xk 1 J rfl λU J=>x_v (v:=.bool true) J (zV (p:=some ⟨C,0,none⟩) oX rfl (J.ev rfl) (J.ev rfl)) rfl λU J=>wn (c5 _ _ ?_);refine c_t (b:=true) rfl J ?_ rfl;refine ws λg0 c6=>xk 2 J rfl λU J=>aO oC J (λU J=>?_) rfl;refine aM iM (X.cell 0 rfl 0 _ rfl) J (λU J=>?_) rfl;refine aW iM (X.rd2L 1 rfl).2.1 J (λU J=>?_) rfl;refine x_m J rfl λU J=>wn (c6 _ _ ?_);refine aA λb6 c7=>?_;have hb1:∀b5,sQ b5=some y->∀a3 a4 a5 U w,FR 24 [] U [(0,(pP C)),(3,.slice a3 a4 a5)]->SH r (blk C 77 [.slice I N S,.int .i64 z.f1,.int .i64 z.f2,.bool z.f3,.int .i64 z.f4]::own2 kp98 (kI .u8) 5 (λx:S98=>x.f1) 98 I N S z.f0::own kS 9 a3 a4 a5 b5::L) w->b6 U w:=by intro b5 G a3 a4 a5 U w J X;unfold sQ at G;refine c7 _ _ (c4 _ _ ?_);refine nz 2 J rfl λU J=>?_;replace X:=(SH.optS (aF (x:=z) (X.pk 1 |>.pk 1))).pk 1;cases G;refine wp_ret (hQ _ _ ?_);exact lv Tryz.results19 J rfl ⟨a3,a4,a5,rfl,X⟩
  obtain⟨c8,c9,G⟩:=bnd G;have d1:∀a1,(a1)=c8->∀a6 a7 a8 U w,FR 24 [] U [(0,(pP C)),(3,.slice a6 a7 a8)]->SH r (blk C 77 [.slice I N S,.int .i64 z.f1,.int .i64 z.f2,.bool z.f3,.int .i64 z.f4]::own2 kp98 (kI .u8) 5 (λx:S98=>x.f1) 98 I N S z.f0::own kS 9 a6 a7 a8 a1::L) w->b6 U w:=by intro a1 ht a6 a7 a8 U w J X;subst ht;replace G:qV a1=some y:=G;unfold qV at G;exact hb1 a1 G a6 a7 a8 U w (J.sub _ rfl) X
  replace X:=(SH.nil_own (d:=kS) (e:=9) X).pk 2 |>.pk 2;refine aT c9 (λs U w=>∃a9 b3 b4,FR 24 [] U [(0,(pP C)),(3,.slice a9 b3 b4),(11,.slice I N S),(12,.int .i64 (z.f0.length:Int)),(13,.int .i64 s.2)]/\SH r (blk C 77 [.slice I N S,.int .i64 z.f1,.int .i64 z.f2,.bool z.f3,.int .i64 z.f4]::own2 kp98 (kI .u8) 5 (λx:S98=>x.f1) 98 I N S z.f0::own kS 9 a9 b3 b4 s.1::L) w) ⟨none,0,0,J.sub _ rfl,X⟩ ?_;intro g1 d2 d3 G d4 d5 U w hLab;obtain⟨b7,d6⟩:=d2;replace G:dM z b7 d6=some d3:=G;unfold dM at G
  try dsimp only at hLab
  obtain⟨a9,b3,b4,J,X⟩:=hLab;refine nz 1 J rfl λU J=>wp_seq_k λg2 d7=>aX J G rfl (λd8 G=>?_) λd8 G=>?_
  ·refine wp_skip (d7 _ _ ?_);refine wp_seq_k λg3 d9=>aA λg4 e1=>ws λg5 e2=>?_;obtain⟨Y,b8,G⟩:=bnd G;refine fK iM oK (X.rd2L 1 rfl) b8 J (λU J=>?_) rfl;obtain⟨cs,hV,e3⟩:=el (X.rd2L 1 rfl) b8;obtain⟨⟨e4,e5,e6⟩,hV,g6⟩:=hV;obtain rfl:=hV;refine iL (cs:=[str Y.f0,.slice e4 e5 e6,.int .i64 Y.f2]) aOs oK (λj u h=>by rw [iD]; exact e3 _ _ h) J (λU J=>?_) rfl;refine eY (cs:=[str [],.slice none 0 0,.int .i64 0]) aVk J X (λg7 U w X J=>?_) rfl;refine eH 0 oK J X rfl (λU w X J=>?_) rfl;refine wn (e2 _ _ ?_);refine aD (x_m J rfl λU J=>?_);refine aO aJ6 J (λU J=>?_) rfl;refine aM uu9 (X.cell 0 rfl 0 _ rfl) J (λU J=>?_) rfl;refine kV (d:=kS) (e:=9) (ps:=#[(0,str Y.f0)]) (cells:=[str Y.f0]) (xs:=[Y.f0]) (λw=>by kernel_rfl) rfl ⟨[str Y.f0],_,rfl,rfl,rfl⟩ J X (λg8 U w X J=>?_) rfl;obtain⟨e7,G⟩:=aC G;have hr:=X.rd 0 rfl;refine lI 4 aRa qF J X hr.1 hr.2.1 e7 rfl (λe8 e9 f5 U w X J=>?_) rfl;refine x_m J rfl λU J=>wpList_nil (e1 _ _ ?_);refine d9 _ _ (aD ?_);refine x_l G J rfl λg9 _ U J G=>x_m J rfl λU J=>wpList_nil ?_;replace X:=X.drop 1 |>.drop 1 |>.pk 2 |>.pk 2;cases G;exact⟨_,d4 _ rfl,e8,e9,f5,J.sub _ rfl,X⟩
  cases G;exact wp_exit (d1 b7 (d5 _ rfl) a9 b3 b4 U w (J.sub _ rfl) X)
theorem aBv {a0 y} (G:vQ a0=some y) (X:SH r (L) w) :
  Ret Tryz.prog 10 #[.int .i64 a0] w λv w'=>∃ (p0:Option Addr),v=.tuple #[(.pointer p0),(.int .i64 y.2)]/\SH r (tP (obj77) p0 y.1::L) w':=by
 refine enter Tryz.func10 rfl Tryz.ntmps10 [(0,_)] rfl (by simp) ?_;intro U J Qf hQ hQn;unfold vQ at G;refine nz 2 J rfl λU J=>wp_seq_k λa4 I=>wp_seq_k λN S=>?_;have hj1:∀z,uQ a0 z=some y->∀U w,FR 13 [] U [(0,.int .i64 a0),(9,.bool z)]->SH r (L) w->N U w:=by
  intro z G U w J X;unfold uQ at G;refine S _ _ (aX J G rfl (λY G=>?_) λY G=>?_)
  ·refine nz 2 J rfl λU J=>?_;replace X:=SH.optN (obj77) X;cases G;refine wp_ret (hQ _ _ ?_);exact lv2 Tryz.results10 J rfl rfl ⟨none,rfl,X⟩
  refine wp_skip (I _ _ ?_);refine ws λa5 a1=>xk 1 J rfl λU J=>x_v (v:=.agg #[.slice none 0 0,.int .i64 a0,.int .i64 0,.bool false,.int .i64 0]) J (jL (ps:=#[(1,.int .i64 a0)]) rfl (mB J rfl) (λw=>by kernel_rfl)) rfl λU J=>mF J X (λa3 U w X J=>?_) rfl;refine nk 2 J rfl λU J=>?_;replace X:=aT7 (dp:=kp98) (d:=(kI .u8)) (e':=5) (g:=(λx:S98=>x.f1)) (e:=98) X;replace X:=X.pk 1;replace X:=SH.optS (aF (x:=(⟨[],a0,0,false,0⟩:S77)) X);cases G;refine a1 _ _ (wp_ret ?_);refine hQ _ _ (lv2 Tryz.results10 J rfl rfl ?_);exact⟨some ⟨a3,0,none⟩,rfl,X⟩
 refine aD (xk 3 J rfl λU J=>?_);refine bcG G (λC G=>?_) λC G=>?_
 ·exact ng 3 C J rfl rfl λU J=>hj1 true G U w (J.sub _ rfl) X
 exact ng 3 C J rfl rfl λU J=>hj1 (decide (16777216<a0)) G U w (J.sub _ rfl) X
theorem aB2 {a0 a1 a2 p0 A2 n2 c2 y} (G:pK a0 a1 a2=some y) (X:SH r (tP (obj77) p0 a0::L) w) (ha2:RdL L (kI .u8) A2 n2 c2 a2) :
  Ret Tryz.prog 86 #[.pointer p0,str a1,.slice A2 n2 c2] w λv w'=>v=.int .i64 y.1/\SH r (tP (obj77) p0 y.2::L) w':=by
 refine enter Tryz.func86 rfl Tryz.ntmps86 [(0,_),(1,_),(2,_)] rfl (by simp) ?_;intro U J Qf hQ hQn;unfold pK at G;cases a0 with
 | none =>
  have hU:=SH.unoptN X;clear X;obtain⟨rfl,X⟩:=hU;refine nz 1 J rfl λU J=>wp_seq_k λh3 d3=>ws λh4 d4=>xk 2 J rfl λU J=>?_;replace X:=SH.optN (obj77) X;obtain⟨h5,d5,G⟩:=bnd G;refine x_c aJ4 J rfl (eT d5 X :) λv U w hR J=>?_;obtain⟨rfl,X⟩:=hR;refine x_m J rfl λU J=>wn (d4 _ _ ?_);refine nz 2 J rfl λU J=>aX J G rfl (λd6 G=>?_) λd6 G=>?_
  ·refine nz 2 J rfl λU J=>?_;replace X:=(SH.optN (obj77) X).drop 1;cases G;refine wp_ret (hQ _ _ ?_);exact lv Tryz.results86 J rfl ⟨rfl,X⟩
  refine wp_skip (d3 _ _ ?_);refine ws λh6 h7=>xk 2 J rfl λU J=>?_;cases G
 | some N =>
  have hU:=SH.unoptS X;clear X;obtain⟨C,rfl,X⟩:=hU;obtain⟨h8,h9,i0,X⟩:=aG X;refine nz 1 J rfl λU J=>wp_seq_k λi1 d7=>ws λi2 d8=>xk 2 J rfl λU J=>?_;replace X:=SH.optS (aF (x:=N) (X.pk 1 |>.pk 1));obtain⟨i3,d9,G⟩:=bnd G;refine x_c aJ4 J rfl (eT d9 X :) λv U w hR J=>?_;obtain⟨rfl,X⟩:=hR;obtain⟨i4,i5,i6,X⟩:=aG (SH.unoptP X);refine x_m J rfl λU J=>wn (d8 _ _ ?_);refine nz 2 J rfl λU J=>aX J G rfl (λe1 G=>?_) λe1 G=>?_
  ·refine nz 2 J rfl λU J=>?_;replace X:=SH.optS (aF (x:=N) (X.pk 1 |>.pk 1));cases G;refine wp_ret (hQ _ _ ?_);exact lv Tryz.results86 J rfl ⟨rfl,X⟩
  refine wp_skip (d7 _ _ ?_);refine ws λi7 e2=>xk 2 J rfl λU J=>?_;replace X:=X.pk 1 |>.pk 1;obtain⟨z,e3,G⟩:=bnd G;refine x_c aQs J rfl (kA e3 X :) λv U w hR J=>?_;obtain⟨rfl,X⟩:=hR;refine nk 5 J rfl λU J=>e2 _ _ (wp_seq_k λi8 e4=>?_);refine wp_seq_k λe5 e6=>?_;have hj1:∀b5,eA a1 a2 N z b5=some y->∀b6 b7 b8 U w,FR 80 [] U [(0,(pP C)),(1,str a1),(2,.slice A2 n2 c2),(8,.int .i64 z.1),(9,.bool z.2),(44,.bool b5)]->SH r (blk C 77 [.slice b6 b7 b8,.int .i64 N.f1,.int .i64 N.f2,.bool N.f3,.int .i64 N.f4]::own2 kp98 (kI .u8) 5 (λx:S98=>x.f1) 98 b6 b7 b8 N.f0::L) w->e5 U w:=by
   intro b5 G b6 b7 b8 U w J X;unfold eA at G;refine e6 _ _ (aX J G rfl (λe7 G=>?_) λe7 G=>?_)
   ·refine nz 1 J rfl λU J=>?_;replace X:=SH.optS (aF (x:=N) (X.pk 1 |>.pk 1));cases G;refine wp_ret (hQ _ _ ?_);exact lv Tryz.results86 J rfl ⟨rfl,X⟩
   refine wp_skip (e4 _ _ ?_);refine ws λi9 e8=>xk 1 J rfl λU J=>?_;replace X:=aF (x:=N) (X.pk 1 |>.pk 1);obtain⟨S,e9,G⟩:=bnd G;refine x_c aPn J rfl (oL e9 X :) λv U w hR J=>?_;obtain⟨rfl,X⟩:=hR;obtain⟨c6,c7,c8,X⟩:=aG X;refine x_m J rfl λU J=>wn (e8 _ _ ?_);refine wp_seq_k λf5 f6=>?_;have hj2:∀a6,gR a2 z S a6=some y->∀a5 a7 a8 U w,FR 80 [] U [(0,(pP C)),(2,.slice A2 n2 c2),(8,.int .i64 z.1),(10,.bool S.1)]->SH r (blk C 77 [.slice a5 a7 a8,.int .i64 S.2.f1,.int .i64 S.2.f2,.bool S.2.f3,.int .i64 S.2.f4]::own2 kp98 (kI .u8) 5 (λx:S98=>x.f1) 98 a5 a7 a8 a6::L) w->f5 U w:=by
    intro a6 G a5 a7 a8 U w J X;unfold gR at G;refine f6 _ _ (wp_seq_k λj0 f7=>?_);refine bZ [0,1,3,7,0,0,32,96,224,0,992,2016,4064,0,16352,32767,65535,131071] [14,17] rfl J X (by kernel_rfl) (by kernel_rfl) (by kernel_rfl) (by kernel_rfl) λw X=>?_;obtain⟨a4,b9,G⟩:=bnd G;have hS_172:=X;obtain⟨j1,f8,f9,g0,c9,c0,X⟩:=aAf (X.pk 1) b9;obtain⟨cs,hV,g1⟩:=el (X.rd 0 rfl) c0;obtain rfl:=hV;refine⟨[(0,(pP C)),(1,(pP C)),(2,(pP C)),(3,.slice a5 a7 a8),(4,.int .i64 z.1),(5,(pP C)),(6,(pP C)),(7,(pP C)),(8,.slice a5 a7 a8),(9,.int .i64 z.1),(10,.pointer (some (ea a5 (z.1.toNat * 3)))),(11,.pointer (some (ea a5 (z.1.toNat * 3+1)))),(12,.slice f8 f9 g0),(13,.slice A2 n2 c2)],?_⟩;refine dF [0,1,2,3,4,5,6,7,8,9,10,11,12,13] [14] (by kernel_rfl) ⟨pm rfl,pt [(61,_)] rfl (λU J=>aK rfl (J.ev rfl)),pt [(62,_)] rfl (λU J=>aR oC J rfl rfl),pt [(63,_)] rfl (λU J=>aP iM (hS_172.cell 0 rfl 0 _ rfl) J rfl rfl rfl),pm rfl,pm rfl,pt [(66,_)] rfl (λU J=>aK rfl (J.ev rfl)),pt [(67,_)] rfl (λU J=>aR oC J rfl rfl),pt [(68,_)] rfl (λU J=>aP iM (hS_172.cell 0 rfl 0 _ rfl) J rfl rfl rfl),pm rfl,pt [(69,_),(70,_)] rfl (λU J=>eW iM oK (hS_172.rd2L 1 rfl) b9 J rfl rfl rfl),pt [(71,_)] rfl (λU J=>kN (m:=z.1.toNat * 3) aG3 J rfl rfl),pt [(72,_)] rfl (λU J=>aP cL (g1 1 _ rfl) J rfl rfl rfl),pm rfl,trivial⟩ ⟨et [(73,_),(74,_)] rfl (λU J K hK=>?_),trivial⟩;obtain⟨g2,G⟩:=aC G;have hr:=X.rdl 4 ha2 rfl;refine cK 1 aE5 cL J X hr.1 hr.2.1 g2 rfl (λd0 d1 d2 w X=>?_) rfl;refine hK _ [(15,.pointer (some (ea a5 (z.1.toNat * 3)))),(16,.pointer (some (ea a5 (z.1.toNat * 3+1))))] _ rfl (dF [0,1,2,3,4,15,16] [17] (by kernel_rfl) ⟨pm rfl,pt [(61,_)] rfl (λU J=>aK rfl (J.ev rfl)),pt [(62,_)] rfl (λU J=>aR oC J rfl rfl),pt [(63,_)] rfl (λU J=>aP iM (X.cell 3 rfl 0 _ rfl) J rfl rfl rfl),pm rfl,pt [(64,_),(65,_)] rfl (λU J=>eW iM oK (X.rdp 1 rfl c9) b9 J rfl rfl rfl),pt [(76,_)] rfl (λU J=>kN (m:=z.1.toNat * 3) aG3 J rfl rfl),trivial⟩ ⟨et [(75,_),(77,_)] rfl (λU J K hK=>?_),trivial⟩);refine aMk (z':=((⟨a4.f0,a4.f1++a2,a4.f2⟩:S98),d0,d1,d2)) (off:=1) (vs:=[.slice d0 d1 d2]) 1 aEn J X rfl (jJ c0).2.2 (λc h=>by cases h; rfl) (λw X=>?_) rfl rfl rfl rfl rfl rfl;replace X:=X.pk 2 |>.pk 2 |>.pk 2;replace X:=aKb (g:=(λx:S98=>x.f1)) (x':=(⟨a4.f0,a4.f1++a2,a4.f2⟩:S98)) c9 c0 X;refine hK _ [] _ rfl (dU [] (by kernel_rfl) trivial ⟨by kernel_rfl,by kernel_rfl⟩ [(0,_),(10,_)] rfl (λU J=>?_));refine f7 _ _ (wp_seq_k λj2 g3=>?_);refine nz 2 J rfl λU J=>aX J G rfl (λg4 G=>?_) λg4 G=>?_
    ·refine nz 1 J rfl λU J=>?_;replace X:=X.pk 1;replace X:=SH.optS (aF (x:=(⟨a6.set z.1.toNat (⟨a4.f0,a4.f1++a2,a4.f2⟩:S98),S.2.f1,S.2.f2,S.2.f3,S.2.f4⟩:S77)) X);cases G;refine wp_ret (hQ _ _ ?_);exact lv Tryz.results86 J rfl ⟨rfl,X⟩
    refine wp_skip (g3 _ _ ?_);refine nz 1 J rfl λU J=>?_;replace X:=X.pk 1;replace X:=SH.optS (aF (x:=(⟨a6.set z.1.toNat (⟨a4.f0,a4.f1++a2,a4.f2⟩:S98),S.2.f1,S.2.f2,S.2.f3,S.2.f4⟩:S77)) X);cases G;refine wp_ret (hQ _ _ ?_);exact lv Tryz.results86 J rfl ⟨rfl,X⟩
   refine nz 2 J rfl λU J=>aX J G rfl (λg5 G=>?_) λg5 G=>?_
   ·refine aD (xk 3 J rfl λU J=>?_);refine aO oC J (λU J=>?_) rfl;refine aM iM (X.cell 0 rfl 0 _ rfl) J (λU J=>?_) rfl;refine xk 2 J rfl λU J=>x_v (v:=.agg #[str a1,.slice none 0 0,.int .i64 0]) J (jL (ps:=#[(0,str a1)]) rfl (mB J rfl) (λw=>by kernel_rfl)) rfl λU J=>?_;replace X:=SH.nil_own (d:=(kI .u8)) (e:=5) X;refine kV (d:=kp98) (e:=98) (ps:=#[(0,.agg #[str a1,.slice none 0 0,.int .i64 0])]) (cells:=[str a1,.slice none 0 0,.int .i64 0]) (xs:=[((⟨a1,[],0⟩:S98),none,0,0)]) (λw=>by kernel_rfl) rfl ⟨[str a1,.slice none 0 0,.int .i64 0],_,rfl,rfl,rfl⟩ J X (λj3 U w X J=>?_) rfl;replace X:=aL4 (g:=(λx:S98=>x.f1)) (x:=(⟨a1,[],0⟩:S98)) X;replace X:=X.pk 2;obtain⟨g6,g7,G⟩:=bnd G;refine x_c bAg J rfl (aXr (L:=blk C 77 [.slice c6 c7 c8,.int .i64 S.2.f1,.int .i64 S.2.f2,.bool S.2.f3,.int .i64 S.2.f4]::L) S.2.f0 z.1 [(⟨a1,[],0⟩:S98)] g7 X) λv U w hR J=>?_;obtain⟨g8,g9,h1,rfl,X⟩:=hR;refine xk 1 J rfl λU J=>aO oC J (λU J=>?_) rfl;refine eH 1 aU7 J X rfl (λU w X J=>?_) rfl;exact wpList_nil (hj2 g6 G g8 g9 h1 U w (J.sub _ rfl) X)
   exact wp_skip (hj2 S.2.f0 G c6 c7 c8 U w (J.sub _ rfl) X)
  refine bZ [0,1,0,4,12,28,0,64,252,511,1023,2047,4095,8191,16383,32767,65535,131071,262143,524287,1048575,2097151] [7] rfl J X (by kernel_rfl) (by kernel_rfl) (by kernel_rfl) (by kernel_rfl) λw X=>⟨[(0,.slice A2 n2 c2),(1,.int .i64 (a2.length:Int)),(2,(pP C)),(3,(pP C)),(4,.pointer (some ⟨C,1,none⟩)),(5,.int .i64 N.f1),(6,(pP C))],?_⟩;refine dF [0,1,2,3,4,5,6] [7] (by kernel_rfl) ⟨pm rfl,pt [(23,_)] rfl (λU J=>sN cL (X.rdl 2 ha2 rfl).2.1 J rfl rfl),pm rfl,pt [(25,_)] rfl (λU J=>aK rfl (J.ev rfl)),pt [(26,_)] rfl (λU J=>aR aKk J rfl rfl),pt [(27,_)] rfl (λU J=>aP uu3 (X.cell 0 rfl 1 _ rfl) J rfl rfl rfl),pm rfl,trivial⟩ ⟨et [(29,_)] rfl (λU J K hK=>?_),trivial⟩;replace X:=SH.optS (aF (x:=N) (X.pk 1 |>.pk 1));obtain⟨c4,h2,G⟩:=bnd G;refine eM bC4 J (aDt h2 X :) (λv w hR=>?_) rfl;obtain⟨rfl,X⟩:=hR;obtain⟨a9,b3,b4,X⟩:=aG (SH.unoptP X);obtain⟨I,c5,G⟩:=gQ G;refine bcG G (λY G=>?_) λY G=>?_
  ·refine hK _ [(8,.int .i64 I),(9,.bool (decide (I<(a2.length:Int)))),(10,.bool (decide (I<(a2.length:Int)))),(11,undef),(12,undef),(13,undef),(14,undef),(15,undef),(16,undef),(17,undef),(18,undef),(19,undef),(20,undef),(21,.bool true)] _ rfl ?_;refine dU [0,1,2,3,4,5,8,9,10,11,12,13,14,15,16,17,18,19,20,21] (by kernel_rfl) ⟨pm rfl,pt [(23,.slice A2 n2 c2)] rfl (λU J=>sN cL (X.rdl 2 ha2 rfl).2.1 J rfl rfl),pm rfl,pt [(25,(pP C))] rfl (λU J=>aK rfl (J.ev rfl)),pt [(26,(pP C))] rfl (λU J=>aR aKk J rfl rfl),pt [(27,.pointer (some ⟨C,1,none⟩))] rfl (λU J=>aP uu3 (X.cell 0 rfl 1 _ rfl) J rfl rfl rfl),pt [(28,.int .i64 N.f1),(30,.int .i64 c4)] rfl λU J=>cO c5 (zG rfl (J.ev rfl) (J.ev rfl)),pt [(24,.int .i64 (a2.length:Int)),(31,.int .i64 I)] rfl (λU J=>aDl rfl (J.ev rfl) (J.ev rfl)),pm rfl,bB rfl rfl rfl rfl [(9,.bool z.2),(33,.bool (decide (I<(a2.length:Int))))] rfl Y rfl,bB rfl rfl rfl rfl [(33,.bool (decide (I<(a2.length:Int)))),(34,undef)] rfl Y rfl,bB rfl rfl rfl rfl [(33,.bool (decide (I<(a2.length:Int)))),(35,undef)] rfl Y rfl,rO rfl rfl rfl rfl [(0,(pP C)),(36,undef)] rfl rfl,rO rfl rfl rfl rfl [(36,undef),(37,undef)] rfl rfl,rO rfl rfl rfl rfl [(36,undef),(38,undef)] rfl rfl,rO rfl rfl rfl rfl [(36,undef),(39,undef)] rfl rfl,rO rfl rfl rfl rfl [(36,undef),(40,undef)] rfl rfl,rO rfl rfl rfl rfl [(36,undef),(41,undef)] rfl rfl,bB rfl rfl rfl rfl [(33,.bool (decide (I<(a2.length:Int)))),(36,undef),(42,undef)] rfl Y rfl,pt [(33,.bool (decide (I<(a2.length:Int)))),(43,undef)] rfl (λU J=>mL Y J rfl rfl rfl),trivial⟩ ⟨by kernel_rfl,by kernel_rfl⟩ [(0,_),(1,_),(2,_),(8,_),(9,_),(44,_)] rfl (λU J=>?_);exact hj1 true G a9 b3 b4 U w (J.sub _ rfl) X
  refine bcG G (λa3 G=>?_) λa3 G=>?_
  ·refine hK _ [(8,.int .i64 I),(9,.bool (decide (I<(a2.length:Int)))),(10,.bool (decide (I<(a2.length:Int)))),(11,.bool z.2),(12,.bool (!z.2)),(13,.bool (!z.2)),(14,(pP C)),(15,(pP C)),(16,(pP C)),(17,.slice a9 b3 b4),(18,.int .i64 (N.f0.length:Int)),(19,.bool (decide (500<=(N.f0.length:Int)))),(20,.bool (decide (500<=(N.f0.length:Int)))),(21,.bool (decide (500<=(N.f0.length:Int))))] _ rfl ?_;refine dU [0,1,2,3,4,5,8,9,10,11,12,13,14,15,16,17,18,19,20,21] (by kernel_rfl) ⟨pm rfl,pt [(23,.slice A2 n2 c2)] rfl (λU J=>sN cL (X.rdl 2 ha2 rfl).2.1 J rfl rfl),pm rfl,pt [(25,(pP C))] rfl (λU J=>aK rfl (J.ev rfl)),pt [(26,(pP C))] rfl (λU J=>aR aKk J rfl rfl),pt [(27,.pointer (some ⟨C,1,none⟩))] rfl (λU J=>aP uu3 (X.cell 0 rfl 1 _ rfl) J rfl rfl rfl),pt [(28,.int .i64 N.f1),(30,.int .i64 c4)] rfl λU J=>cO c5 (zG rfl (J.ev rfl) (J.ev rfl)),pt [(24,.int .i64 (a2.length:Int)),(31,.int .i64 I)] rfl (λU J=>aDl rfl (J.ev rfl) (J.ev rfl)),pm rfl,cB rfl rfl rfl rfl [(9,.bool z.2),(33,.bool (decide (I<(a2.length:Int))))] rfl Y (λU J=>fH J rfl rfl) rfl,cB rfl rfl rfl rfl [(33,.bool (decide (I<(a2.length:Int)))),(34,.bool z.2)] rfl Y (λU J=>aLv rfl (J.ev rfl)) rfl,cB rfl rfl rfl rfl [(33,.bool (decide (I<(a2.length:Int)))),(35,.bool (!z.2))] rfl Y (λU J=>fH J rfl rfl) rfl,cB rfl rfl rfl rfl [(0,(pP C)),(36,.bool (!z.2))] rfl a3 (λU J=>fH J rfl rfl) rfl,cB rfl rfl rfl rfl [(36,.bool (!z.2)),(37,(pP C))] rfl a3 (λU J=>aK rfl (J.ev rfl)) rfl,cB rfl rfl rfl rfl [(36,.bool (!z.2)),(38,(pP C))] rfl a3 (λU J=>aR oC J rfl rfl) rfl,cB rfl rfl rfl rfl [(36,.bool (!z.2)),(39,(pP C))] rfl a3 (λU J=>aP iM (X.cell 0 rfl 0 _ rfl) J rfl rfl rfl) rfl,cB rfl rfl rfl rfl [(36,.bool (!z.2)),(40,.slice a9 b3 b4)] rfl a3 (λU J=>sN iM (X.rd2L 1 rfl).2.1 J rfl rfl) rfl,cB rfl rfl rfl rfl [(36,.bool (!z.2)),(41,.int .i64 (N.f0.length:Int))] rfl a3 (λU J=>aXd rfl (J.ev rfl) (J.ev rfl)) rfl,cB rfl rfl rfl rfl [(33,.bool (decide (I<(a2.length:Int)))),(36,.bool (!z.2)),(42,.bool (decide (500<=(N.f0.length:Int))))] rfl Y (λU J=>mL a3 J rfl rfl rfl) rfl,pt [(33,.bool (decide (I<(a2.length:Int)))),(43,.bool (decide (500<=(N.f0.length:Int))))] rfl (λU J=>nV Y J rfl rfl rfl),trivial⟩ ⟨by kernel_rfl,by kernel_rfl⟩ [(0,_),(1,_),(2,_),(8,_),(9,_),(44,_)] rfl (λU J=>?_);exact hj1 (decide (500<=(N.f0.length:Int))) G a9 b3 b4 U w (J.sub _ rfl) X
  refine hK _ [(8,.int .i64 I),(9,.bool (decide (I<(a2.length:Int)))),(10,.bool (decide (I<(a2.length:Int)))),(11,.bool z.2),(12,.bool (!z.2)),(13,.bool (!z.2)),(14,undef),(15,undef),(16,undef),(17,undef),(18,undef),(19,undef),(20,.bool false),(21,.bool false)] _ rfl ?_;refine dU [0,1,2,3,4,5,8,9,10,11,12,13,14,15,16,17,18,19,20,21] (by kernel_rfl) ⟨pm rfl,pt [(23,.slice A2 n2 c2)] rfl (λU J=>sN cL (X.rdl 2 ha2 rfl).2.1 J rfl rfl),pm rfl,pt [(25,(pP C))] rfl (λU J=>aK rfl (J.ev rfl)),pt [(26,(pP C))] rfl (λU J=>aR aKk J rfl rfl),pt [(27,.pointer (some ⟨C,1,none⟩))] rfl (λU J=>aP uu3 (X.cell 0 rfl 1 _ rfl) J rfl rfl rfl),pt [(28,.int .i64 N.f1),(30,.int .i64 c4)] rfl λU J=>cO c5 (zG rfl (J.ev rfl) (J.ev rfl)),pt [(24,.int .i64 (a2.length:Int)),(31,.int .i64 I)] rfl (λU J=>aDl rfl (J.ev rfl) (J.ev rfl)),pm rfl,cB rfl rfl rfl rfl [(9,.bool z.2),(33,.bool (decide (I<(a2.length:Int))))] rfl Y (λU J=>fH J rfl rfl) rfl,cB rfl rfl rfl rfl [(33,.bool (decide (I<(a2.length:Int)))),(34,.bool z.2)] rfl Y (λU J=>aLv rfl (J.ev rfl)) rfl,cB rfl rfl rfl rfl [(33,.bool (decide (I<(a2.length:Int)))),(35,.bool (!z.2))] rfl Y (λU J=>fH J rfl rfl) rfl,bB rfl rfl rfl rfl [(0,(pP C)),(36,.bool (!z.2))] rfl a3 rfl,bB rfl rfl rfl rfl [(36,.bool (!z.2)),(37,undef)] rfl a3 rfl,bB rfl rfl rfl rfl [(36,.bool (!z.2)),(38,undef)] rfl a3 rfl,bB rfl rfl rfl rfl [(36,.bool (!z.2)),(39,undef)] rfl a3 rfl,bB rfl rfl rfl rfl [(36,.bool (!z.2)),(40,undef)] rfl a3 rfl,bB rfl rfl rfl rfl [(36,.bool (!z.2)),(41,undef)] rfl a3 rfl,cB rfl rfl rfl rfl [(33,.bool (decide (I<(a2.length:Int)))),(36,.bool (!z.2)),(42,undef)] rfl Y (λU J=>nV a3 J rfl rfl rfl) rfl,pt [(33,.bool (decide (I<(a2.length:Int)))),(43,.bool false)] rfl (λU J=>nV Y J rfl rfl rfl),trivial⟩ ⟨by kernel_rfl,by kernel_rfl⟩ [(0,_),(1,_),(2,_),(8,_),(9,_),(44,_)] rfl (λU J=>?_);exact hj1 false G a9 b3 b4 U w (J.sub _ rfl) X
theorem pN {a0 a1 p0 y} (G:jT a0 a1=some y) (X:SH r (tP (obj77) p0 a0::L) w) :
  Ret Tryz.prog 20 #[.pointer p0,str a1] w λv w'=>∃ (B0:Option Addr) (m0:Nat) (d0:Nat),v=.tuple #[(.slice B0 m0 d0),(.int .i64 y.2)]/\SH r (own (kI .u8) 5 B0 m0 d0 y.1::tP (obj77) p0 a0::L) w':=by
 refine enter Tryz.func20 rfl Tryz.ntmps20 [(0,_),(1,_)] rfl (by simp) ?_;intro U J Qf hQ hQn;unfold jT at G;cases a0 with
 | none =>
  have hU:=SH.unoptN X;clear X;obtain⟨rfl,X⟩:=hU;refine nz 2 J rfl λU J=>wp_seq_k λc7 N=>ws λc8 S=>xk 2 J rfl λU J=>?_;replace X:=SH.optN (obj77) X;obtain⟨c9,Y,G⟩:=bnd G;refine x_c aJ4 J rfl (eT Y X :) λv U w hR J=>?_;obtain⟨rfl,X⟩:=hR;refine x_m J rfl λU J=>wn (S _ _ ?_);refine nz 2 J rfl λU J=>aX J G rfl (λa3 G=>?_) λa3 G=>?_
  ·refine nz 3 J rfl λU J=>?_;replace X:=(SH.optN (obj77) (SH.nil_own (d:=(kI .u8)) (e:=5) X)).drop 2 |>.pk 1;cases G;refine wp_ret (hQ _ _ ?_);exact lv2 Tryz.results20 J rfl rfl ⟨none,0,0,rfl,X⟩
  refine wp_skip (N _ _ ?_);refine ws λd1 d2=>xk 2 J rfl λU J=>?_;cases G
 | some z =>
  have hU:=SH.unoptS X;clear X;obtain⟨d3,rfl,X⟩:=hU;obtain⟨d4,d5,d6,X⟩:=aG X;refine nz 2 J rfl λU J=>wp_seq_k λd7 a4=>ws λd8 a5=>xk 2 J rfl λU J=>?_;replace X:=SH.optS (aF (x:=z) (X.pk 1 |>.pk 1));obtain⟨d9,a6,G⟩:=bnd G;refine x_c aJ4 J rfl (eT a6 X :) λv U w hR J=>?_;obtain⟨rfl,X⟩:=hR;obtain⟨e1,e2,e3,X⟩:=aG (SH.unoptP X);refine x_m J rfl λU J=>wn (a5 _ _ ?_);refine nz 2 J rfl λU J=>aX J G rfl (λa7 G=>?_) λa7 G=>?_
  ·refine nz 3 J rfl λU J=>?_;replace X:=(SH.optS (aF (x:=z) ((SH.nil_own (d:=(kI .u8)) (e:=5) X).pk 2 |>.pk 2))).pk 1;cases G;refine wp_ret (hQ _ _ ?_);exact lv2 Tryz.results20 J rfl rfl ⟨none,0,0,rfl,X⟩
  refine wp_skip (a4 _ _ ?_);refine ws λe4 a8=>xk 2 J rfl λU J=>?_;replace X:=X.pk 1 |>.pk 1;obtain⟨a9,b3,G⟩:=bnd G;refine x_c aQs J rfl (kA b3 X :) λv U w hR J=>?_;obtain⟨rfl,X⟩:=hR;refine nk 5 J rfl λU J=>a8 _ _ (wp_seq_k λe5 b4=>?_);refine nz 2 J rfl λU J=>aX J G rfl (λb5 G=>?_) λb5 G=>?_
  ·refine nz 2 J rfl λU J=>?_;replace X:=(SH.optS (aF (x:=z) ((SH.nil_own (d:=(kI .u8)) (e:=5) X).pk 2 |>.pk 2))).pk 1;cases G;refine wp_ret (hQ _ _ ?_);exact lv2 Tryz.results20 J rfl rfl ⟨none,0,0,rfl,X⟩
  refine wp_skip (b4 _ _ ?_);refine ws λe6 b6=>xk 2 J rfl λU J=>aO oC J (λU J=>?_) rfl;refine aM iM (X.cell 0 rfl 0 _ rfl) J (λU J=>?_) rfl;refine x_m J rfl λU J=>?_;obtain⟨b7,C,G⟩:=bnd G;refine fK iM oK (X.rd2L 1 rfl) C J (λU J=>?_) rfl;refine aS2 (m:=a9.1.toNat * 3) aG3 J (λU J=>?_) rfl rfl rfl rfl rfl;obtain⟨e7,e8,e9,f0,b8,I,X⟩:=aAf (X.pk 1) C;obtain⟨cs,hV,b9⟩:=el (X.rd 0 rfl) I;obtain rfl:=hV;refine aM cL (b9 1 _ rfl) J (λU J=>?_) rfl;obtain⟨f2,c0,G⟩:=bnd G;refine x_c aZb J rfl (oA c0 X (RdL.own 1 rfl (X.dropN 0)) :) λv U w hR J=>?_;obtain⟨c4,c5,c6,rfl,X⟩:=hR;refine nk 2 J rfl λU J=>?_;replace X:=X.pk 3 |>.pk 3 |>.pk 3;replace X:=aSi (g:=(λx:S98=>x.f1)) (x:=b7) b8 I X;replace X:=(SH.optS (aF (x:=z) (X.pk 2))).pk 1;cases G;refine b6 _ _ (wp_ret ?_);refine hQ _ _ (lv2 Tryz.results20 J rfl rfl ?_);exact⟨c4,c5,c6,rfl,X⟩
end
noncomputable section
set_option linter.unusedSimpArgs false
def pM (a0:Int) (a1:S77):Option (S77) :=
  (at_ a1.f0 a0).bind λz=>(some (⟨a1.f0.set a0.toNat (⟨z.f0,z.f1,(z.f1.length:Int)⟩:S98),a1.f1,a1.f2,a1.f3,a1.f4⟩:S77))
def nH (a0:Int) (a1:S77):Option (S77) :=
  ltt (IntKind.i64.wrap (a0+1)) λz=>((aWd a1.f0 a0 z).bind λC=>(some (⟨C,a1.f1,a1.f2,a1.f3,a1.f4⟩:S77)))
def nU (a0:Int) (a1:S77) (a2:(List UInt8)):Option (S77×(List UInt8)) :=
  (at_ a1.f0 a0).bind λz=>(ltt (IntKind.i64.wrap (a0+1)) λG=>(chk (G=a0+1) ((eD (⟨a1.f0.eraseIdx a0.toNat,a1.f1,a1.f2,a1.f3,a1.f4⟩:S77) a2).bind λC=>(if C.2=true then ((at_ (a1.f0.eraseIdx a0.toNat) C.1).bind λJ=>(some ((⟨(a1.f0.eraseIdx a0.toNat).set C.1.toNat (⟨a2,z.f1,z.f2⟩:S98),a1.f1,a1.f2,a1.f3,a1.f4⟩:S77),a2))) else ((aN3 (a1.f0.eraseIdx a0.toNat) C.1 [(⟨a2,z.f1,z.f2⟩:S98)]).bind λI=>(some ((⟨I,a1.f1,a1.f2,a1.f3,a1.f4⟩:S77),a2)))))))
end
section
variable {r:World} {L:List HP} {w:World} {Z:Nat->Prop} {wz:World}
theorem aBw {a0 a1 g1 h1 y} (G:pM a0 a1=some y) (X:SH r (blk g1 29 [.pointer (some ⟨h1,0,none⟩)]::obj77 h1 a1::L) w) :
  Ret Tryz.prog 107 #[.int .i64 a0,(pP g1)] w λv w'=>v=.tuple #[]/\SH r (blk g1 29 [.pointer (some ⟨h1,0,none⟩)]::obj77 h1 y::L) w':=by
 refine enter Tryz.func107 rfl Tryz.ntmps107 [(0,_),(1,_)] rfl (by simp) ?_;intro U J Qf hQ hQn;unfold pM at G;obtain⟨C,S,Y,X⟩:=aG (X.pk 1);refine bZ [0,1,3,7,0,0,32,96,224,0,992,2016,4064,8160,16383,32767,65535] [16] rfl J X (by kernel_rfl) (by kernel_rfl) (by kernel_rfl) (by kernel_rfl) λw X=>?_;obtain⟨z,I,G⟩:=bnd G;have hS_106:=X;obtain⟨a8,a3,a4,a5,a6,N,X⟩:=aAf (X.pk 1) I;obtain⟨cs,hV,a7⟩:=el (X.rd 0 rfl) N;obtain rfl:=hV;refine⟨[(0,(pP h1)),(1,(pP h1)),(2,(pP h1)),(3,.slice C S Y),(4,.int .i64 a0),(5,(pP h1)),(6,(pP h1)),(7,(pP h1)),(8,.slice C S Y),(9,.int .i64 a0),(10,.pointer (some (ea C (a0.toNat * 3)))),(11,.pointer (some (ea C (a0.toNat * 3+1)))),(12,.slice a3 a4 a5),(13,.int .i64 (z.f1.length:Int)),(14,.pointer (some (ea C (a0.toNat * 3)))),(15,.pointer (some (ea C (a0.toNat * 3+2))))],?_⟩;refine dF [0,1,2,3,4,5,6,7,8,9,10,11,12,13,14,15] [16] (by kernel_rfl) ⟨pt [(1,_)] rfl (λU J=>aP oX (hS_106.cell 2 rfl 0 _ rfl) J rfl rfl rfl),pt [(3,_)] rfl (λU J=>aK rfl (J.ev rfl)),pt [(4,_)] rfl (λU J=>aR oC J rfl rfl),pt [(5,_)] rfl (λU J=>aP iM (hS_106.cell 0 rfl 0 _ rfl) J rfl rfl rfl),pm rfl,pt [(1,_)] rfl (λU J=>aP oX (hS_106.cell 2 rfl 0 _ rfl) J rfl rfl rfl),pt [(8,_)] rfl (λU J=>aK rfl (J.ev rfl)),pt [(9,_)] rfl (λU J=>aR oC J rfl rfl),pt [(10,_)] rfl (λU J=>aP iM (hS_106.cell 0 rfl 0 _ rfl) J rfl rfl rfl),pm rfl,pt [(11,_),(12,_)] rfl (λU J=>eW iM oK (hS_106.rd2L 1 rfl) I J rfl rfl rfl),pt [(13,_)] rfl (λU J=>kN (m:=a0.toNat * 3) aG3 J rfl rfl),pt [(14,_)] rfl (λU J=>aP cL (a7 1 _ rfl) J rfl rfl rfl),pt [(15,_)] rfl (λU J=>sN cL (X.rd 1 rfl).2.1 J rfl rfl),pt [(6,_),(7,_)] rfl (λU J=>eW iM oK (X.rdp 0 rfl a6) I J rfl rfl rfl),pt [(17,_)] rfl (λU J=>kN (m:=a0.toNat * 3) aYf J rfl rfl),trivial⟩ ⟨et [(16,_),(18,_)] rfl (λU J K hK=>?_),trivial⟩;refine aMk (z':=((⟨z.f0,z.f1,(z.f1.length:Int)⟩:S98),a3,a4,a5)) (off:=2) (vs:=[.int .i64 (z.f1.length:Int)]) 0 sz3 J X rfl (jJ N).2.2 (λc h=>by cases h; rfl) (λw X=>?_) rfl rfl rfl rfl rfl rfl;replace X:=X.pk 2 |>.pk 2 |>.pk 2;replace X:=aKb (g:=(λx:S98=>x.f1)) (x':=(⟨z.f0,z.f1,(z.f1.length:Int)⟩:S98)) a6 N X;refine hK _ [] _ rfl (dU [] (by kernel_rfl) trivial ⟨by kernel_rfl,by kernel_rfl⟩ [(1,_)] rfl (λU J=>?_));replace X:=X.pk 1;replace X:=(aF (x:=(⟨a1.f0.set a0.toNat (⟨z.f0,z.f1,(z.f1.length:Int)⟩:S98),a1.f1,a1.f2,a1.f3,a1.f4⟩:S77)) X).pk 1;cases G;refine hQn _ _ (aIg Tryz.results107 J ?_);exact⟨rfl,X⟩
theorem aA7 {a0 a1 g1 h1 y} (G:nH a0 a1=some y) (X:SH r (blk g1 29 [.pointer (some ⟨h1,0,none⟩)]::obj77 h1 a1::L) w) :
  Ret Tryz.prog 79 #[.int .i64 a0,(pP g1)] w λv w'=>v=.tuple #[]/\SH r (blk g1 29 [.pointer (some ⟨h1,0,none⟩)]::obj77 h1 y::L) w':=by
 refine enter Tryz.func79 rfl Tryz.ntmps79 [(0,_),(1,_)] rfl (by simp) ?_;intro U J Qf hQ hQn;unfold nH at G;obtain⟨z,C,I,X⟩:=aG (X.pk 1);refine bZ [0,0,2,6,14,0,0,64,254,511,1023,2047] [8,11] rfl J X (by kernel_rfl) (by kernel_rfl) (by kernel_rfl) (by kernel_rfl) λw X=>?_;obtain⟨N,S,G⟩:=gQ G;refine⟨[(0,(pP h1)),(1,(pP h1)),(2,(pP h1)),(3,(pP h1)),(4,.slice z C I),(5,.int .i64 a0),(6,.int .i64 a0),(7,.int .i64 N)],?_⟩;refine dF [0,1,2,3,4,5,6,7] [8] (by kernel_rfl) ⟨pt [(1,_)] rfl (λU J=>aP oX (X.cell 2 rfl 0 _ rfl) J rfl rfl rfl),pt [(1,_)] rfl (λU J=>aP oX (X.cell 2 rfl 0 _ rfl) J rfl rfl rfl),pt [(4,_)] rfl (λU J=>aK rfl (J.ev rfl)),pt [(5,_)] rfl (λU J=>aR oC J rfl rfl),pt [(6,_)] rfl (λU J=>aP iM (X.cell 0 rfl 0 _ rfl) J rfl rfl rfl),pm rfl,pm rfl,pt [(9,_)] rfl λU J=>cO S (kT rfl (J.ev rfl) (J.ev rfl)),trivial⟩ ⟨et [(7,_),(8,_),(10,_)] rfl (λU J K hK=>?_),trivial⟩;replace X:=X.pk 1;obtain⟨Y,a3,G⟩:=bnd G;refine eM bCh J (bCe (L:=blk h1 77 [.slice z C I,.int .i64 a1.f1,.int .i64 a1.f2,.bool a1.f3,.int .i64 a1.f4]::blk g1 29 [.pointer (some ⟨h1,0,none⟩)]::L) a1.f0 a0 N a3 X) (λv w hR=>?_) rfl;obtain⟨a4,a5,a6,rfl,X⟩:=hR;refine hK _ [(9,(pP h1)),(10,(pP h1))] _ rfl (dF [0,9,10] [11] (by kernel_rfl) ⟨pt [(1,_)] rfl (λU J=>aP oX (X.cell 2 rfl 0 _ rfl) J rfl rfl rfl),pt [(3,_)] rfl (λU J=>aK rfl (J.ev rfl)),pt [(12,_)] rfl (λU J=>aR oC J rfl rfl),trivial⟩ ⟨et [(11,_),(13,_)] rfl (λU J K hK=>?_),trivial⟩);refine jY 1 aU7 J X rfl (λw X=>?_) rfl;refine hK _ [] _ rfl (dU [] (by kernel_rfl) trivial ⟨by kernel_rfl,by kernel_rfl⟩ [(1,_)] rfl (λU J=>?_));replace X:=X.pk 1 |>.pk 1;replace X:=(aF (x:=(⟨Y,a1.f1,a1.f2,a1.f3,a1.f4⟩:S77)) X).pk 1;cases G;refine hQn _ _ (aIg Tryz.results79 J ?_);exact⟨rfl,X⟩
theorem aA0 {a0 a1 a2 g1 h1 g2 y} (G:nU a0 a1 a2=some y) (X:SH r (blk g1 29 [.pointer (some ⟨h1,0,none⟩)]::obj77 h1 a1::obj9 g2 a2::L) w) :
  Ret Tryz.prog 90 #[.int .i64 a0,(pP g1),(pP g2)] w λv w'=>v=.tuple #[]/\SH r (blk g1 29 [.pointer (some ⟨h1,0,none⟩)]::obj77 h1 y.1::obj9 g2 y.2::L) w':=by
 refine enter Tryz.func90 rfl Tryz.ntmps90 [(0,_),(1,_),(2,_)] rfl (by simp) ?_;intro U J Qf hQ hQn;unfold nU at G;obtain⟨a6,a7,a8,X⟩:=aG (X.pk 1);replace X:=uD (X.pk 3);refine ws λd3 b6=>aM oX (X.cell 3 rfl 0 _ rfl) J (λU J=>?_) rfl;refine xk 1 J rfl λU J=>aO oC J (λU J=>?_) rfl;refine aM iM (X.cell 1 rfl 0 _ rfl) J (λU J=>?_) rfl;refine x_m J rfl λU J=>?_;obtain⟨z,a9,G⟩:=bnd G;refine fK iM oK (X.rd2L 2 rfl) a9 J (λU J=>?_) rfl;obtain⟨d4,C,I,N,b7,b3,X⟩:=aAf (X.pk 2) a9;obtain⟨cs,hV,b8⟩:=el (X.rd 0 rfl) b3;obtain rfl:=hV;refine iL (cs:=[str z.f0,.slice C I N,.int .i64 z.f2]) aOs oK (λj u h=>by rw [iD]; exact b8 _ _ h) J (λU J=>?_) rfl;refine eY (cs:=[str [],.slice none 0 0,.int .i64 0]) aVk J X (λY U w X J=>?_) rfl;refine eH 0 oK J X rfl (λU w X J=>?_) rfl;refine wn (b6 _ _ ?_);refine wp_seq_k λd5 b9=>bZ [0,0,2,6,14,0,0,64,254,511,1023,2047] [8,11] rfl J X (by kernel_rfl) (by kernel_rfl) (by kernel_rfl) (by kernel_rfl) λw X=>?_;obtain⟨c0,c4,G⟩:=gQ G;refine⟨[(0,(pP h1)),(1,(pP h1)),(2,(pP h1)),(3,(pP h1)),(4,.slice a6 a7 a8),(5,.int .i64 a0),(6,.int .i64 a0),(7,.int .i64 c0)],?_⟩;refine dF [0,1,2,3,4,5,6,7] [8] (by kernel_rfl) ⟨pt [(1,_)] rfl (λU J=>aP oX (X.cell 6 rfl 0 _ rfl) J rfl rfl rfl),pt [(1,_)] rfl (λU J=>aP oX (X.cell 6 rfl 0 _ rfl) J rfl rfl rfl),pt [(15,_)] rfl (λU J=>aK rfl (J.ev rfl)),pt [(16,_)] rfl (λU J=>aR oC J rfl rfl),pt [(17,_)] rfl (λU J=>aP iM (X.cell 5 rfl 0 _ rfl) J rfl rfl rfl),pm rfl,pm rfl,pt [(20,_)] rfl λU J=>cO c4 (kT rfl (J.ev rfl) (J.ev rfl)),trivial⟩ ⟨et [(18,_),(19,_),(21,_)] rfl (λU J K hK=>?_),trivial⟩;replace X:=X.pk 3 |>.pk 2;obtain⟨c5,G⟩:=aC G;refine eM bCh J (aYa (L:=blk Y 98 [str z.f0,.slice C I N,.int .i64 z.f2]::own (kI .u8) 5 C I N z.f1::blk g2 9 [str a2]::blk h1 77 [.slice a6 a7 a8,.int .i64 a1.f1,.int .i64 a1.f2,.bool a1.f3,.int .i64 a1.f4]::blk g1 29 [.pointer (some ⟨h1,0,none⟩)]::L) c5 b7 b3 X) (λv w hR=>?_) rfl;obtain⟨a3,a4,a5,rfl,X⟩:=hR;refine hK _ [(9,(pP h1)),(10,(pP h1))] _ rfl (dF [0,9,10] [11] (by kernel_rfl) ⟨pt [(1,_)] rfl (λU J=>aP oX (X.cell 5 rfl 0 _ rfl) J rfl rfl rfl),pt [(14,_)] rfl (λU J=>aK rfl (J.ev rfl)),pt [(23,_)] rfl (λU J=>aR oC J rfl rfl),trivial⟩ ⟨et [(22,_),(24,_)] rfl (λU J K hK=>?_),trivial⟩);refine jY 4 aU7 J X rfl (λw X=>?_) rfl;refine hK _ [] _ rfl (dU [] (by kernel_rfl) trivial ⟨by kernel_rfl,by kernel_rfl⟩ [(1,_),(2,_),(4,_)] rfl (λU J=>?_));refine b9 _ _ (ws λd6 c6=>?_);refine aM uu9 (X.cell 4 rfl 0 _ rfl) J (λU J=>?_) rfl;refine aO aJ6 J (λU J=>?_) rfl;refine eH 2 sz9 J X rfl (λU w X J=>?_) rfl;refine wn (c6 _ _ ?_);refine ws λd7 c7=>aM oX (X.cell 5 rfl 0 _ rfl) J (λU J=>?_) rfl;refine aM uu9 (X.cell 4 rfl 0 _ rfl) J (λU J=>?_) rfl;replace X:=X.pk 2 |>.pk 2;obtain⟨S,c8,G⟩:=bnd G;refine x_c aQs J rfl (kA c8 X :) λv U w hR J=>?_;obtain⟨rfl,X⟩:=hR;refine nk 5 J rfl λU J=>c7 _ _ (nz 1 J rfl λU J=>?_);refine aX J G rfl (λc9 G=>?_) λc9 G=>?_
 ·refine bZ [0,1,3,7,0,0,63,127] [7] rfl J X (by kernel_rfl) (by kernel_rfl) (by kernel_rfl) (by kernel_rfl) λw X=>?_;obtain⟨d8,b4,G⟩:=bnd G;refine⟨[(0,(pP h1)),(1,(pP h1)),(2,(pP h1)),(3,.slice a3 a4 a5),(4,.int .i64 S.1),(5,.agg #[str a2,.slice C I N,.int .i64 z.f2]),(6,.pointer (some (ea a3 (S.1.toNat * 3))))],?_⟩;refine dF [0,1,2,3,4,5,6] [7] (by kernel_rfl) ⟨pt [(1,_)] rfl (λU J=>aP oX (X.cell 5 rfl 0 _ rfl) J rfl rfl rfl),pt [(34,_)] rfl (λU J=>aK rfl (J.ev rfl)),pt [(35,_)] rfl (λU J=>aR oC J rfl rfl),pt [(36,_)] rfl (λU J=>aP iM (X.cell 0 rfl 0 _ rfl) J rfl rfl rfl),pm rfl,pt [(4,_)] rfl (λU J=>rM (ad:=⟨Y,0,none⟩) (cs:=[str a2,.slice C I N,.int .i64 z.f2]) aOs oK (λj u h=>by rw [gM,Nat.zero_add]; exact X.cell 2 rfl j u h) J rfl rfl rfl),pt [(37,_),(38,_)] rfl (λU J=>eW iM oK (X.rd2L 1 rfl) b4 J rfl rfl rfl),trivial⟩ ⟨et [(39,_),(40,_)] rfl (λU J K hK=>?_),trivial⟩;have hS_130:=X;obtain⟨d9,e1,e2,e3,d0,b5,X⟩:=aAf (X.pk 1) b4;refine aMk (z':=((⟨a2,z.f1,z.f2⟩:S98),C,I,N)) (off:=0) (vs:=[str a2,.slice C I N,.int .i64 z.f2]) 0 oK J X rfl (jJ b5).2.2 (λc h=>by cases h; rfl) (λw X=>?_) rfl rfl rfl rfl rfl rfl;replace X:=X.pk 2 |>.pk 5 |>.pk 2;replace X:=aKb (g:=(λx:S98=>x.f1)) (x':=(⟨a2,z.f1,z.f2⟩:S98)) d0 b5 X;refine hK _ [] _ rfl (dU [] (by kernel_rfl) trivial ⟨by kernel_rfl,by kernel_rfl⟩ [(1,_),(2,_)] rfl (λU J=>?_));replace X:=X.pk 2;replace X:=(sA (x:=a2) ((aF (x:=(⟨(a1.f0.eraseIdx a0.toNat).set S.1.toNat (⟨a2,z.f1,z.f2⟩:S98),a1.f1,a1.f2,a1.f3,a1.f4⟩:S77)) X).pk 3)).drop 2 |>.drop 2 |>.pk 1 |>.pk 2;cases G;refine hQn _ _ (aIg Tryz.results90 J ?_);exact⟨rfl,X⟩
 refine bZ [0,0,2,6,14,0,0,64,254,511,1023,2047] [7,8,11] rfl J X (by kernel_rfl) (by kernel_rfl) (by kernel_rfl) (by kernel_rfl) λw X=>⟨[(0,(pP h1)),(1,(pP h1)),(2,(pP h1)),(3,(pP h1)),(4,.slice a3 a4 a5),(5,.int .i64 S.1),(6,.agg #[str a2,.slice C I N,.int .i64 z.f2])],?_⟩;refine dF [0,1,2,3,4,5,6] [7] (by kernel_rfl) ⟨pt [(1,_)] rfl (λU J=>aP oX (X.cell 5 rfl 0 _ rfl) J rfl rfl rfl),pt [(1,_)] rfl (λU J=>aP oX (X.cell 5 rfl 0 _ rfl) J rfl rfl rfl),pt [(42,_)] rfl (λU J=>aK rfl (J.ev rfl)),pt [(43,_)] rfl (λU J=>aR oC J rfl rfl),pt [(44,_)] rfl (λU J=>aP iM (X.cell 0 rfl 0 _ rfl) J rfl rfl rfl),pm rfl,pt [(4,_)] rfl (λU J=>rM (ad:=⟨Y,0,none⟩) (cs:=[str a2,.slice C I N,.int .i64 z.f2]) aOs oK (λj u h=>by rw [gM,Nat.zero_add]; exact X.cell 2 rfl j u h) J rfl rfl rfl),trivial⟩ ⟨et [(47,_)] rfl (λU J K hK=>?_),trivial⟩;replace X:=X.pk 3;refine eN (d:=kp98) (e:=98) (ps:=#[(0,.agg #[str a2,.slice C I N,.int .i64 z.f2])]) (cells:=[str a2,.slice C I N,.int .i64 z.f2]) (xs:=[((⟨a2,z.f1,z.f2⟩:S98),C,I,N)]) (λw=>by kernel_rfl) rfl ⟨[str a2,.slice C I N,.int .i64 z.f2],_,rfl,rfl,rfl⟩ J X (λe4 w X=>?_) rfl;replace X:=aL4 (g:=(λx:S98=>x.f1)) (x:=(⟨a2,z.f1,z.f2⟩:S98)) X;refine hK _ [] _ rfl (dF [0,1,2,3,4,5] [8] (by kernel_rfl) ⟨pt [(1,_)] rfl (λU J=>aP oX (X.cell 5 rfl 0 _ rfl) J rfl rfl rfl),pt [(1,_)] rfl (λU J=>aP oX (X.cell 5 rfl 0 _ rfl) J rfl rfl rfl),pt [(42,_)] rfl (λU J=>aK rfl (J.ev rfl)),pt [(43,_)] rfl (λU J=>aR oC J rfl rfl),pt [(44,_)] rfl (λU J=>aP iM (X.cell 1 rfl 0 _ rfl) J rfl rfl rfl),pm rfl,trivial⟩ ⟨et [(45,_),(46,_),(48,_)] rfl (λU J K hK=>?_),trivial⟩);replace X:=X.pk 2;obtain⟨d1,d2,G⟩:=bnd G;refine eM bAg J (aXr (L:=blk h1 77 [.slice a3 a4 a5,.int .i64 a1.f1,.int .i64 a1.f2,.bool a1.f3,.int .i64 a1.f4]::blk Y 98 [str a2,.slice C I N,.int .i64 z.f2]::blk g2 9 [str a2]::blk g1 29 [.pointer (some ⟨h1,0,none⟩)]::L) (a1.f0.eraseIdx a0.toNat) S.1 [(⟨a2,z.f1,z.f2⟩:S98)] d2 X) (λv w hR=>?_) rfl;obtain⟨e5,e6,e7,rfl,X⟩:=hR;refine hK _ [(9,(pP h1)),(10,(pP h1))] _ rfl (dF [0,9,10] [11] (by kernel_rfl) ⟨pt [(1,_)] rfl (λU J=>aP oX (X.cell 4 rfl 0 _ rfl) J rfl rfl rfl),pt [(41,_)] rfl (λU J=>aK rfl (J.ev rfl)),pt [(50,_)] rfl (λU J=>aR oC J rfl rfl),trivial⟩ ⟨et [(49,_),(51,_)] rfl (λU J K hK=>?_),trivial⟩);refine jY 1 aU7 J X rfl (λw X=>?_) rfl;refine hK _ [] _ rfl (dU [] (by kernel_rfl) trivial ⟨by kernel_rfl,by kernel_rfl⟩ [(1,_),(2,_)] rfl (λU J=>?_));replace X:=X.pk 1 |>.pk 1;replace X:=(sA (x:=a2) ((aF (x:=(⟨d1,a1.f1,a1.f2,a1.f3,a1.f4⟩:S77)) X).pk 2)).drop 2 |>.pk 1 |>.pk 2;cases G;refine hQn _ _ (aIg Tryz.results90 J ?_);exact⟨rfl,X⟩
end
noncomputable section
set_option linter.unusedSimpArgs false
def nK (a1:(List UInt8)) (z:S77):Option (Int×S77) :=
  (cQ (some z) a1).bind λG=>(if (G != 0)=true then (some (G,z)) else ((eD z a1).bind λI=>(if (!I.2)=true then (some (5,z)) else ((gP z).bind λC=>(if (!C.1)=true then (some (9,C.2)) else ((pM I.1 C.2).bind λJ=>(some (0,J))))))))
def lJ (a1:(List UInt8)) (z:S77):Option (Int×S77) :=
  (cQ (some z) a1).bind λG=>(if (G != 0)=true then (some (G,z)) else ((eD z a1).bind λI=>(if (!I.2)=true then (some (5,z)) else ((gP z).bind λC=>(if (!C.1)=true then (some (9,C.2)) else ((nH I.1 C.2).bind λJ=>(some (0,J))))))))
def oM (a1:(List UInt8)) (z:S77) (C:(List UInt8)):Option (Int×S77×(List UInt8)) :=
  (cQ (some z) a1).bind λI=>(if (I != 0)=true then (some (I,z,C)) else ((eD z a1).bind λJ=>(if (!J.2)=true then (some (5,z,C)) else ((gP z).bind λG=>(if (!G.1)=true then (some (9,G.2,C)) else ((nU J.1 G.2 C).bind λN=>(some (0,N.1,N.2))))))))
def pG (a0:(Option S77)) (a1:(List UInt8)):Option (Int×(Option S77)) :=
  match a0 with | none=>(none) | some C=>((nK a1 C).bind λz=>(some (z.1,some z.2)))
def pY (a0:(Option S77)) (a1:(List UInt8)):Option (Int×(Option S77)) :=
  match a0 with | none=>(none) | some C=>((lJ a1 C).bind λz=>(some (z.1,some z.2)))
def pQ (a0:(Option S77)) (a1:(List UInt8)) (a2:(List UInt8)):Option (Int×(Option S77)) :=
  match a0 with | none=>((cQ none a2).bind λC=>(if (C != 0)=true then (some (C,none)) else (none))) | some z=>((rG a1).bind λJ=>(if (!J)=true then (some (1,some z)) else ((cQ (some z) a2).bind λG=>(if (G != 0)=true then (some (G,some z)) else ((oM a1 z a2).bind λI=>(some (I.1,some I.2.1)))))))
end
end Go.Proofs.YtdkpjpoajlmmfaaGreatDoor.M
