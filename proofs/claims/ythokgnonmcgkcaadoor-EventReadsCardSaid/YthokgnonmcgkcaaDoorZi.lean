/- Texts of the claim, joined: what it uses of LEventReads, Qa, Qb, Qc, Qd, Qe, Qf, Qg, Qh, Qi, Qj, Qk, Ql, Qm, Qn, Qo, Qp, Qq, Pa, Pb, Pc, Pd, Pf, Pg. -/
import Derived.Test.YthokgnonmcgkcaaDoorZh
import Derived.Test.YthokgnonmcgkcaaDoorCards
import Derived.Test.YthokgnonmcgkcaaDoorTie
import Derived.SevenTiedAt
import Derived.LaidMore
import Derived.OpenShut
import Derived.Stop.Joined
import Derived.ProofKit
import Derived.IntWalk
import Derived.Sort.Walk0
namespace Go.Proofs.YthokgnonmcgkcaaDoor.eventReads
open Go Go.RowKit Go.ChangeShapes Go.WideShapes Go.ChangeAt Go.Proofs.YthokgnonmcgkcaaDoor.E Go.Proofs.YthokgnonmcgkcaaDoor.M
set_option linter.unusedVariables false
theorem own : ownKnob Tryd.prog.godebug = none := by kernel_rfl
theorem laidOut : laidOutB Tryd.prog = true := by kernel_rfl
theorem gN : Tryd.prog.globalNamed "headrace/page.table" = some 0 := by kernel_rfl
theorem gT : (Tryd.prog.globals[0]?).map (·.type) = some 109 := by kernel_rfl
theorem door_met (os : Os) (args : Array Value) : laidMetH Tryd.prog Rows.eventReadsRow.laid ((World.doorLaid Tryd.prog 400 os).forCall (fun _ _ => 0) ⟨#[], args, []⟩).memory :=
  laidMetH_of_parts3 (fuel := 8) (laidMet_of_run' 8 (by kernel_rfl) (by kernel_rfl)) (by kernel_rfl) (by kernel_rfl)
theorem of_laid {W : World} (h : laidMetH Tryd.prog Rows.eventReadsRow.laid W) : Imm (HeapZ W) W (kI .u32) (some ⟨0, 0, none⟩) 16 16 M.gl0 := by
  rw [MakeChecks.laidMetH_plain _ _ _ (by kernel_rfl)] at h
  exact tab_imm gN gT Tryd.underlying109 Tryd.underlying79 ce79 rfl (by decide) h
def Pure : Prop := ∀ (a0 : (List Int)) (a1 : Int) (a2 : Int), (gL 1 (gI .u8)) a0 → (gI .i64) a1 → (gI .u8) a2 → M.law06_EventReads a0 a1 a2 = some true
set_option maxRecDepth 100000 in
theorem lifted (hP : Pure) (os : Os) (started : os.Started) (H : Type) (enc : TypeId × Value → H) :
    ReturnsInHanded {} Tryd.checked os 3 .any (fun w args => (Rows.eventReadsSpec.pre enc Tryd.prog Tryd.f3 [] false w args ∧ laidMetH Tryd.prog Rows.eventReadsRow.laid w) ∧ sizedMet enc Tryd.prog Tryd.f3 (OpenSpec.ofChange Rows.eventReadsSpec) false w args)
      (Rows.eventReadsSpec.post enc Tryd.prog Tryd.f3 false true false false) := by
  refine returnsInHanded_of_change_and (C := Tryd.checked) (X := fun w _ => laidMetH Tryd.prog Rows.eventReadsRow.laid w) (fun _ _ _ hh h => h.of_heap hh) own started (by kernel_rfl) Tryd.func3
    (ChangeSpec.witness_shaped (enc := enc) (C := Tryd.checked) (os := os) (X := fun w _ => laidMetH Tryd.prog Rows.eventReadsRow.laid w) false (World.doorLaid Tryd.prog 400 os) #[.slice none 0 0, .int .i64 0, .int .u8 0] 8 rfl (World.shaped_of_RefB (by kernel_rfl) (by kernel_rfl)) (by kernel_rfl) (by kernel_rfl) (by kernel_rfl) (door_met os _)) ?_
  intro W base args ds gs before hval0 hW hcnd hsz0 hL _
  have hsz : (DataW.weightsEach Tryd.prog (Tryd.f3.params.toList ++ Rows.eventReadsSpec.plain.varTypes Tryd.prog) (ds ++ gs)).all (· ≤ reachBytes) = true := hsz0
  have hval : ∀ (j : Nat) t v, Tryd.f3.params[j]? = some t → args[j]? = some v → Value.okWide Tryd.prog W .any base t v := hval0
  have hW' := hW
  obtain ⟨p, q, hA0, hV, rfl, hfz, hnd⟩ := hW
  have hA : DataW.TrodAll enc Tryd.prog W 0 (fun _ => true) true Tryd.f3.params.toList args.toList ds p := hA0
  rw [Tryd.params3] at hA hval hsz
  obtain ⟨v0, vs0, d0, ds0, p0, q0, hargs, rfl, rfl, h0, r0⟩ := trodAll_cons hA
  obtain ⟨v1, vs1, d1, ds1, p1, q1, rfl, rfl, rfl, h1, r1⟩ := trodAll_cons r0
  obtain ⟨v2, vs2, d2, ds2, p2, q2, rfl, rfl, rfl, h2, r2⟩ := trodAll_cons r1
  obtain ⟨rfl, rfl, rfl⟩ := trodAll_nil r2
  obtain rfl : args = #[v0, v1, v2] := by cases args; simp_all
  obtain ⟨rfl, rfl⟩ := trodVars_none hV
  have k0 := h0
  have lt0 : ∀ x ∈ p0, x.block < W.heap.size := by obtain ⟨m, hm⟩ := k0; exact DataW.trod_lt m _ _ _ hm
  obtain ⟨x0, hx0, g0⟩ := Opens.arg (opSl Tryd.underlying22 ce5 (Nat.succ_pos _) by5 (opI Tryd.underlying5)) h0 (Wt.of hsz (j := 0) rfl rfl)
  obtain ⟨A0, n0, c0, rfl⟩ := okWide_slice Tryd.underlying22 (hval 0 22 v0 rfl rfl)
  obtain ⟨A0', n0', c0', he0, i0⟩ := hx0
  cases (show [Value.slice A0 n0 c0] = [Value.slice A0' n0' c0'] from he0)
  have k1 := h1
  have lt1 : ∀ x ∈ p1, x.block < W.heap.size := by obtain ⟨m, hm⟩ := k1; exact DataW.trod_lt m _ _ _ hm
  obtain ⟨x1, hx1, g1⟩ := Opens.arg (opI Tryd.underlying3) h1 (Wt.of hsz (j := 1) rfl rfl)
  obtain ⟨u1, rfl⟩ := okWide_int Tryd.underlying3 (hval 1 3 v1 rfl rfl)
  cases (show [Value.int .i64 u1] = [Value.int .i64 x1] from hx1)
  have k2 := h2
  have lt2 : ∀ x ∈ p2, x.block < W.heap.size := by obtain ⟨m, hm⟩ := k2; exact DataW.trod_lt m _ _ _ hm
  obtain ⟨x2, hx2, g2⟩ := Opens.arg (opI Tryd.underlying5) h2 (Wt.of hsz (j := 2) rfl rfl)
  obtain ⟨u2, rfl⟩ := okWide_int Tryd.underlying5 (hval 2 5 v2 rfl rfl)
  cases (show [Value.int .u8 u2] = [Value.int .u8 x2] from hx2)
  clear hA0 hval0 hsz0 hsz
  refine Calls.mono (M.F_law06_EventReads (Z := HeapZ W) (wz := W) x0 x1 x2 A0 n0 c0 (hP x0 x1 x2 g0 g1 g2) i0 (of_laid hL) (L := []) (SH.start W)) ?_
  rintro e W' ⟨v, rfl, Z', wz', rfl, hs, hS⟩
  have bel := SH.below hS hs
  exact ⟨_, rfl, _, _, _, [], _, [], hW', trodAll_mk1 (shut_bool Tryd.underlying4 _), (trodAll_cons_mk (Below.trod laidOut (by kernel_rfl) (of_decide_eq_true (by kernel_rfl)) k0 bel lt0) (trodAll_cons_mk (Below.trod laidOut (by kernel_rfl) (of_decide_eq_true (by kernel_rfl)) k1 bel lt1) (trodAll_cons_mk (Below.trod laidOut (by kernel_rfl) (of_decide_eq_true (by kernel_rfl)) k2 bel lt2) trodAll_mk0))), rfl, bel.frame _, fun h => by cases h⟩
theorem over (hP : Pure) : Rows.eventReadsRow.holds Tryd.pinned (OpenSpec.ofChange Rows.eventReadsSpec) :=
  OpenClaim.holds_of_wide 3 Tryd.f3 rfl rfl rfl rfl rfl rfl rfl ⟨rfl, rfl, rfl, rfl, rfl⟩ rfl rfl rfl rfl rfl (by kernel_rfl) Tryd.func3 (by kernel_rfl)
    (of_decide_eq_true (by kernel_rfl)) (by unfold Func.isWrapper; first | (rw [if_pos (by decide +kernel)]; kernel_rfl) | (rw [if_neg (by decide +kernel)]; exact ⟨rfl, rfl⟩))
    (fun os started H enc _ => lifted hP os started H enc)
def hrn : Bool × String := Rows.eventReadsCard.stood.harness
theorem card (hP : Pure) : Rows.EventReadsCardSaid :=
  Claim7.holds_tied_plain_at .later [] [.data] true hrn true
    (over hP) (fun _ h => by cases h) (by kernel_rfl) (fun _ h => by cases h) eventReads_row_tie rfl ⟨rfl, rfl⟩ (by kernel_rfl) rfl
    (fun f fn hf hfn => by
      obtain rfl : f = 3 := Option.some.inj ((show Tryd.prog.funcNamed "headrace/headracelaw06.EventReads" = some 3 by kernel_rfl).symm.trans hf) |>.symm
      obtain rfl : fn = Tryd.f3 := (Option.some.inj (Tryd.func3.symm.trans hfn)).symm
      exact ⟨by kernel_rfl, fun j t ht => by
        rw [Tryd.params3] at ht
        have hm : t ∈ [22, 3, 5] := by simpa using Array.mem_of_getElem? ht
        have hall : ([22, 3, 5].all fun u => !Tryd.prog.wantsStandIn u) = true := by kernel_rfl
        exact (show Tryd.prog.wantsStandIn t = false by simpa using List.all_eq_true.1 hall t hm)⟩)
    (by kernel_rfl)
end Go.Proofs.YthokgnonmcgkcaaDoor.eventReads
namespace Go.Proofs.YthokgnonmcgkcaaDoor.P
open Go Go.RowKit Go.Proofs.YthokgnonmcgkcaaDoor.E Go.Proofs.YthokgnonmcgkcaaDoor.M
set_option linter.unusedVariables false
set_option linter.unusedSectionVars false
theorem at_nat {α : Type} (xs : List α) (n : Nat) : at_ xs (n : Int) = xs[n]? := by simp [at_]
theorem at_int {α : Type} {xs : List α} {i : Int} {n : Nat} {x : α} (hi : i = n) (h : xs[n]? = some x) : at_ xs i = some x := by subst hi; rw [at_nat, h]
theorem cut_nat {α : Type} {xs : List α} {l u : Nat} (h : l ≤ u) (hu : u ≤ xs.length) : cut_ xs (l : Int) (u : Int) = some ((xs.take u).drop l) := by
  unfold cut_; rw [if_pos (by omega)]; simp
theorem chk_pos {α : Type} {p : Prop} [Decidable p] {x : Option α} (h : p) : chk p x = x := if_pos h
theorem w64 {n : Int} (h : -9223372036854775808 ≤ n) (h' : n ≤ 9223372036854775807) : IntKind.i64.wrap n = n := IntWalk.i64_in n ⟨h, h'⟩
theorem u64w {n : Int} (h : 0 ≤ n) (h' : n < 18446744073709551616) : IntKind.u64.wrap n = n := IntWalk.u64_in n ⟨h, by omega⟩
theorem lt_ {α β : Type} (e : α) (f : α → Option β) : ltt e f = f e := rfl
theorem loop_at {σ τ : Type} {b : σ → Option (σ ⊕ τ)} (f : Nat → σ) {t : τ} : ∀ (n : Nat) (i : Nat), (∀ k, i ≤ k → k < i + n → b (f k) = some (.inl (f (k + 1)))) → b (f (i + n)) = some (.inr t) → loop b (f i) = some t
  | 0, i, _, he => loop_end he
  | n + 1, i, hs, he => (loop_nxt (hs i (Nat.le_refl _) (by omega))).trans (loop_at f n (i + 1) (fun k h1 h2 => hs k (by omega) (by omega)) (by rw [show i + 1 + n = i + (n + 1) by omega]; exact he))
theorem loop_to {σ τ : Type} {b : σ → Option (σ ⊕ τ)} (f : Nat → σ) {t : τ} (n : Nat) (hs : ∀ k, k < n → b (f k) = some (.inl (f (k + 1)))) (he : b (f n) = some (.inr t)) : loop b (f 0) = some t :=
  loop_at f n 0 (fun k _ h => hs k (by omega)) (by simpa using he)
theorem ofInt_nat (n a : Nat) : BitVec.ofInt n (a : Int) = BitVec.ofNat n a := BitVec.ofInt_natCast n a
theorem u64_nat (a : Nat) : IntKind.u64.wrap (a : Int) = ((a % 18446744073709551616 : Nat) : Int) := by
  rw [IntKind.wrap_u64]; omega
theorem u8_nat (a : Nat) : IntKind.u8.wrap (a : Int) = ((a % 256 : Nat) : Int) := by rw [IntKind.wrap_u8]; omega
theorem iand_u64 {a b : Nat} (ha : a < 18446744073709551616) (hb : b < 18446744073709551616) : iand .u64 (a : Int) (b : Int) = ((a &&& b : Nat) : Int) := by
  unfold iand
  rw [ofInt_nat, ofInt_nat, u64_nat]
  have h : a &&& b < 18446744073709551616 := Nat.lt_of_le_of_lt Nat.and_le_left ha
  simp only [BitVec.toNat_and, BitVec.toNat_ofNat, show IntKind.u64.bits = 64 from rfl]
  rw [Nat.mod_eq_of_lt (show a < 2 ^ 64 by omega), Nat.mod_eq_of_lt (show b < 2 ^ 64 by omega), Nat.mod_eq_of_lt h]
theorem iand_u8 {a b : Nat} (ha : a < 256) (hb : b < 256) : iand .u8 (a : Int) (b : Int) = ((a &&& b : Nat) : Int) := by
  unfold iand
  rw [ofInt_nat, ofInt_nat, u8_nat]
  have h : a &&& b < 256 := Nat.lt_of_le_of_lt Nat.and_le_left ha
  simp only [BitVec.toNat_and, BitVec.toNat_ofNat, show IntKind.u8.bits = 8 from rfl]
  rw [Nat.mod_eq_of_lt (show a < 2 ^ 8 by omega), Nat.mod_eq_of_lt (show b < 2 ^ 8 by omega), Nat.mod_eq_of_lt h]
theorem ior_u64 {a b : Nat} (ha : a < 18446744073709551616) (hb : b < 18446744073709551616) : ior .u64 (a : Int) (b : Int) = ((a ||| b : Nat) : Int) := by
  unfold ior
  rw [ofInt_nat, ofInt_nat, u64_nat]
  have h : a ||| b < 2 ^ 64 := Nat.or_lt_two_pow (show a < 2 ^ 64 by omega) (show b < 2 ^ 64 by omega)
  simp only [BitVec.toNat_or, BitVec.toNat_ofNat, show IntKind.u64.bits = 64 from rfl]
  rw [Nat.mod_eq_of_lt (show a < 2 ^ 64 by omega), Nat.mod_eq_of_lt (show b < 2 ^ 64 by omega), Nat.mod_eq_of_lt (show a ||| b < 18446744073709551616 from h)]
theorem two_pow (n : Nat) : (2 : Int) ^ n = ((2 ^ n : Nat) : Int) := (Int.natCast_pow 2 n).symm
theorem ishr_nat {k : IntKind} (a n : Nat) (h : n ≤ k.bits) : ishr k (a : Int) (n : Int) = ((a / 2 ^ n : Nat) : Int) := by
  unfold ishr
  rw [Int.toNat_natCast, Nat.min_eq_left h, two_pow, Int.fdiv_eq_ediv_of_nonneg _ (Int.natCast_nonneg _)]
  rfl
theorem ishl_u64 (a n : Nat) (h : n ≤ 64) : ishl .u64 (a : Int) (n : Int) = ((a * 2 ^ n % 18446744073709551616 : Nat) : Int) := by
  unfold ishl
  rw [Int.toNat_natCast, show min n IntKind.u64.bits = n from Nat.min_eq_left h, two_pow, ← Int.natCast_mul, u64_nat]
theorem or_top {a n : Nat} (h : a < 2 ^ n) (b : Nat) : a ||| (b * 2 ^ n) = a + b * 2 ^ n := by
  rw [Nat.or_comm, Nat.mul_comm, ← Nat.two_pow_add_eq_or_of_lt h, Nat.add_comm]
end Go.Proofs.YthokgnonmcgkcaaDoor.P
namespace Go.Proofs.YthokgnonmcgkcaaDoor.P
open Go Go.RowKit Go.Proofs.YthokgnonmcgkcaaDoor.E Go.Proofs.YthokgnonmcgkcaaDoor.M
set_option linter.unusedVariables false
set_option linter.unusedSectionVars false
def uv (n : Nat) : List Int := if h : n < 128 then [(n : Int)] else ((n % 128 + 128 : Nat) : Int) :: uv (n / 128)
termination_by n
decreasing_by omega
theorem uv_small {n : Nat} (h : n < 128) : uv n = [(n : Int)] := by rw [uv, dif_pos h]
theorem uv_large {n : Nat} (h : ¬ n < 128) : uv n = ((n % 128 + 128 : Nat) : Int) :: uv (n / 128) := by rw [uv, dif_neg h]
def zz (i : Int) : Nat := if i < 0 then (-(i + 1)).toNat * 2 + 1 else i.toNat * 2
def uz (n : Nat) : Int := if n % 2 = 1 then -((n / 2 : Nat) : Int) - 1 else ((n / 2 : Nat) : Int)
def i64 (i : Int) : Prop := -9223372036854775808 ≤ i ∧ i ≤ 9223372036854775807
def Bs (xs : List Int) : Prop := ∀ b ∈ xs, 0 ≤ b ∧ b < 256
theorem Bs.nil : Bs [] := fun _ h => by cases h
theorem Bs.cons {b : Int} {xs : List Int} (h : Bs (b :: xs)) : (0 ≤ b ∧ b < 256) ∧ Bs xs := ⟨h b List.mem_cons_self, fun c hc => h c (List.mem_cons_of_mem _ hc)⟩
theorem Bs.mk {b : Int} {xs : List Int} (hb : 0 ≤ b ∧ b < 256) (h : Bs xs) : Bs (b :: xs) := fun c hc => by
  rcases List.mem_cons.1 hc with rfl | hc
  · exact hb
  · exact h c hc
theorem Bs.l {xs ys : List Int} (h : Bs (xs ++ ys)) : Bs xs := fun c hc => h c (List.mem_append.2 (.inl hc))
theorem Bs.r {xs ys : List Int} (h : Bs (xs ++ ys)) : Bs ys := fun c hc => h c (List.mem_append.2 (.inr hc))
theorem Bs.drop {xs : List Int} (h : Bs xs) (n : Nat) : Bs (xs.drop n) := fun c hc => h c (List.mem_of_mem_drop hc)
theorem Bs.take {xs : List Int} (h : Bs xs) (n : Nat) : Bs (xs.take n) := fun c hc => h c (List.mem_of_mem_take hc)
theorem Bs.uv (n : Nat) : Bs (uv n) := by
  induction n using Nat.strongRecOn with
  | _ n ih =>
    by_cases hn : n < 128
    · rw [uv_small hn]; exact Bs.mk (by omega) Bs.nil
    · rw [uv_large hn]; exact Bs.mk (by omega) (ih _ (by omega))
theorem Bs.stb (s : List UInt8) : Bs (stb s) := by
  intro c hc
  unfold E.stb at hc
  obtain ⟨b, _, rfl⟩ := List.mem_map.1 hc
  have := b.toNat_lt
  omega
end Go.Proofs.YthokgnonmcgkcaaDoor.P
namespace Go.Proofs.YthokgnonmcgkcaaDoor.P
open Go Go.RowKit Go.Proofs.YthokgnonmcgkcaaDoor.E Go.Proofs.YthokgnonmcgkcaaDoor.M
set_option linter.unusedVariables false
set_option linter.unusedSectionVars false
def pB : List Int → Option (Int × List Int)
  | [] => none
  | b :: r => some (b, r)
def pV (i n : Nat) : List Int → Option (Nat × List Int)
  | [] => none
  | b :: r => if i < 9 ∨ (i = 9 ∧ b < 2) then
      (if b < 128 then (if i = 0 ∨ 0 < b then some (n + b.toNat % 128 * 2 ^ (7 * i), r) else none) else pV (i + 1) (n + b.toNat % 128 * 2 ^ (7 * i)) r)
    else none
def pU (most : Int) (xs : List Int) : Option (Int × List Int) := match pV 0 0 xs with
  | some (n, r) => if (n : Int) ≤ most then some ((n : Int), r) else none
  | none => none
def pI (xs : List Int) : Option (Int × List Int) := match pU 18446744073709551615 xs with
  | some (n, r) => some (uz n.toNat, r)
  | none => none
def pT (most : Int) (xs : List Int) : Option (List UInt8 × List Int) := match pU (IntKind.u64.wrap most) xs with
  | some (n, r) => if n ≤ (r.length : Int) then some (bts (r.take n.toNat), r.drop n.toNat) else none
  | none => none
def IsR {ρ : Type} (o : Option ((ρ × S86) ⊕ S86)) (p : Option (ρ × List Int)) : Prop :=
  match p with
  | some (a, r) => o = some (.inl (a, ⟨r⟩))
  | none => ∃ s, o = some (.inr s)
theorem IsR.cases {ρ : Type} {o : Option ((ρ × S86) ⊕ S86)} {p : Option (ρ × List Int)} (h : IsR o p) : (∃ a r, p = some (a, r) ∧ o = some (.inl (a, ⟨r⟩))) ∨ (p = none ∧ ∃ s, o = some (.inr s)) := by
  unfold IsR at h
  split at h
  · exact .inl ⟨_, _, rfl, h⟩
  · exact .inr ⟨rfl, h⟩
theorem s_inl {α β γ : Type} (a : α) (f : α → Option γ) (g : β → Option γ) : sum_ (.inl a) f g = f a := rfl
theorem Check_t (s : S86) : column_Reader_Check s true = some (.inl s) := rfl
theorem Check_f (s : S86) : column_Reader_Check s false = some (.inr s) := rfl
theorem Byte_is (xs : List Int) : IsR (column_Reader_Byte ⟨xs⟩) (pB xs) := by
  unfold column_Reader_Byte
  cases xs with
  | nil => exact ⟨_, rfl⟩
  | cons b r =>
    rw [show decide (0 < (((⟨b :: r⟩ : S86).f0.length : Nat) : Int)) = true by simp, Check_t]
    simp only [Option.bind_some, s_inl]
    have h1 : at_ (b :: r) 0 = some b := rfl
    have h2 : cut_ (b :: r) 1 ((b :: r).length : Int) = some r := by
      have := cut_nat (xs := b :: r) (l := 1) (u := (b :: r).length) (by simp) (Nat.le_refl _)
      rw [show ((1 : Nat) : Int) = 1 from rfl, List.take_length] at this
      exact this
    rw [h1]
    simp only [Option.bind_some]
    rw [h2]
    rfl
theorem and_127 (a : Nat) : a &&& 127 = a % 128 := Nat.and_two_pow_sub_one_eq_mod a 7
theorem pV_lt : ∀ (xs : List Int) (i n m : Nat) (r : List Int), n < 2 ^ (7 * i) → n < 18446744073709551616 → pV i n xs = some (m, r) → m < 18446744073709551616 ∧ ∃ p, xs = p ++ r ∧ 0 < p.length
  | [], i, n, m, r, _, _, h => by cases h
  | b :: xs, i, n, m, r, h1, h2, h => by
    unfold pV at h
    split at h
    · rename_i hc
      have hlt : n + b.toNat % 128 * 2 ^ (7 * i) < 18446744073709551616 ∧ n + b.toNat % 128 * 2 ^ (7 * i) < 2 ^ (7 * (i + 1)) := by
        have hp : 2 ^ (7 * (i + 1)) = 128 * 2 ^ (7 * i) := by rw [show 7 * (i + 1) = 7 + 7 * i by omega, Nat.pow_add]
        have hm : b.toNat % 128 * 2 ^ (7 * i) ≤ 127 * 2 ^ (7 * i) := Nat.mul_le_mul_right _ (by omega)
        refine ⟨?_, by rw [hp]; omega⟩
        rcases hc with hc | ⟨hc, hb⟩
        · have : 2 ^ (7 * i) ≤ 2 ^ 56 := Nat.pow_le_pow_right (by decide) (by omega)
          omega
        · subst hc
          have : b.toNat % 128 * 2 ^ (7 * 9) ≤ 1 * 2 ^ (7 * 9) := Nat.mul_le_mul_right _ (by omega)
          omega
      split at h
      · split at h
        · cases h
          exact ⟨hlt.1, [b], rfl, by simp⟩
        · cases h
      · obtain ⟨q1, p, rfl, q3⟩ := pV_lt xs (i + 1) _ m r hlt.2 hlt.1 h
        exact ⟨q1, b :: p, rfl, by simp⟩
    · cases h
theorem Uloop (most : Int) : ∀ (xs : List Int) (i n : Nat), Bs xs → i ≤ 10 → n < 2 ^ (7 * i) → n < 18446744073709551616 →
    IsR (loop (fun s : List Int × Int × Int => column_Reader_Uint_l1 most s.1 s.2.1 s.2.2) (xs, (n : Int), (i : Int))) (match pV i n xs with | some (m, r) => if (m : Int) ≤ most then some ((m : Int), r) else none | none => none)
  | [], i, n, hB, hi, h1, h2 => ⟨⟨[]⟩, loop_end rfl⟩
  | b :: xs, i, n, hB, hi, h1, h2 => by
    obtain ⟨hb, hB'⟩ := hB.cons
    generalize hpv : pV i n (b :: xs) = pv
    have hby : column_Reader_Byte ⟨b :: xs⟩ = some (.inl (b, ⟨xs⟩)) := Byte_is (b :: xs)
    obtain ⟨c, rfl⟩ : ∃ c : Nat, b = (c : Int) := ⟨b.toNat, by omega⟩
    have hcase : (c : Int) < 128 ∨ 128 ≤ (c : Int) := by omega
    by_cases hc : i < 9 ∨ (i = 9 ∧ (c : Int) < 2)
    · -- the byte is taken
      have hp : 2 ^ (7 * (i + 1)) = 128 * 2 ^ (7 * i) := by rw [show 7 * (i + 1) = 7 + 7 * i by omega, Nat.pow_add]
      have hm : c % 128 * 2 ^ (7 * i) ≤ 127 * 2 ^ (7 * i) := Nat.mul_le_mul_right _ (by omega)
      have hlt : c % 128 * 2 ^ (7 * i) < 18446744073709551616 ∧ n + c % 128 * 2 ^ (7 * i) < 18446744073709551616 := by
        rcases hc with hc | ⟨hc, hb⟩
        · have : 2 ^ (7 * i) ≤ 2 ^ 56 := Nat.pow_le_pow_right (by decide) (by omega)
          omega
        · subst hc
          have : c % 128 * 2 ^ (7 * 9) ≤ 1 * 2 ^ (7 * 9) := Nat.mul_le_mul_right _ (by omega)
          omega
      have hlt2 : n + c % 128 * 2 ^ (7 * i) < 2 ^ (7 * (i + 1)) := by rw [hp]; omega
      obtain ⟨m, hm'⟩ : ∃ m, m = n + c % 128 * 2 ^ (7 * i) := ⟨_, rfl⟩
      have e1 : iand .u8 (c : Int) 127 = ((c % 128 : Nat) : Int) := by
        have := iand_u8 (a := c) (b := 127) (by omega) (by omega)
        rw [show ((127 : Nat) : Int) = 127 from rfl] at this
        rw [this, and_127]
      have e2 : IntKind.i64.wrap (7 * (i : Int)) = ((7 * i : Nat) : Int) := by rw [w64 (by omega) (by omega)]; omega
      have e3 : ishl .u64 ((c % 128 : Nat) : Int) ((7 * i : Nat) : Int) = ((c % 128 * 2 ^ (7 * i) : Nat) : Int) := by
        rw [ishl_u64 _ _ (by omega), Nat.mod_eq_of_lt hlt.1]
      have e4 : ior .u64 (n : Int) ((c % 128 * 2 ^ (7 * i) : Nat) : Int) = (m : Int) := by rw [ior_u64 h2 hlt.1, or_top h1, hm']
      have hl1 : column_Reader_Uint_l1 most ((c : Int) :: xs) (n : Int) (i : Int) = column_Reader_Uint_j1 most (n : Int) (i : Int) ((c : Int), ⟨xs⟩) xs := by
        unfold column_Reader_Uint_l1
        rw [hby]
        simp only [Option.bind_some, s_inl]
        rcases hc with hc | ⟨hc, hc2⟩
        · rw [if_pos (by simp only [decide_eq_true_eq]; omega), Check_t]; rfl
        · rw [if_neg (by simp only [decide_eq_true_eq]; omega), if_pos (by subst hc; rfl), show decide ((c : Int) < 2) = true by simpa using hc2, Check_t]; rfl
      have hj : column_Reader_Uint_j1 most (n : Int) (i : Int) ((c : Int), ⟨xs⟩) xs = if (c : Int) < 128 then (if (m : Int) ≤ most ∧ (i = 0 ∨ 0 < (c : Int)) then some (.inr (.inl ((m : Int), ⟨xs⟩))) else some (.inr (.inr ⟨xs⟩))) else some (.inl (xs, (m : Int), ((i + 1 : Nat) : Int))) := by
        unfold column_Reader_Uint_j1
        simp only [lt_]
        rw [e1, u64w (by omega) (by omega), e2, chk_pos (by omega), e3, e4]
        by_cases hc1 : (c : Int) < 128
        · rw [if_pos (by simpa using hc1), if_pos hc1]
          by_cases hmo : (m : Int) ≤ most
          · rw [if_pos (by simpa using hmo)]
            by_cases hi0 : i = 0
            · subst hi0
              rw [if_pos (by rfl), Check_t, if_pos ⟨hmo, .inl rfl⟩]
              rfl
            · rw [if_neg (by simpa using hi0)]
              by_cases hc0 : 0 < (c : Int)
              · rw [show decide (0 < (c : Int)) = true by simpa using hc0, Check_t, if_pos ⟨hmo, .inr hc0⟩]; rfl
              · rw [show decide (0 < (c : Int)) = false by simpa using hc0, Check_f, if_neg (by rintro ⟨_, q | q⟩; exact hi0 q; exact hc0 q)]; rfl
          · rw [if_neg (by simpa using hmo), Check_f, if_neg (fun q => hmo q.1)]; rfl
        · rw [if_neg (by simpa using hc1), if_neg hc1, w64 (by omega) (by omega)]; rfl
      rw [pV, if_pos hc, Int.toNat_natCast, ← hm'] at hpv
      rcases hcase with hc1 | hc1
      · rw [if_pos hc1] at hj hpv
        by_cases h0 : i = 0 ∨ 0 < (c : Int)
        · rw [if_pos h0] at hpv
          subst hpv
          simp only
          by_cases hmo : (m : Int) ≤ most
          · rw [if_pos ⟨hmo, h0⟩] at hj
            rw [if_pos hmo]
            exact loop_end (hl1.trans hj)
          · rw [if_neg (fun q => hmo q.1)] at hj
            rw [if_neg hmo]
            exact ⟨_, loop_end (hl1.trans hj)⟩
        · rw [if_neg h0] at hpv
          subst hpv
          rw [if_neg (fun q => h0 q.2)] at hj
          exact ⟨_, loop_end (hl1.trans hj)⟩
      · rw [if_neg (Int.not_lt.2 hc1)] at hj hpv
        rw [loop_nxt (hl1.trans hj)]
        subst hpv
        exact Uloop most xs (i + 1) m hB' (by omega) (by rw [hm']; exact hlt2) (by rw [hm']; exact hlt.2)
    · rw [pV, if_neg hc] at hpv
      subst hpv
      refine ⟨_, loop_end (t := Sum.inr ⟨xs⟩) ?_⟩
      show column_Reader_Uint_l1 most ((c : Int) :: xs) (n : Int) (i : Int) = _
      unfold column_Reader_Uint_l1
      rw [hby]
      simp only [Option.bind_some, s_inl]
      rw [if_neg (by simp only [decide_eq_true_eq]; omega)]
      by_cases hi9 : i = 9
      · rw [if_pos (by subst hi9; rfl), show decide ((c : Int) < 2) = false by simp; omega, Check_f]; rfl
      · rw [if_neg (by simp; omega), Check_f]; rfl
theorem Uint_is (most : Int) {xs : List Int} (hB : Bs xs) : IsR (column_Reader_Uint ⟨xs⟩ most) (pU most xs) := by
  unfold column_Reader_Uint pU
  have := Uloop most xs 0 0 hB (by omega) (by simp) (by omega)
  simp only [Int.natCast_zero] at this
  rcases this.cases with ⟨a, r, h1, h2⟩ | ⟨h1, s, h2⟩
  · rw [h1]; show _ = _; rw [h2]; rfl
  · rw [h1]; exact ⟨s, by rw [h2]; rfl⟩
theorem pU_some {most : Int} {xs r : List Int} {n : Int} (h : pU most xs = some (n, r)) : (0 ≤ n ∧ n < 18446744073709551616 ∧ n ≤ most) ∧ ∃ p, xs = p ++ r ∧ 0 < p.length := by
  unfold pU at h
  split at h
  · rename_i m r' he
    split at h
    · cases h
      obtain ⟨h1, h2⟩ := pV_lt _ _ _ _ _ (by simp) (by omega) he
      exact ⟨⟨by omega, by omega, by assumption⟩, h2⟩
    · cases h
  · cases h
theorem pU_bs {most : Int} {xs r : List Int} {n : Int} (hB : Bs xs) (h : pU most xs = some (n, r)) : Bs r := by
  obtain ⟨_, p, rfl, _⟩ := pU_some h
  exact hB.r
theorem and_1 (a : Nat) : a &&& 1 = a % 2 := Nat.and_two_pow_sub_one_eq_mod a 1
theorem xor_m1 {a : Nat} (h : a < 9223372036854775808) : ixor .i64 (a : Int) (-1) = -(a : Int) - 1 := by
  show IntKind.i64.wrap (((BitVec.ofInt 64 (a : Int) ^^^ BitVec.allOnes 64).toNat : Nat) : Int) = _
  rw [ofInt_nat, BitVec.xor_allOnes, BitVec.toNat_not, BitVec.toNat_ofNat, Nat.mod_eq_of_lt (show a < 2 ^ 64 by omega), IntWalk.i64_left]
  unfold wrap64
  omega
theorem xor_0 {a : Nat} (h : a < 9223372036854775808) : ixor .i64 (a : Int) 0 = (a : Int) := by
  show IntKind.i64.wrap (((BitVec.ofInt 64 (a : Int) ^^^ 0#64).toNat : Nat) : Int) = _
  rw [ofInt_nat, BitVec.xor_zero, BitVec.toNat_ofNat, Nat.mod_eq_of_lt (show a < 2 ^ 64 by omega), w64 (by omega) (by omega)]
theorem uz_eq {n : Nat} (h : n < 18446744073709551616) : ixor .i64 (IntKind.i64.wrap (ishr .u64 (n : Int) 1)) (IntKind.i64.wrap (0 - IntKind.i64.wrap (iand .u64 (n : Int) 1))) = uz n := by
  have e1 : ishr .u64 (n : Int) 1 = ((n / 2 : Nat) : Int) := ishr_nat (k := .u64) n 1 (by decide)
  have e2 : iand .u64 (n : Int) 1 = ((n % 2 : Nat) : Int) := by
    have := iand_u64 (a := n) (b := 1) h (by omega)
    rw [show ((1 : Nat) : Int) = 1 from rfl] at this
    rw [this, and_1]
  rw [e1, e2, w64 (n := ((n / 2 : Nat) : Int)) (by omega) (by omega), w64 (n := ((n % 2 : Nat) : Int)) (by omega) (by omega), w64 (by omega) (by omega)]
  unfold uz
  by_cases ho : n % 2 = 1
  · rw [if_pos ho, ho, show (0 : Int) - ((1 : Nat) : Int) = -1 from rfl, xor_m1 (by omega)]
  · rw [if_neg ho, show n % 2 = 0 by omega, show (0 : Int) - ((0 : Nat) : Int) = 0 from rfl, xor_0 (by omega)]
theorem Int_is {xs : List Int} (hB : Bs xs) : IsR (column_Reader_Int ⟨xs⟩) (pI xs) := by
  unfold column_Reader_Int pI
  rcases (Uint_is 18446744073709551615 hB).cases with ⟨a, r, h1, h2⟩ | ⟨h1, s, h2⟩
  · rw [h1, h2]
    obtain ⟨⟨q1, q2, _⟩, _⟩ := pU_some h1
    simp only [Option.bind_some, s_inl, lt_]
    have := uz_eq (n := a.toNat) (by omega)
    rw [show ((a.toNat : Nat) : Int) = a by omega] at this
    show _ = _
    rw [this]
  · rw [h1, h2]
    exact ⟨s, rfl⟩
theorem pI_bs {xs r : List Int} {n : Int} (hB : Bs xs) (h : pI xs = some (n, r)) : Bs r ∧ i64 n ∧ ∃ p, xs = p ++ r ∧ 0 < p.length := by
  unfold pI at h
  split at h
  · rename_i m r' he
    cases h
    refine ⟨pU_bs hB he, ?_, (pU_some he).2⟩
    have := (pU_some he).1
    unfold i64 uz
    split <;> omega
  · cases h
theorem Text_is (most : Int) {xs : List Int} (hB : Bs xs) (hl : xs.length < 9223372036854775808) : IsR (column_Reader_Text ⟨xs⟩ most) (pT most xs) := by
  unfold column_Reader_Text pT
  rw [lt_]
  rcases (Uint_is (IntKind.u64.wrap most) hB).cases with ⟨a, r, h1, h2⟩ | ⟨h1, s, h2⟩
  · rw [h1, h2]
    obtain ⟨⟨q1, q2, _⟩, p, hp, _⟩ := pU_some h1
    have hr : r.length ≤ xs.length := by rw [hp]; simp
    simp only [Option.bind_some, s_inl, lt_]
    rw [u64w (by omega) (by omega)]
    obtain ⟨n, rfl⟩ : ∃ n : Nat, a = (n : Int) := ⟨a.toNat, by omega⟩
    by_cases hn : (n : Int) ≤ (r.length : Int)
    · rw [show decide ((n : Int) ≤ (r.length : Int)) = true by simpa using hn, Check_t, if_pos hn]
      simp only [Option.bind_some, s_inl]
      have c1 := cut_nat (xs := r) (l := 0) (u := n) (by omega) (by omega)
      have c2 := cut_nat (xs := r) (l := n) (u := r.length) (by omega) (by omega)
      rw [show ((0 : Nat) : Int) = 0 from rfl, List.drop_zero] at c1
      rw [List.take_length] at c2
      rw [c1]
      simp only [Option.bind_some]
      rw [c2]
      rfl
    · rw [show decide ((n : Int) ≤ (r.length : Int)) = false by simpa using hn, Check_f, if_neg hn]
      exact ⟨_, rfl⟩
  · rw [h1, h2]
    exact ⟨s, rfl⟩
end Go.Proofs.YthokgnonmcgkcaaDoor.P
namespace Go.Proofs.YthokgnonmcgkcaaDoor.P
open Go Go.RowKit Go.Proofs.YthokgnonmcgkcaaDoor.E Go.Proofs.YthokgnonmcgkcaaDoor.M
set_option linter.unusedVariables false
set_option linter.unusedSectionVars false
def bl (n : Nat) : Nat := if h : n = 0 then 0 else bl (n / 2) + 1
termination_by n
decreasing_by omega
def V (w : Nat) : List Nat → Nat
  | [] => 0
  | d :: ds => d + 2 ^ w * V w ds
def Lt (w : Nat) (ds : List Nat) : Prop := ∀ d ∈ ds, d < 2 ^ w
theorem Lt.tail {w d : Nat} {ds : List Nat} (h : Lt w (d :: ds)) : d < 2 ^ w ∧ Lt w ds := ⟨h d List.mem_cons_self, fun x hx => h x (List.mem_cons_of_mem _ hx)⟩
theorem V_lt {w : Nat} : ∀ {ds : List Nat}, Lt w ds → V w ds < 2 ^ (ds.length * w)
  | [], _ => by simp [V]
  | d :: ds, h => by
    have h1 := h.tail.1
    have h2 := V_lt h.tail.2
    simp only [V, List.length_cons]
    rw [Nat.add_mul, Nat.one_mul, Nat.pow_add, Nat.mul_comm (2 ^ (ds.length * w))]
    have : 2 ^ w * V w ds + 2 ^ w ≤ 2 ^ w * 2 ^ (ds.length * w) := by
      rw [← Nat.mul_succ]; exact Nat.mul_le_mul_left _ h2
    omega
theorem V_drop {w : Nat} : ∀ {ds : List Nat}, Lt w ds → ∀ i, V w ds / 2 ^ (i * w) = V w (ds.drop i)
  | ds, _, 0 => by simp
  | [], _, i + 1 => by simp [V]
  | d :: ds, h, i + 1 => by
    rw [List.drop_succ_cons, ← V_drop h.tail.2 i, Nat.add_mul, Nat.one_mul, Nat.add_comm (i * w), Nat.pow_add, ← Nat.div_div_eq_div_mul]
    congr 1
    simp only [V]
    rw [Nat.add_mul_div_left _ _ (Nat.two_pow_pos w), Nat.div_eq_of_lt h.tail.1, Nat.zero_add]
theorem V_get {w : Nat} {ds : List Nat} (h : Lt w ds) {i d : Nat} (hd : ds[i]? = some d) : V w ds / 2 ^ (i * w) % 2 ^ w = d := by
  rw [V_drop h, List.drop_eq_getElem_cons (List.getElem?_eq_some_iff.1 hd).1, (List.getElem?_eq_some_iff.1 hd).2, V, Nat.add_mul_mod_self_left]
  exact Nat.mod_eq_of_lt (h d (List.mem_of_getElem? hd))
def by_ (m v : Nat) : List Nat := (List.range m).map fun j => v / 2 ^ (8 * j) % 256
def bt (v i : Nat) : Nat := v / 2 ^ i % 2
theorem bt_lt (v i : Nat) : bt v i < 2 := Nat.mod_lt _ (by decide)
theorem mod_succ (v i : Nat) : v % 2 ^ (i + 1) = v % 2 ^ i + bt v i * 2 ^ i := by
  rw [Nat.pow_succ, Nat.mod_mul, bt, Nat.mul_comm]
theorem bt_V {w : Nat} {ds : List Nat} (h : Lt w ds) {i k d : Nat} (hd : ds[i]? = some d) (hk : k < w) : bt (V w ds) (i * w + k) = bt d k := by
  unfold bt
  have hm := V_get h hd
  rw [Nat.pow_add, ← Nat.div_div_eq_div_mul]
  conv => rhs; rw [← hm]
  obtain ⟨x, hx⟩ : ∃ x, x = V w ds / 2 ^ (i * w) := ⟨_, rfl⟩
  rw [← hx]
  obtain ⟨j, rfl⟩ : ∃ j, w = k + (j + 1) := ⟨w - k - 1, by omega⟩
  rw [Nat.pow_add, Nat.mod_mul_right_div_self, Nat.pow_succ, Nat.mul_comm (2 ^ j) 2, Nat.mod_mul_right_mod]
theorem part_same (v i q w : Nat) (hw : 0 < w) (hq : q ≠ i / w) : v % 2 ^ (i + 1) / 2 ^ (q * w) % 2 ^ w = v % 2 ^ i / 2 ^ (q * w) % 2 ^ w := by
  rw [mod_succ]
  rcases Nat.lt_or_ge (i / w) q with hlt | hge
  · -- above
    have h1 : (i / w + 1) * w ≤ q * w := Nat.mul_le_mul_right _ hlt
    have h2 : i < (i / w + 1) * w := by have h := Nat.div_add_mod i w; have h' := Nat.mod_lt i hw; rw [Nat.add_mul, Nat.one_mul, Nat.mul_comm (i / w)]; omega
    have h3 : 2 ^ (i + 1) ≤ 2 ^ (q * w) := Nat.pow_le_pow_right (by decide) (by omega)
    have h4 : v % 2 ^ i < 2 ^ i := Nat.mod_lt _ (Nat.two_pow_pos i)
    have h5 := bt_lt v i
    have h6 : bt v i * 2 ^ i ≤ 1 * 2 ^ i := Nat.mul_le_mul_right _ (by omega)
    rw [Nat.pow_succ] at h3
    rw [Nat.div_eq_of_lt (by omega), Nat.div_eq_of_lt (by omega)]
  · -- below
    have hlt : q < i / w := by omega
    have h1 : (q + 1) * w ≤ i / w * w := Nat.mul_le_mul_right _ hlt
    have h2 : i / w * w ≤ i := Nat.div_mul_le_self i w
    obtain ⟨j, rfl⟩ : ∃ j, i = q * w + w + j := ⟨i - (q * w + w), by rw [Nat.add_mul] at h1; omega⟩
    have e : bt v (q * w + w + j) * 2 ^ (q * w + w + j) = 2 ^ (q * w) * (2 ^ w * (2 ^ j * bt v (q * w + w + j))) := by
      rw [Nat.pow_add, Nat.pow_add]; ac_rfl
    rw [e, Nat.add_mul_div_left _ _ (Nat.two_pow_pos _), Nat.add_mul_mod_self_left]
theorem part_new (v i w : Nat) (hw : 0 < w) : v % 2 ^ (i + 1) / 2 ^ (i / w * w) % 2 ^ w = v % 2 ^ i / 2 ^ (i / w * w) % 2 ^ w + bt v i * 2 ^ (i % w) ∧ v % 2 ^ i / 2 ^ (i / w * w) % 2 ^ w < 2 ^ (i % w) := by
  obtain ⟨q, hq⟩ : ∃ q, q = i / w * w := ⟨_, rfl⟩
  obtain ⟨k, hk⟩ : ∃ k, k = i % w := ⟨_, rfl⟩
  have hi : i = q + k := by rw [hq, hk, Nat.mul_comm]; exact (Nat.div_add_mod i w).symm
  have hkw : k < w := by rw [hk]; exact Nat.mod_lt _ hw
  rw [← hq, ← hk, mod_succ, hi]
  have hlt : v % 2 ^ (q + k) / 2 ^ q < 2 ^ k := Nat.div_lt_of_lt_mul (by rw [← Nat.pow_add]; exact Nat.mod_lt _ (Nat.two_pow_pos _))
  have hkk : 2 ^ (k + 1) ≤ 2 ^ w := Nat.pow_le_pow_right (by decide) hkw
  rw [Nat.pow_succ] at hkk
  have hb := bt_lt v (q + k)
  have hb2 : bt v (q + k) * 2 ^ k ≤ 1 * 2 ^ k := Nat.mul_le_mul_right _ (by omega)
  have e : bt v (q + k) * 2 ^ (q + k) = 2 ^ q * (bt v (q + k) * 2 ^ k) := by rw [Nat.pow_add, ← Nat.mul_assoc, ← Nat.mul_assoc, Nat.mul_comm (bt v (q + k))]
  rw [e, Nat.add_mul_div_left _ _ (Nat.two_pow_pos q), Nat.mod_eq_of_lt (show v % 2 ^ (q + k) / 2 ^ q + bt v (q + k) * 2 ^ k < 2 ^ w by omega), Nat.mod_eq_of_lt (show v % 2 ^ (q + k) / 2 ^ q < 2 ^ w by omega)]
  exact ⟨rfl, hlt⟩
end Go.Proofs.YthokgnonmcgkcaaDoor.P
namespace Go.Proofs.YthokgnonmcgkcaaDoor.P
open Go Go.RowKit Go.Proofs.YthokgnonmcgkcaaDoor.E Go.Proofs.YthokgnonmcgkcaaDoor.M
set_option linter.unusedVariables false
set_option linter.unusedSectionVars false
def b0 (l : List Int) : List Int := (l.map fun x => uv (zz x)).flatten
def bD : Int → List Int → List Int
  | _, [] => []
  | a, x :: l => uv (zz (IntKind.i64.wrap (x - a))) ++ bD x l
def bR : Nat → List Int → List Int
  | _, [] => []
  | k, [x] => uv (zz x) ++ uv k
  | k, x :: y :: l => if y = x then bR (k + 1) (y :: l) else uv (zz x) ++ uv k ++ bR 0 (y :: l)
def mn : Int → List Int → Int
  | m, [] => m
  | m, x :: l => mn (if x < m then x else m) l
def ds (lo : Int) (l : List Int) : List Nat := l.map fun x => (x - lo).toNat
def wdt (D : List Nat) : Nat := D.foldl (fun w d => if w < bl d then bl d else w) 0
def ofN (l : List Nat) : List Int := l.map fun (n : Nat) => (n : Int)
def pk : List Int → List Int
  | [] => []
  | x :: l => uv (zz (mn x l)) ++ [(wdt (ds (mn x l) (x :: l)) : Int)] ++ ofN (by_ (((x :: l).length * wdt (ds (mn x l) (x :: l)) + 7) / 8) (V (wdt (ds (mn x l) (x :: l))) (ds (mn x l) (x :: l))))
def body : Nat → List Int → List Int
  | 0, l => b0 l
  | 1, l => bD 0 l
  | 2, l => bR 0 l
  | _, l => pk l
def I64 (l : List Int) : Prop := ∀ x ∈ l, i64 x
theorem I64.get {l : List Int} (h : I64 l) {i : Nat} {x : Int} (hx : l[i]? = some x) : i64 x := h x (List.mem_of_getElem? hx)
theorem take_snoc {l : List Int} {k : Nat} {x : Int} (h : l[k]? = some x) : l.take (k + 1) = l.take k ++ [x] := by rw [List.take_add_one, h]; rfl
theorem I64.take {l : List Int} (h : I64 l) (k : Nat) : I64 (l.take k) := fun x hx => h x (List.mem_of_mem_take hx)
section
variable {l pre : List Int} (hl : l.length ≤ 4096) (hi : I64 l) (hp : pre.length ≤ 20)
include hl hi hp
end
section
variable {l pre : List Int} (hl : l.length ≤ 4096) (hi : I64 l) (hp : pre.length ≤ 20)
include hl hi hp
end
end Go.Proofs.YthokgnonmcgkcaaDoor.P
namespace Go.Proofs.YthokgnonmcgkcaaDoor.P
open Go Go.RowKit Go.Proofs.YthokgnonmcgkcaaDoor.E Go.Proofs.YthokgnonmcgkcaaDoor.M
set_option linter.unusedVariables false
set_option linter.unusedSectionVars false
section
variable {l : List Int} {lo : Int} {w : Nat} (hl : l.length ≤ 4096) (hi : I64 l) (hlo : i64 lo) (hle : ∀ x ∈ l, lo ≤ x) (hw : w ≤ 64) (hL : Lt w (ds lo l))
include hl hi hlo hle hw hL
omit hl in
end
end Go.Proofs.YthokgnonmcgkcaaDoor.P
namespace Go.Proofs.YthokgnonmcgkcaaDoor.P
open Go Go.RowKit Go.Proofs.YthokgnonmcgkcaaDoor.E Go.Proofs.YthokgnonmcgkcaaDoor.M
set_option linter.unusedVariables false
set_option linter.unusedSectionVars false
section
variable {l : List Int} {lo : Int} {w : Nat} (hl : l.length ≤ 4096) (hi : I64 l) (hlo : i64 lo) (hle : ∀ x ∈ l, lo ≤ x) (hw : w ≤ 64) (hL : Lt w (ds lo l)) {pre : List Int} (hp : pre.length ≤ 100)
include hl hi hlo hle hw hL hp
end
section
variable {l : List Int} {lo : Int} (hl : l.length ≤ 4096) (hi : I64 l) (hlo : i64 lo) (hle : ∀ x ∈ l, lo ≤ x)
include hl hi hlo hle
omit hl in
end
end Go.Proofs.YthokgnonmcgkcaaDoor.P
namespace Go.Proofs.YthokgnonmcgkcaaDoor.P
open Go Go.RowKit Go.Proofs.YthokgnonmcgkcaaDoor.E Go.Proofs.YthokgnonmcgkcaaDoor.M
set_option linter.unusedVariables false
set_option linter.unusedSectionVars false
def pMany : Nat → List Int → Option (List Int × List Int)
  | 0, xs => some ([], xs)
  | n + 1, xs => match pI xs with
    | some (x, r) => match pMany n r with
      | some (l, r') => some (x :: l, r')
      | none => none
    | none => none
def pD : Int → Nat → List Int → Option (List Int × List Int)
  | _, 0, xs => some ([], xs)
  | a, n + 1, xs => match pI xs with
    | some (x, r) => match pD (IntKind.i64.wrap (a + x)) n r with
      | some (l, r') => some (IntKind.i64.wrap (a + x) :: l, r')
      | none => none
    | none => none
def pR : Nat → Nat → List Int → Option (List Int × List Int)
  | 0, _, xs => some ([], xs)
  | f + 1, n, xs => if n = 0 then some ([], xs) else match pI xs with
    | some (x, r) => match pU ((n - 1 : Nat) : Int) r with
      | some (k, r') => match pR f (n - (k.toNat + 1)) r' with
        | some (l, r'') => some (List.replicate (k.toNat + 1) x ++ l, r'')
        | none => none
      | none => none
    | none => none
def toN (xs : List Int) : List Nat := xs.map Int.toNat
def part (n w v : Nat) : List Int := (List.range n).map fun q => IntKind.i64.wrap ((v / 2 ^ (q * w) % 2 ^ w : Nat) : Int)
def pP (n : Nat) (xs : List Int) : Option (List Int × List Int) := match pI xs with
  | some (lo, r) => match pB r with
    | some (w, r') => if w ≤ 64 ∧ r'.length = (n * w.toNat + 7) / 8 ∧ V 8 (toN r') < 2 ^ (n * w.toNat) then some ((part n w.toNat (V 8 (toN r'))).map fun x => IntKind.i64.wrap (x + lo), []) else none
    | none => none
  | none => none
def pBody (w : Int) (n : Nat) (r : List Int) : Option (List Int × List Int) :=
  if w = 0 then pMany n r else if w = 1 then pD 0 n r else if w = 2 then pR n n r else if 0 < n then pP n r else some ([], r)
def pInts (xs : List Int) : Option (List Int × List Int) := match pB xs with
  | some (w, r) => if w ≤ 3 then (match pU 4096 r with
    | some (n, r') => pBody w n.toNat r'
    | none => none) else none
  | none => none
theorem pB_bs {xs r : List Int} {b : Int} (hB : Bs xs) (h : pB xs = some (b, r)) : (0 ≤ b ∧ b < 256) ∧ Bs r ∧ xs = b :: r := by
  cases xs with
  | nil => cases h
  | cons c xs => cases h; exact ⟨hB.cons.1, hB.cons.2, rfl⟩
theorem list_loop (n : Nat) (hn : n ≤ 4096) : ∀ (m k : Nat) (acc xs : List Int), Bs xs → k + m = n → acc.length = k →
    ∃ y, loop (fun s : List Int × List Int × Int => column_list_int64_l1 (n : Int) s.1 s.2.1 s.2.2) (xs, acc, (k : Int)) = some y ∧ match pMany m xs with
      | some (l, r) => y = .inl (r, acc ++ l)
      | none => ∃ s, y = .inr (.inr s)
  | 0, k, acc, xs, hB, hk, ha => by
    refine ⟨_, loop_end (t := Sum.inl (xs, acc)) ?_, by simp [pMany]⟩
    show column_list_int64_l1 (n : Int) xs acc (k : Int) = _
    unfold column_list_int64_l1
    rw [if_neg (by simp only [decide_eq_true_eq]; omega)]
  | m + 1, k, acc, xs, hB, hk, ha => by
    unfold pMany
    rcases (Int_is hB).cases with ⟨x, r, h1, h2⟩ | ⟨h1, s, h2⟩
    · rw [h1]
      obtain ⟨y, hy, hm⟩ := list_loop n hn m (k + 1) (acc ++ [x]) r (pI_bs hB h1).1 (by omega) (by simp [ha])
      refine ⟨y, (loop_nxt (s' := (r, acc ++ [x], ((k + 1 : Nat) : Int))) ?_).trans hy, ?_⟩
      · show column_list_int64_l1 (n : Int) xs acc (k : Int) = _
        unfold column_list_int64_l1
        rw [if_pos (by simp only [decide_eq_true_eq]; omega), h2]
        simp only [Option.bind_some, s_inl, lt_]
        rw [chk_pos (by simp; omega), w64 (by omega) (by omega)]
        rfl
      · simp only
        revert hm
        cases pMany m r with
        | none => exact id
        | some q => intro hm; simpa using hm
    · rw [h1]
      refine ⟨_, loop_end (t := Sum.inr (.inr s)) ?_, s, rfl⟩
      show column_list_int64_l1 (n : Int) xs acc (k : Int) = _
      unfold column_list_int64_l1
      rw [if_pos (by simp only [decide_eq_true_eq]; omega), h2]
      rfl
theorem list_is {n : Nat} (hn : n ≤ 4096) {xs : List Int} (hB : Bs xs) : IsR (column_list_int64 (n : Int) ⟨xs⟩) (pMany n xs) := by
  obtain ⟨y, hy, hm⟩ := list_loop n hn n 0 [] xs hB (by omega) rfl
  unfold column_list_int64
  rw [show (0 : Int) = ((0 : Nat) : Int) from rfl, hy]
  simp only [Option.bind_some]
  revert hm
  cases pMany n xs with
  | none => rintro ⟨s, rfl⟩; exact ⟨s, rfl⟩
  | some q => intro hm; subst hm; rfl
theorem dl_loop (n : Nat) (hn : n ≤ 4096) : ∀ (m k : Nat) (a : Int) (acc xs : List Int), Bs xs → k + m = n → acc.length = k →
    ∃ y, loop (fun s : List Int × List Int × Int × Int => column_ints_l1 (n : Int) s.1 s.2.1 s.2.2.1 s.2.2.2) (xs, acc, a, (k : Int)) = some y ∧ match pD a m xs with
      | some (l, r) => y = .inl (r, acc ++ l)
      | none => ∃ s, y = .inr (.inr s)
  | 0, k, a, acc, xs, hB, hk, ha => by
    refine ⟨_, loop_end (t := Sum.inl (xs, acc)) ?_, by simp [pD]⟩
    show column_ints_l1 (n : Int) xs acc a (k : Int) = _
    unfold column_ints_l1
    rw [if_neg (by simp only [decide_eq_true_eq]; omega)]
  | m + 1, k, a, acc, xs, hB, hk, ha => by
    unfold pD
    rcases (Int_is hB).cases with ⟨x, r, h1, h2⟩ | ⟨h1, s, h2⟩
    · rw [h1]
      obtain ⟨y, hy, hm⟩ := dl_loop n hn m (k + 1) (IntKind.i64.wrap (a + x)) (acc ++ [IntKind.i64.wrap (a + x)]) r (pI_bs hB h1).1 (by omega) (by simp [ha])
      refine ⟨y, (loop_nxt (s' := (r, acc ++ [IntKind.i64.wrap (a + x)], IntKind.i64.wrap (a + x), ((k + 1 : Nat) : Int))) ?_).trans hy, ?_⟩
      · show column_ints_l1 (n : Int) xs acc a (k : Int) = _
        unfold column_ints_l1
        rw [if_pos (by simp only [decide_eq_true_eq]; omega), h2]
        simp only [Option.bind_some, s_inl, lt_]
        rw [chk_pos (by simp; omega), w64 (n := (k : Int) + 1) (by omega) (by omega)]
        rfl
      · simp only
        revert hm
        cases pD (IntKind.i64.wrap (a + x)) m r with
        | none => exact id
        | some q => intro hm; simpa using hm
    · rw [h1]
      refine ⟨_, loop_end (t := Sum.inr (.inr s)) ?_, s, rfl⟩
      show column_ints_l1 (n : Int) xs acc a (k : Int) = _
      unfold column_ints_l1
      rw [if_pos (by simp only [decide_eq_true_eq]; omega), h2]
      rfl
theorem rep_loop (y : Int × S86) (k : Nat) (acc : List Int) (h : acc.length + k ≤ 8192) : loop (fun s : List Int × Int => column_ints_l3 y (k : Int) s.1 s.2) (acc, 0) = some (acc ++ List.replicate k y.1) := by
  have := loop_to (b := fun s : List Int × Int => column_ints_l3 y (k : Int) s.1 s.2) (fun j => (acc ++ List.replicate j y.1, (j : Int))) (t := acc ++ List.replicate k y.1) k (fun j hj => by
    show column_ints_l3 y (k : Int) (acc ++ List.replicate j y.1) (j : Int) = _
    unfold column_ints_l3
    rw [if_pos (by simp only [decide_eq_true_eq]; omega), chk_pos (by simp; omega), lt_, u64w (by omega) (by omega), List.replicate_succ', List.append_assoc]
    rfl) (by
    show column_ints_l3 y (k : Int) (acc ++ List.replicate k y.1) (k : Int) = _
    unfold column_ints_l3
    rw [if_neg (by simp)])
  simpa using this
theorem rl_loop (n : Nat) (hn : n ≤ 4096) : ∀ (f m : Nat) (acc xs : List Int), Bs xs → acc.length + m = n → m ≤ f →
    ∃ y, loop (fun s : List Int × List Int => column_ints_l2 (n : Int) s.1 s.2) (xs, acc) = some y ∧ match pR f m xs with
      | some (l, r) => y = .inl (r, acc ++ l)
      | none => ∃ s, y = .inr (.inr s)
  | 0, m, acc, xs, hB, hk, hf => by
    refine ⟨_, loop_end (t := Sum.inl (xs, acc)) ?_, by simp [pR]⟩
    show column_ints_l2 (n : Int) xs acc = _
    unfold column_ints_l2
    rw [if_neg (by simp only [decide_eq_true_eq]; omega)]
  | f + 1, m, acc, xs, hB, hk, hf => by
    unfold pR
    by_cases hm0 : m = 0
    · rw [if_pos hm0]
      refine ⟨_, loop_end (t := Sum.inl (xs, acc)) ?_, by simp⟩
      show column_ints_l2 (n : Int) xs acc = _
      unfold column_ints_l2
      rw [if_neg (by simp only [decide_eq_true_eq]; omega)]
    · rw [if_neg hm0]
      rcases (Int_is hB).cases with ⟨x, r, h1, h2⟩ | ⟨h1, s, h2⟩
      · rw [h1]
        simp only
        have hBr := (pI_bs hB h1).1
        have e1 : IntKind.u64.wrap (IntKind.i64.wrap (IntKind.i64.wrap ((n : Int) - (acc.length : Int)) - 1)) = ((m - 1 : Nat) : Int) := by
          rw [w64 (n := (n : Int) - (acc.length : Int)) (by omega) (by omega), w64 (by omega) (by omega), u64w (by omega) (by omega)]
          omega
        rcases (Uint_is ((m - 1 : Nat) : Int) hBr).cases with ⟨k, r', h3, h4⟩ | ⟨h3, s, h4⟩
        · rw [h3]
          simp only
          obtain ⟨q1, q2, q3⟩ := (pU_some h3).1
          obtain ⟨c, rfl⟩ : ∃ c : Nat, k = (c : Int) := ⟨k.toNat, by omega⟩
          rw [Int.toNat_natCast]
          obtain ⟨y, hy, hm⟩ := rl_loop n hn f (m - (c + 1)) (acc ++ List.replicate (c + 1) x) r' (pU_bs hBr h3) (by simp; omega) (by omega)
          refine ⟨y, (loop_nxt (s' := (r', acc ++ List.replicate (c + 1) x)) ?_).trans hy, ?_⟩
          · show column_ints_l2 (n : Int) xs acc = _
            unfold column_ints_l2
            rw [if_pos (by simp only [decide_eq_true_eq]; omega), h2]
            simp only [Option.bind_some, s_inl, lt_]
            rw [e1, h4]
            simp only [Option.bind_some, s_inl]
            rw [u64w (by omega) (by omega), show (1 : Int) + (c : Int) = ((c + 1 : Nat) : Int) by omega, rep_loop _ _ _ (by omega)]
            rfl
          · revert hm
            cases pR f (m - (c + 1)) r' with
            | none => exact id
            | some q => intro hm; simpa using hm
        · rw [h3]
          refine ⟨_, loop_end (t := Sum.inr (.inr s)) ?_, s, rfl⟩
          show column_ints_l2 (n : Int) xs acc = _
          unfold column_ints_l2
          rw [if_pos (by simp only [decide_eq_true_eq]; omega), h2]
          simp only [Option.bind_some, s_inl, lt_]
          rw [e1, h4]
          rfl
      · rw [h1]
        refine ⟨_, loop_end (t := Sum.inr (.inr s)) ?_, s, rfl⟩
        show column_ints_l2 (n : Int) xs acc = _
        unfold column_ints_l2
        rw [if_pos (by simp only [decide_eq_true_eq]; omega), h2]
        rfl
theorem toN_get {xs : List Int} (hB : Bs xs) {j : Nat} (h : j < xs.length) : ∃ b : Nat, xs[j]? = some (b : Int) ∧ (toN xs)[j]? = some b ∧ b < 256 := by
  have hx := List.getElem?_eq_getElem h
  have := hB _ (List.mem_of_getElem? hx)
  refine ⟨xs[j].toNat, by rw [hx]; congr 1; omega, by simp [toN, hx], by omega⟩
theorem toN_lt {xs : List Int} (hB : Bs xs) : Lt 8 (toN xs) := by
  intro d hd
  obtain ⟨b, hb, rfl⟩ := List.mem_map.1 hd
  have := hB b hb
  omega
theorem part_length (n w v : Nat) : (part n w v).length = n := by simp [part]
theorem part_get {n w v q : Nat} (h : q < n) : (part n w v)[q]? = some (IntKind.i64.wrap ((v / 2 ^ (q * w) % 2 ^ w : Nat) : Int)) := by
  unfold part
  rw [List.getElem?_map, List.getElem?_range h]; rfl
theorem ext_int {xs ys : List Int} (hl : xs.length = ys.length) (h : ∀ j : Nat, j < xs.length → xs[j]? = ys[j]?) : xs = ys := by
  apply List.ext_getElem? fun j => ?_
  rcases Nat.lt_or_ge j xs.length with hj | hj
  · exact h j hj
  · rw [List.getElem?_eq_none hj, List.getElem?_eq_none (by omega)]
theorem ofInt_wrap (a : Nat) : BitVec.ofInt 64 (IntKind.i64.wrap (a : Int)) = BitVec.ofNat 64 a := by
  apply BitVec.eq_of_toNat_eq
  rw [BitVec.toNat_ofInt, BitVec.toNat_ofNat, IntWalk.i64_left]
  unfold wrap64
  omega
theorem ior_wrap (a b : Nat) (ha : a < 18446744073709551616) (hb : b < 18446744073709551616) : ior .i64 (IntKind.i64.wrap (a : Int)) (IntKind.i64.wrap (b : Int)) = IntKind.i64.wrap ((a ||| b : Nat) : Int) := by
  show IntKind.i64.wrap (((BitVec.ofInt 64 (IntKind.i64.wrap (a : Int)) ||| BitVec.ofInt 64 (IntKind.i64.wrap (b : Int))).toNat : Nat) : Int) = _
  rw [ofInt_wrap, ofInt_wrap, BitVec.toNat_or, BitVec.toNat_ofNat, BitVec.toNat_ofNat, Nat.mod_eq_of_lt (show a < 2 ^ 64 by omega), Nat.mod_eq_of_lt (show b < 2 ^ 64 by omega)]
theorem part_step {n w v i : Nat} (hw : 0 < w) (h : i / w < n) : (part n w (v % 2 ^ i)).set (i / w) (IntKind.i64.wrap ((v % 2 ^ i / 2 ^ (i / w * w) % 2 ^ w + bt v i * 2 ^ (i % w) : Nat) : Int)) = part n w (v % 2 ^ (i + 1)) := by
  refine ext_int (by simp [part_length]) fun j hj => ?_
  rw [List.length_set, part_length] at hj
  rw [part_get hj]
  by_cases e : i / w = j
  · subst e
    rw [List.getElem?_set_self (by rw [part_length]; exact hj), (part_new v i w hw).1]
  · rw [List.getElem?_set_ne e, part_get hj, part_same v i j w hw (Ne.symm e)]
theorem unpack_loop {n w : Nat} (hn : n ≤ 4096) (hw : w ≤ 64) {xs : List Int} (hB : Bs xs) (hlen : xs.length = (n * w + 7) / 8) :
    ∃ y, loop (fun s : List Int × List Int × Int => column_unpack_l2 (n : Int) (w : Int) ((8 * xs.length : Nat) : Int) s.1 s.2.1 s.2.2) (xs, List.replicate n 0, 0) = some y ∧
      ((V 8 (toN xs) < 2 ^ (n * w) ∧ y = .inl (xs, part n w (V 8 (toN xs)))) ∨ (¬ V 8 (toN xs) < 2 ^ (n * w) ∧ ∃ s, y = .inr (.inr s))) := by
  have hnw : n * w ≤ 4096 * 64 := Nat.mul_le_mul hn hw
  have hL := toN_lt hB
  have hvt : V 8 (toN xs) < 2 ^ (8 * xs.length) := by
    have := V_lt hL
    rw [show (toN xs).length = xs.length by simp [toN], Nat.mul_comm] at this
    exact this
  obtain ⟨v, hv⟩ : ∃ v, v = V 8 (toN xs) := ⟨_, rfl⟩
  have hbt : ∀ j t b, (toN xs)[j]? = some b → t < 8 → bt v (j * 8 + t) = bt b t := fun j t b hb ht => by rw [hv]; exact bt_V hL hb ht
  rw [← hv] at hvt ⊢
  clear hv hL
  refine loop_good (b := fun s : List Int × List Int × Int => column_unpack_l2 (n : Int) (w : Int) ((8 * xs.length : Nat) : Int) s.1 s.2.1 s.2.2) (s := (xs, List.replicate n 0, 0))
    (fun s => ∃ i : Nat, s = (xs, part n w (v % 2 ^ i), (i : Int)) ∧ i ≤ 8 * xs.length ∧ (n * w ≤ i → v % 2 ^ i < 2 ^ (n * w))) (fun s => (((8 * xs.length : Nat) : Int) - s.2.2).toNat)
    (fun y => (v < 2 ^ (n * w) ∧ y = .inl (xs, part n w v)) ∨ (¬ v < 2 ^ (n * w) ∧ ∃ s, y = .inr (.inr s))) ⟨0, ?_, by omega, fun _ => by rw [Nat.pow_zero, Nat.mod_one]; exact Nat.two_pow_pos _⟩ ?_
  · rw [Nat.pow_zero, Nat.mod_one, show part n w 0 = List.replicate n 0 by
      unfold part
      rw [List.eq_replicate_iff]
      refine ⟨by simp, fun b hb => ?_⟩
      obtain ⟨q, _, rfl⟩ := List.mem_map.1 hb
      simp
      rfl]
    rfl
  · rintro s ⟨i, rfl, hit, hz⟩
    show (∃ s', column_unpack_l2 (n : Int) (w : Int) ((8 * xs.length : Nat) : Int) xs (part n w (v % 2 ^ i)) (i : Int) = some (.inl s') ∧ _) ∨ ∃ t, column_unpack_l2 (n : Int) (w : Int) ((8 * xs.length : Nat) : Int) xs (part n w (v % 2 ^ i)) (i : Int) = some (.inr t) ∧ _
    unfold column_unpack_l2
    by_cases hlt : i < 8 * xs.length
    · obtain ⟨b, hb1, hb2, hb3⟩ := toN_get hB (j := i / 8) (by omega)
      have hbit := hbt (i / 8) (i % 8) b hb2 (by omega)
      rw [show i / 8 * 8 + i % 8 = i by omega] at hbit
      have hb := bt_lt v i
      have e1 : ishr .u8 (b : Int) ((i % 8 : Nat) : Int) = ((b / 2 ^ (i % 8) : Nat) : Int) := ishr_nat (k := .u8) b (i % 8) (by show _ ≤ 8; omega)
      have e0 : b / 2 ^ (i % 8) ≤ b := Nat.div_le_self _ _
      have e2 : iand .u64 ((b / 2 ^ (i % 8) : Nat) : Int) 1 = ((bt v i : Nat) : Int) := by
        have := iand_u64 (a := b / 2 ^ (i % 8)) (b := 1) (by omega) (by omega)
        rw [show ((1 : Nat) : Int) = 1 from rfl] at this
        rw [this, and_1, hbit]; rfl
      rw [if_pos (by simp only [decide_eq_true_eq]; omega), lt_, show (i : Int).tdiv 8 = ((i / 8 : Nat) : Int) from rfl, w64 (by omega) (by omega), at_int rfl hb1]
      simp only [Option.bind_some, lt_]
      rw [show (i : Int).tmod 8 = ((i % 8 : Nat) : Int) from rfl, chk_pos (by omega), e1, u64w (Int.natCast_nonneg _) (by omega), e2, ← Int.natCast_mul, w64 (n := ((n * w : Nat) : Int)) (by omega) (by omega)]
      by_cases hin : i < n * w
      · -- a bit of a number
        have hw0 : 0 < w := by rcases Nat.eq_zero_or_pos w with h | h; rw [h] at hin; simp at hin; exact h
        have hq : i / w < n := (Nat.div_lt_iff_lt_mul hw0).2 hin
        have hk : i % w < w := Nat.mod_lt _ hw0
        rw [if_neg (by simp only [decide_eq_true_eq]; omega), chk_pos (by omega), show (i : Int).tdiv (w : Int) = ((i / w : Nat) : Int) from rfl, w64 (n := ((i / w : Nat) : Int)) (Int.le_trans (by decide) (Int.natCast_nonneg _)) (by omega), at_int rfl (part_get hq)]
        simp only [Option.bind_some]
        obtain ⟨hnew, hcur⟩ := part_new v i w hw0
        have hstep := part_step (v := v) hw0 hq
        have hp : 2 ^ (i % w) ≤ 2 ^ 63 := Nat.pow_le_pow_right (by decide) (by omega)
        have hbp : bt v i * 2 ^ (i % w) ≤ 1 * 2 ^ (i % w) := Nat.mul_le_mul_right _ (by omega)
        have hm : bt v i * 2 ^ (i % w) % 18446744073709551616 = bt v i * 2 ^ (i % w) := Nat.mod_eq_of_lt (by omega)
        rw [chk_pos (by omega), show (i : Int).tmod (w : Int) = ((i % w : Nat) : Int) from rfl, chk_pos (by omega), ishl_u64 _ _ (by omega), hm, ior_wrap _ _ (by omega) (by omega), or_top hcur, Int.toNat_natCast, hstep]
        unfold column_unpack_b3
        rw [lt_, w64 (n := (i : Int) + 1) (by omega) (by omega)]
        exact .inl ⟨_, rfl, ⟨i + 1, rfl, by omega, fun h => by
          have h1 : v % 2 ^ (i + 1) < 2 ^ (i + 1) := Nat.mod_lt _ (Nat.two_pow_pos _)
          have h2 : i + 1 = n * w := by omega
          rw [h2] at h1 ⊢
          exact h1⟩, by simp only; omega⟩
      · rw [if_pos (by simp only [decide_eq_true_eq]; omega)]
        have hms := mod_succ v i
        by_cases hb0 : bt v i = 0
        · rw [hb0, show (((0 : Nat) : Int) == 0) = true from rfl, Check_t]
          simp only [Option.bind_some, s_inl]
          unfold column_unpack_b3
          rw [lt_, w64 (n := (i : Int) + 1) (by omega) (by omega)]
          rw [hb0, Nat.zero_mul, Nat.add_zero] at hms
          exact .inl ⟨_, rfl, ⟨i + 1, by rw [hms]; rfl, by omega, fun _ => by rw [hms]; exact hz (by omega)⟩, by simp only; omega⟩
        · have hb1' : bt v i = 1 := by omega
          rw [hb1', show (((1 : Nat) : Int) == 0) = false from rfl, Check_f]
          refine .inr ⟨_, rfl, .inr ⟨fun hlt' => ?_, _, rfl⟩⟩
          have h1 : 2 ^ (n * w) ≤ 2 ^ i := Nat.pow_le_pow_right (by decide) (by omega)
          unfold bt at hb1'
          rw [Nat.div_eq_of_lt (by omega)] at hb1'
          cases hb1'
    · have hie : i = 8 * xs.length := by omega
      rw [if_neg (by simp only [decide_eq_true_eq]; omega)]
      have hvv : v % 2 ^ i = v := Nat.mod_eq_of_lt (by rw [hie]; exact hvt)
      rw [hvv]
      refine .inr ⟨_, rfl, .inl ⟨?_, rfl⟩⟩
      have := hz (by omega)
      rwa [hvv] at this
theorem unpack_add (lo : Int) (y : Int × S86) (hy : y.1 = lo) (L : List Int) (h : L.length ≤ 4096) : loop (fun s : List Int × Int => column_unpack_l1 y L s.1 s.2) (L, 0) = some (L.map fun x => IntKind.i64.wrap (x + lo)) := by
  have := loop_to (b := fun s : List Int × Int => column_unpack_l1 y L s.1 s.2) (fun k => ((L.take k).map (fun x => IntKind.i64.wrap (x + lo)) ++ L.drop k, (k : Int))) (t := L.map fun x => IntKind.i64.wrap (x + lo)) L.length (fun k hk => by
    have hx := List.getElem?_eq_getElem hk
    have hd : L.drop k = L[k] :: L.drop (k + 1) := List.drop_eq_getElem_cons hk
    have hlen : ((L.take k).map (fun x => IntKind.i64.wrap (x + lo))).length = k := by simp; omega
    show column_unpack_l1 y L ((L.take k).map (fun x => IntKind.i64.wrap (x + lo)) ++ L.drop k) (k : Int) = _
    unfold column_unpack_l1
    rw [if_pos (by simp only [decide_eq_true_eq]; omega), at_int (n := k) (x := L[k]) rfl (by rw [List.getElem?_append_right (by omega), hlen, Nat.sub_self, hd]; rfl)]
    simp only [Option.bind_some, lt_]
    rw [hy, w64 (n := (k : Int) + 1) (by omega) (by omega), Int.toNat_natCast, take_snoc hx, List.map_append, List.append_assoc, List.set_append_right _ _ (by omega), hlen, Nat.sub_self, hd]
    rfl) (by
    show column_unpack_l1 y L _ (L.length : Int) = _
    unfold column_unpack_l1
    rw [if_neg (by simp), List.take_length, List.drop_length, List.append_nil])
  simpa using this
theorem unpack_is {n : Nat} (hn : n ≤ 4096) {xs : List Int} (hB : Bs xs) (hl : xs.length < 1099511627776) : IsR (column_unpack ⟨xs⟩ (n : Int)) (pP n xs) := by
  unfold column_unpack pP
  rcases (Int_is hB).cases with ⟨lo, r, h1, h2⟩ | ⟨h1, s, h2⟩
  · rw [h1, h2]
    obtain ⟨hBr, hlo, p, hp, _⟩ := pI_bs hB h1
    have hrl : r.length ≤ xs.length := by rw [hp]; simp
    simp only [Option.bind_some, s_inl]
    rcases (IsR.cases (Byte_is r)) with ⟨wb, r', h3, h4⟩ | ⟨h3, s, h4⟩
    · rw [h3, h4]
      obtain ⟨hwb, hBr', hr'⟩ := pB_bs hBr h3
      have hrl' : r'.length ≤ r.length := by rw [hr']; simp
      obtain ⟨w, rfl⟩ : ∃ w : Nat, wb = (w : Int) := ⟨wb.toNat, by omega⟩
      simp only [Option.bind_some, s_inl, lt_, Int.toNat_natCast]
      rw [w64 (n := (w : Int)) (by omega) (by omega)]
      by_cases hw : w ≤ 64
      · have hnw : n * w ≤ 4096 * 64 := Nat.mul_le_mul hn hw
        rw [if_pos (by simp only [decide_eq_true_eq]; omega), ← Int.natCast_mul, w64 (n := ((n * w : Nat) : Int)) (by omega) (by omega), w64 (n := ((n * w : Nat) : Int) + 7) (by omega) (by omega),
          show (((n * w : Nat) : Int) + 7).tdiv 8 = (((n * w + 7) / 8 : Nat) : Int) from rfl, w64 (by omega) (by omega)]
        by_cases hlen : r'.length = (n * w + 7) / 8
        · rw [show ((r'.length : Int) == (((n * w + 7) / 8 : Nat) : Int)) = true by rw [hlen]; simp, Check_t]
          simp only [Option.bind_some, s_inl]
          unfold column_unpack_j1
          rw [chk_pos (by omega), lt_, w64 (by omega) (by omega), Int.toNat_natCast]
          obtain ⟨y, hy, hcase⟩ := unpack_loop hn hw hBr' hlen
          rw [show (8 : Int) * (r'.length : Int) = ((8 * r'.length : Nat) : Int) by omega, hy]
          simp only [Option.bind_some]
          rcases hcase with ⟨hv, rfl⟩ | ⟨hv, s, rfl⟩
          · rw [if_pos ⟨by omega, hlen, hv⟩]
            simp only
            unfold column_unpack_x2_0 column_unpack_b1
            rw [unpack_add lo _ rfl _ (by rw [part_length]; exact hn)]
            rfl
          · rw [if_neg (fun q => hv q.2.2)]
            exact ⟨s, rfl⟩
        · rw [show ((r'.length : Int) == (((n * w + 7) / 8 : Nat) : Int)) = false by simp; omega, Check_f, if_neg (fun q => hlen q.2.1)]
          exact ⟨_, rfl⟩
      · rw [if_neg (by simp only [decide_eq_true_eq]; omega), Check_f, if_neg (fun q => hw (by omega))]
        exact ⟨_, rfl⟩
    · rw [h3, h4]
      exact ⟨s, rfl⟩
  · rw [h1, h2]
    exact ⟨s, rfl⟩
theorem ints_is {xs : List Int} (hB : Bs xs) (hl : xs.length < 1099511627776) : IsR (column_ints ⟨xs⟩) (pInts xs) := by
  unfold column_ints pInts
  rcases (IsR.cases (Byte_is xs)) with ⟨w, r, h1, h2⟩ | ⟨h1, s, h2⟩
  · rw [h1, h2]
    obtain ⟨hw, hBr, hr⟩ := pB_bs hB h1
    have hrl : r.length ≤ xs.length := by rw [hr]; simp
    simp only [Option.bind_some, s_inl]
    by_cases hw3 : w ≤ 3
    · rw [show decide (w ≤ 3) = true by simpa using hw3, Check_t, if_pos hw3]
      simp only [Option.bind_some, s_inl]
      rcases (Uint_is 4096 hBr).cases with ⟨n, r', h3, h4⟩ | ⟨h3, s, h4⟩
      · rw [h3, h4]
        obtain ⟨⟨q1, q2, q3⟩, p, hp, _⟩ := pU_some h3
        have hBr' := pU_bs hBr h3
        have hrl' : r'.length ≤ r.length := by rw [hp]; simp
        obtain ⟨n, rfl⟩ : ∃ m : Nat, n = (m : Int) := ⟨n.toNat, by omega⟩
        simp only [Option.bind_some, s_inl, lt_, Int.toNat_natCast]
        rw [w64 (by omega) (by omega)]
        unfold pBody
        by_cases w0 : w = 0
        · rw [if_pos (by simpa using w0), if_pos w0]
          rcases (list_is (n := n) (by omega) hBr').cases with ⟨l, r'', h5, h6⟩ | ⟨h5, s, h6⟩
          · rw [h5, h6]; rfl
          · rw [h5, h6]; exact ⟨s, rfl⟩
        rw [if_neg (by simpa using w0), if_neg w0]
        by_cases w1 : w = 1
        · rw [if_pos (by simpa using w1), if_pos w1]
          obtain ⟨y, hy, hm⟩ := dl_loop n (by omega) n 0 0 [] r' hBr' (by omega) rfl
          rw [show ((0 : Nat) : Int) = 0 from rfl] at hy
          rw [hy]
          revert hm
          cases pD 0 n r' with
          | none => rintro ⟨s, rfl⟩; exact ⟨s, rfl⟩
          | some q => intro hm; subst hm; rfl
        rw [if_neg (by simpa using w1), if_neg w1]
        by_cases w2 : w = 2
        · rw [if_pos (by simpa using w2), if_pos w2]
          obtain ⟨y, hy, hm⟩ := rl_loop n (by omega) n n [] r' hBr' (by simp) (Nat.le_refl _)
          rw [hy]
          revert hm
          cases pR n n r' with
          | none => rintro ⟨s, rfl⟩; exact ⟨s, rfl⟩
          | some q => intro hm; subst hm; rfl
        rw [if_neg (by simpa using w2), if_neg w2, if_pos (by simp; omega)]
        by_cases hn0 : 0 < n
        · rw [if_pos (by simp only [decide_eq_true_eq]; omega), if_pos hn0]
          rcases (unpack_is (n := n) (by omega) hBr' (by omega)).cases with ⟨l, r'', h5, h6⟩ | ⟨h5, s, h6⟩
          · rw [h5, h6]; rfl
          · rw [h5, h6]; exact ⟨s, rfl⟩
        · rw [if_neg (by simp only [decide_eq_true_eq]; omega), if_neg hn0]
          rfl
      · rw [h3, h4]
        exact ⟨s, rfl⟩
    · rw [show decide (w ≤ 3) = false by simpa using hw3, Check_f, if_neg hw3]
      exact ⟨_, rfl⟩
  · rw [h1, h2]
    exact ⟨s, rfl⟩
def readL (xs : List Int) : Option (List Int) := match pInts xs with
  | some (l, []) => some l
  | _ => none
theorem ReadInts_col {xs : List Int} (hB : Bs xs) (hl : xs.length < 1099511627776) : column_ReadInts xs = some (match readL xs with | some l => (l, 0) | none => ([], 3)) := by
  unfold column_ReadInts Try_column_ReadInts_1 column_ReadInts_1 readL
  rcases (ints_is hB hl).cases with ⟨l, r, h1, h2⟩ | ⟨h1, s, h2⟩
  · rw [h1, h2]
    simp only [Option.bind_some, s_inl]
    cases r with
    | nil => rfl
    | cons b r => rfl
  · rw [h1, h2]
    rfl
end Go.Proofs.YthokgnonmcgkcaaDoor.P
namespace Go.Proofs.YthokgnonmcgkcaaDoor.P
open Go Go.RowKit Go.Proofs.YthokgnonmcgkcaaDoor.E Go.Proofs.YthokgnonmcgkcaaDoor.M
set_option linter.unusedVariables false
set_option linter.unusedSectionVars false
theorem Bs.ofN {D : List Nat} (h : Lt 8 D) : Bs (ofN D) := by
  intro b hb
  obtain ⟨d, hd, rfl⟩ := List.mem_map.1 hb
  have := h d hd
  omega
end Go.Proofs.YthokgnonmcgkcaaDoor.P
namespace Go.Proofs.YthokgnonmcgkcaaDoor.P
open Go Go.RowKit Go.Proofs.YthokgnonmcgkcaaDoor.E Go.Proofs.YthokgnonmcgkcaaDoor.M
set_option linter.unusedVariables false
set_option linter.unusedSectionVars false
end Go.Proofs.YthokgnonmcgkcaaDoor.P
namespace Go.Proofs.YthokgnonmcgkcaaDoor.P
open Go Go.RowKit Go.Proofs.YthokgnonmcgkcaaDoor.E Go.Proofs.YthokgnonmcgkcaaDoor.M
set_option linter.unusedVariables false
set_option linter.unusedSectionVars false
def nanB (a : Nat) : Bool := a / 4503599627370496 % 2048 == 2047 && a % 4503599627370496 != 0
theorem order_self (d : Ieee.Datum) : (d.order d == some .eq) = !d.isNaN := by
  cases d with
  | number s m p => simp [Ieee.Datum.order, Ieee.Datum.isNaN]
  | infinity s => simp [Ieee.Datum.order, Ieee.Datum.isNaN]
  | nan s f => simp [Ieee.Datum.order, Ieee.Datum.isNaN]
theorem feq_self (a : Nat) : feq a a = !nanB a := by
  unfold feq Ieee.Format.order
  rw [order_self]
  congr 1
  unfold Ieee.Format.read nanB
  have e1 : FloatKind.f64.format.signWeight = 9223372036854775808 := by decide
  have e2 : FloatKind.f64.format.binade = 4503599627370496 := by decide
  have e3 : FloatKind.f64.format.infRung = 9218868437227405312 := by decide
  simp only [e1, e2, e3]
  rw [Bool.eq_iff_iff]
  simp only [Bool.and_eq_true, beq_iff_eq, bne_iff_ne, ne_eq]
  split
  · simp [Ieee.Datum.isNaN]; omega
  · split
    · simp [Ieee.Datum.isNaN]; omega
    · split
      · simp [Ieee.Datum.isNaN]; omega
      · simp [Ieee.Datum.isNaN]; omega
def canon (a : Nat) : Nat := if nanB a then 9221120237041090560 else a
theorem canon_canon (a : Nat) : canon (canon a) = canon a := by
  unfold canon
  cases h : nanB a with
  | true => rw [if_pos rfl, if_pos (by decide)]
  | false => simp [h]
theorem rBits_eq (a : Nat) : r01_Bits a = some (canon a : Int) := by
  unfold r01_Bits r01_Bits_j1 canon nanB
  have e1 : ishr .u64 (a : Int) 52 = ((a / 4503599627370496 : Nat) : Int) := ishr_nat (k := .u64) a 52 (by decide)
  have e2 : (((a / 4503599627370496 : Nat) : Int)).tmod 2048 = ((a / 4503599627370496 % 2048 : Nat) : Int) := rfl
  have e3 : ((a : Int)).tmod 4503599627370496 = ((a % 4503599627370496 : Nat) : Int) := rfl
  simp only [lt_]
  rw [e1, e2, e3]
  by_cases h1 : a / 4503599627370496 % 2048 = 2047
  · by_cases h2 : a % 4503599627370496 = 0
    · simp [h1, h2]
    · simp [h1, h2]; omega
  · have : ((a / 4503599627370496 % 2048 : Nat) : Int) ≠ 2047 := by omega
    simp only [beq_iff_eq, this, if_false]
    simp [h1]
theorem cCanon_eq (a : Nat) : real_Canon a = some (canon a) := by
  unfold real_Canon math_IsNaN canon
  simp only [Option.bind_some, feq_self]
  cases nanB a <;> rfl
theorem cBits_eq (a : Nat) : real_Bits a = some (canon a : Int) := by
  unfold real_Bits
  rw [cCanon_eq]; rfl
theorem cOf_eq (a : Int) : real_Of a = some (canon a.toNat) := by
  unfold real_Of
  rw [cCanon_eq]; rfl
theorem rOf_eq (a : Int) : r01_Of a = some (canon a.toNat) := by
  unfold r01_Of
  rw [rBits_eq]; simp
def ub (b : Int) : Nat := (IntKind.u64.wrap b).toNat
theorem ub_eq (b : Int) : IntKind.u64.wrap b = (ub b : Int) := by
  unfold ub
  rw [IntKind.wrap_u64]; omega
def realsL (l : List Int) : Option (List Nat) := if l.all (fun b => canon (ub b) == ub b) = true then some (l.map ub) else none
theorem reals_loop (l : List Int) (f : Int) (h : l.length ≤ 4096) : ∀ (m k : Nat), k + m = l.length → (∀ b ∈ l.take k, canon (ub b) = ub b) →
    loop (fun s : List Nat × Int => column_ReadReals_l1 (l, f) s.1 s.2) ((l.take k).map ub, (k : Int)) = some (if (l.drop k).all (fun b => canon (ub b) == ub b) = true then .inl (l.map ub) else .inr ([], 3))
  | 0, k, hk, ha => by
    rw [loop_end (t := Sum.inl (l.map ub)) (by
      show column_ReadReals_l1 (l, f) ((l.take k).map ub) (k : Int) = _
      unfold column_ReadReals_l1
      rw [if_neg (by simp only [decide_eq_true_eq]; omega), show k = l.length by omega, List.take_length]), show k = l.length by omega, List.drop_length]
    rfl
  | m + 1, k, hk, ha => by
    have hkl : k < l.length := by omega
    have hx := List.getElem?_eq_getElem hkl
    have hd : l.drop k = l[k] :: l.drop (k + 1) := List.drop_eq_getElem_cons hkl
    rw [hd, List.all_cons]
    have hlen : ((l.take k).map ub).length = k := by simp; omega
    by_cases hc : canon (ub l[k]) = ub l[k]
    · rw [show (canon (ub l[k]) == ub l[k]) = true by simpa using hc, Bool.true_and, loop_nxt (s' := ((l.take (k + 1)).map ub, ((k + 1 : Nat) : Int))) (by
        show column_ReadReals_l1 (l, f) ((l.take k).map ub) (k : Int) = _
        unfold column_ReadReals_l1
        rw [if_pos (by simp only [decide_eq_true_eq]; omega), at_int rfl hx]
        simp only [Option.bind_some, lt_]
        rw [ub_eq, cOf_eq]
        simp only [Option.bind_some]
        rw [cBits_eq]
        simp only [Option.bind_some, Int.toNat_natCast]
        rw [canon_canon, hc, if_neg (by simp), chk_pos (by rw [hlen]; simp only [List.length_singleton]; omega), w64 (by omega) (by omega), take_snoc hx, List.map_append]
        rfl)]
      exact reals_loop l f h m (k + 1) (by omega) (fun b hb => by
        rw [take_snoc hx] at hb
        rcases List.mem_append.1 hb with q | q
        · exact ha b q
        · rw [List.mem_singleton.1 q]; exact hc)
    · rw [show (canon (ub l[k]) == ub l[k]) = false by simpa using hc, Bool.false_and, if_neg (by simp)]
      refine loop_end ?_
      show column_ReadReals_l1 (l, f) ((l.take k).map ub) (k : Int) = _
      unfold column_ReadReals_l1
      rw [if_pos (by simp only [decide_eq_true_eq]; omega), at_int rfl hx]
      simp only [Option.bind_some, lt_]
      rw [ub_eq, cOf_eq]
      simp only [Option.bind_some]
      rw [cBits_eq]
      simp only [Option.bind_some, Int.toNat_natCast]
      rw [canon_canon, if_pos (by simp only [bne_iff_ne, ne_eq, Int.natCast_inj]; exact hc)]
theorem pMany_len : ∀ (n : Nat) (xs : List Int) {l r : List Int}, pMany n xs = some (l, r) → l.length = n
  | 0, xs, l, r, h => by cases h; rfl
  | n + 1, xs, l, r, h => by
    unfold pMany at h
    split at h
    · split at h
      · rename_i he
        cases h
        simp [pMany_len n _ he]
      · cases h
    · cases h
theorem pD_len : ∀ (n : Nat) (a : Int) (xs : List Int) {l r : List Int}, pD a n xs = some (l, r) → l.length = n
  | 0, a, xs, l, r, h => by cases h; rfl
  | n + 1, a, xs, l, r, h => by
    unfold pD at h
    split at h
    · split at h
      · rename_i he
        cases h
        simp [pD_len n _ _ he]
      · cases h
    · cases h
theorem pR_len : ∀ (f n : Nat) (xs : List Int) {l r : List Int}, pR f n xs = some (l, r) → l.length ≤ n
  | 0, n, xs, l, r, h => by cases h; simp
  | f + 1, n, xs, l, r, h => by
    unfold pR at h
    split at h
    · cases h; simp
    · split at h
      · split at h
        · rename_i hk
          split at h
          · rename_i he
            cases h
            have := pR_len f _ _ he
            have := (pU_some hk).1
            simp only [List.length_append, List.length_replicate]
            omega
          · cases h
        · cases h
      · cases h
theorem pP_len (n : Nat) (xs : List Int) {l r : List Int} (h : pP n xs = some (l, r)) : l.length = n := by
  unfold pP at h
  split at h
  · split at h
    · split at h
      · cases h
        rw [List.length_map, part_length]
      · cases h
    · cases h
  · cases h
theorem pBody_len (w : Int) (n : Nat) (xs : List Int) {l r : List Int} (h : pBody w n xs = some (l, r)) : l.length ≤ n := by
  unfold pBody at h
  split at h
  · exact Nat.le_of_eq (pMany_len _ _ h)
  · split at h
    · exact Nat.le_of_eq (pD_len _ _ _ h)
    · split at h
      · exact pR_len _ _ _ h
      · split at h
        · exact Nat.le_of_eq (pP_len _ _ h)
        · cases h; simp
theorem pInts_len {xs l r : List Int} (h : pInts xs = some (l, r)) : l.length ≤ 4096 := by
  unfold pInts at h
  split at h
  · split at h
    · split at h
      · rename_i hu
        have := pBody_len _ _ _ h
        have := (pU_some hu).1
        omega
      · cases h
    · cases h
  · cases h
theorem readL_len {xs l : List Int} (h : readL xs = some l) : l.length ≤ 4096 := by
  unfold readL at h
  split at h
  · cases h; exact pInts_len (by assumption)
  · cases h
theorem ReadReals_col {xs : List Int} (hB : Bs xs) (hl : xs.length < 1099511627776) : column_ReadReals xs = some (match (readL xs).bind realsL with | some l => (l, 0) | none => ([], 3)) := by
  unfold column_ReadReals
  rw [ReadInts_col hB hl]
  simp only [Option.bind_some]
  cases h : readL xs with
  | none => rfl
  | some l =>
    simp only [Option.bind_some]
    rw [if_neg (by simp)]
    have := reals_loop l 0 (readL_len h) l.length 0 (by omega) (fun b hb => by simp at hb)
    simp only [List.take_zero, List.map_nil, List.drop_zero] at this
    rw [show ((0 : Nat) : Int) = 0 from rfl] at this
    rw [this]
    unfold realsL
    simp only [Option.bind_some]
    cases (l.all fun b => canon (ub b) == ub b)
    · rfl
    · rfl
end Go.Proofs.YthokgnonmcgkcaaDoor.P
namespace Go.Proofs.YthokgnonmcgkcaaDoor.P
open Go Go.RowKit Go.Proofs.YthokgnonmcgkcaaDoor.E Go.Proofs.YthokgnonmcgkcaaDoor.M
set_option linter.unusedVariables false
set_option linter.unusedSectionVars false
def IsQ {ρ : Type} (B : List Int) (o : Option (ρ × S63)) (p : Option (ρ × List Int)) : Prop :=
  match p with
  | some (a, r) => ∃ q : Nat, o = some (a, ⟨B, (q : Int)⟩) ∧ q ≤ B.length ∧ B.drop q = r
  | none => ∃ a, o = some (a, ⟨B, -1⟩)
theorem IsQ.cases {ρ : Type} {B : List Int} {o : Option (ρ × S63)} {p : Option (ρ × List Int)} (h : IsQ B o p) : (∃ a r, ∃ q : Nat, p = some (a, r) ∧ o = some (a, ⟨B, (q : Int)⟩) ∧ q ≤ B.length ∧ B.drop q = r) ∨ (p = none ∧ ∃ a, o = some (a, ⟨B, -1⟩)) := by
  unfold IsQ at h
  split at h
  · obtain ⟨q, h1, h2, h3⟩ := h
    exact .inl ⟨_, _, q, rfl, h1, h2, h3⟩
  · exact .inr ⟨rfl, h⟩
theorem rByte_is (B : List Int) {q : Nat} (hq : q ≤ B.length) (hB : B.length < 1099511627776) : IsQ B (r03_Reader_Byte ⟨B, (q : Int)⟩) (pB (B.drop q)) := by
  unfold r03_Reader_Byte r03_Reader_Byte_j1
  rw [if_neg (by simp only [decide_eq_true_eq]; omega)]
  by_cases h : q < B.length
  · have hx := List.getElem?_eq_getElem h
    rw [if_neg (by simp only [decide_eq_true_eq]; omega)]
    simp only [lt_]
    rw [w64 (n := (q : Int) + 1) (by omega) (by omega), w64 (by omega) (by omega), at_int (n := q) (by omega) hx, List.drop_eq_getElem_cons h]
    exact ⟨q + 1, rfl, by omega, rfl⟩
  · rw [if_pos (by simp only [decide_eq_true_eq]; omega), List.drop_of_length_le (by omega)]
    exact ⟨_, rfl⟩
theorem rByte_no (B : List Int) : r03_Reader_Byte ⟨B, -1⟩ = some (0, ⟨B, -1⟩) := rfl
theorem rUloop (most : Int) (B : List Int) (hBs : Bs B) (hB : B.length < 1099511627776) : ∀ (m q i n : Nat), B.length - q = m → q ≤ B.length → i ≤ 10 → n < 2 ^ (7 * i) → n < 18446744073709551616 →
    ∃ y, loop (fun s : List Int × Int × Int × Int => r03_Reader_Uint_l1 most s.1 s.2.1 s.2.2.1 s.2.2.2) (B, (q : Int), (n : Int), (i : Int)) = some y ∧ match (match pV i n (B.drop q) with | some (m, r) => if (m : Int) ≤ most then some ((m : Int), r) else none | none => none) with
      | some (a, r) => ∃ q' : Nat, y = .inr (a, ⟨B, (q' : Int)⟩) ∧ q' ≤ B.length ∧ B.drop q' = r
      | none => ∃ x, y = .inl (B, x) := by
  intro m
  induction m with
  | zero =>
    intro q i n hm hq hi h1 h2
    have hqe : q = B.length := by omega
    have hd : B.drop q = [] := List.drop_of_length_le (by omega)
    rw [hd]
    refine ⟨.inl (B, if i < 10 then -1 else (q : Int)), loop_end ?_, _, rfl⟩
    show r03_Reader_Uint_l1 most B (q : Int) (n : Int) (i : Int) = _
    unfold r03_Reader_Uint_l1
    by_cases hi' : i < 10
    · rw [if_pos (by simp only [decide_eq_true_eq]; omega)]
      have hb : r03_Reader_Byte ⟨B, (q : Int)⟩ = some (0, ⟨B, -1⟩) := by
        unfold r03_Reader_Byte r03_Reader_Byte_j1
        rw [if_neg (by simp only [decide_eq_true_eq]; omega), if_pos (by simp only [decide_eq_true_eq]; omega)]
      rw [hb, if_pos hi']
      rfl
    · rw [if_neg (by simp only [decide_eq_true_eq]; omega), if_neg hi']
  | succ m ih =>
    intro q i n hm hq hi h1 h2
    have hql : q < B.length := by omega
    have hx := List.getElem?_eq_getElem hql
    have hd : B.drop q = B[q] :: B.drop (q + 1) := List.drop_eq_getElem_cons hql
    have hbb := hBs _ (List.mem_of_getElem? hx)
    have hby : r03_Reader_Byte ⟨B, (q : Int)⟩ = some (B[q], ⟨B, ((q + 1 : Nat) : Int)⟩) := by
      unfold r03_Reader_Byte r03_Reader_Byte_j1
      rw [if_neg (by simp only [decide_eq_true_eq]; omega), if_neg (by simp only [decide_eq_true_eq]; omega)]
      simp only [lt_]
      rw [w64 (n := (q : Int) + 1) (by omega) (by omega), w64 (by omega) (by omega), at_int (n := q) (by omega) hx]
      rfl
    rw [hd]
    obtain ⟨c, hc⟩ : ∃ c : Nat, B[q] = (c : Int) := ⟨B[q].toNat, by omega⟩
    rw [hc] at hby hbb ⊢
    generalize hpv : pV i n ((c : Int) :: B.drop (q + 1)) = pv
    have hcase : (c : Int) < 128 ∨ 128 ≤ (c : Int) := by omega
    by_cases hi10 : i = 10
    · subst hi10
      rw [pV, if_neg (by omega)] at hpv
      subst hpv
      refine ⟨.inl (B, (q : Int)), loop_end ?_, _, rfl⟩
      show r03_Reader_Uint_l1 most B (q : Int) (n : Int) ((10 : Nat) : Int) = _
      unfold r03_Reader_Uint_l1
      rw [if_neg (by decide)]
    have hl0 : r03_Reader_Uint_l1 most B (q : Int) (n : Int) (i : Int) = r03_Reader_Uint_j1 most (n : Int) (i : Int) ((c : Int), ⟨B, ((q + 1 : Nat) : Int)⟩) (decide (¬ (i < 9 ∨ (i = 9 ∧ (c : Int) < 2)))) := by
      unfold r03_Reader_Uint_l1
      rw [if_pos (by simp only [decide_eq_true_eq]; omega), hby]
      simp only [Option.bind_some]
      rw [if_neg (by simp only [decide_eq_true_eq]; omega)]
      by_cases h9 : i = 9
      · subst h9
        rw [if_pos (by rfl)]
        congr 1
        rw [decide_eq_decide]
        omega
      · rw [if_neg (by simp; omega)]
        congr 1
        rw [eq_comm, decide_eq_false_iff_not]
        omega
    by_cases hok : i < 9 ∨ (i = 9 ∧ (c : Int) < 2)
    · have hp : 2 ^ (7 * (i + 1)) = 128 * 2 ^ (7 * i) := by rw [show 7 * (i + 1) = 7 + 7 * i by omega, Nat.pow_add]
      have hm' : c % 128 * 2 ^ (7 * i) ≤ 127 * 2 ^ (7 * i) := Nat.mul_le_mul_right _ (by omega)
      have hlt : c % 128 * 2 ^ (7 * i) < 18446744073709551616 ∧ n + c % 128 * 2 ^ (7 * i) < 18446744073709551616 := by
        rcases hok with hc' | ⟨hc', hb⟩
        · have : 2 ^ (7 * i) ≤ 2 ^ 56 := Nat.pow_le_pow_right (by decide) (by omega)
          omega
        · subst hc'
          have : c % 128 * 2 ^ (7 * 9) ≤ 1 * 2 ^ (7 * 9) := Nat.mul_le_mul_right _ (by omega)
          omega
      have hlt2 : n + c % 128 * 2 ^ (7 * i) < 2 ^ (7 * (i + 1)) := by rw [hp]; omega
      obtain ⟨s, hs⟩ : ∃ s, s = n + c % 128 * 2 ^ (7 * i) := ⟨_, rfl⟩
      rw [pV, if_pos hok, Int.toNat_natCast, ← hs] at hpv
      rw [show decide (¬ (i < 9 ∨ (i = 9 ∧ (c : Int) < 2))) = false by simp only [decide_eq_false_iff_not, Decidable.not_not]; exact hok] at hl0
      have e3 : ishl .u64 ((c % 128 : Nat) : Int) ((7 * i : Nat) : Int) = ((c % 128 * 2 ^ (7 * i) : Nat) : Int) := by
        rw [ishl_u64 _ _ (by omega), Nat.mod_eq_of_lt hlt.1]
      have hj : r03_Reader_Uint_j1 most (n : Int) (i : Int) ((c : Int), ⟨B, ((q + 1 : Nat) : Int)⟩) false = if (c : Int) < 128 then (if (i = 0 ∨ 0 < (c : Int)) ∧ (s : Int) ≤ most then some (.inr (.inr ((s : Int), ⟨B, ((q + 1 : Nat) : Int)⟩))) else some (.inr (.inl (B, ((q + 1 : Nat) : Int))))) else some (.inl (B, ((q + 1 : Nat) : Int), (s : Int), ((i + 1 : Nat) : Int))) := by
        unfold r03_Reader_Uint_j1
        rw [if_neg (by simp)]
        simp only [lt_]
        rw [show ((c : Int)).tmod 128 = ((c % 128 : Nat) : Int) from rfl, u64w (n := ((c % 128 : Nat) : Int)) (by omega) (by omega), w64 (n := 7 * (i : Int)) (by omega) (by omega), show 7 * (i : Int) = ((7 * i : Nat) : Int) by omega, chk_pos (by omega), e3,
          ← Int.natCast_add, ← hs, u64w (n := (s : Int)) (by omega) (by omega)]
        have hj2 : ∀ b, r03_Reader_Uint_j2 ((c : Int), ⟨B, ((q + 1 : Nat) : Int)⟩) (s : Int) b = if b = true then some (.inr (.inl (B, ((q + 1 : Nat) : Int)))) else some (.inr (.inr ((s : Int), ⟨B, ((q + 1 : Nat) : Int)⟩))) := fun _ => rfl
        rcases hcase with h128 | h128
        · rw [if_pos (by simpa using h128), if_pos h128]
          by_cases hi0 : i = 0
          · subst hi0
            rw [if_neg (by simp), hj2]
            by_cases hmo : (s : Int) ≤ most
            · rw [if_neg (by simp only [decide_eq_true_eq]; omega), if_pos ⟨.inl rfl, hmo⟩]
            · rw [if_pos (by simp only [decide_eq_true_eq]; omega), if_neg (fun h => hmo h.2)]
          · rw [if_pos (by simp only [decide_eq_true_eq]; omega)]
            by_cases hc0 : c = 0
            · subst hc0
              rw [if_pos (by rfl), hj2, if_pos rfl, if_neg (by rintro ⟨h | h, _⟩; exact hi0 h; exact absurd h (by decide))]
            · rw [if_neg (by simp; omega), hj2]
              by_cases hmo : (s : Int) ≤ most
              · rw [if_neg (by simp only [decide_eq_true_eq]; omega), if_pos ⟨.inr (by omega), hmo⟩]
              · rw [if_pos (by simp only [decide_eq_true_eq]; omega), if_neg (fun h => hmo h.2)]
        · rw [if_neg (by simpa using h128), if_neg (Int.not_lt.2 h128), w64 (by omega) (by omega)]
          rfl
      rcases hcase with h128 | h128
      · rw [if_pos h128] at hj hpv
        by_cases h0 : i = 0 ∨ 0 < (c : Int)
        · rw [if_pos h0] at hpv
          subst hpv
          simp only
          by_cases hmo : (s : Int) ≤ most
          · rw [if_pos ⟨h0, hmo⟩] at hj
            rw [if_pos hmo]
            exact ⟨_, loop_end (hl0.trans hj), q + 1, rfl, by omega, rfl⟩
          · rw [if_neg (fun h => hmo h.2)] at hj
            rw [if_neg hmo]
            exact ⟨_, loop_end (hl0.trans hj), _, rfl⟩
        · rw [if_neg h0] at hpv
          subst hpv
          rw [if_neg (fun h => h0 h.1)] at hj
          exact ⟨_, loop_end (hl0.trans hj), _, rfl⟩
      · rw [if_neg (Int.not_lt.2 h128)] at hj hpv
        rw [loop_nxt (hl0.trans hj)]
        subst hpv
        exact ih (q + 1) (i + 1) s (by omega) (by omega) (by omega) (by rw [hs]; exact hlt2) (by rw [hs]; exact hlt.2)
    · rw [pV, if_neg hok] at hpv
      subst hpv
      rw [show decide (¬ (i < 9 ∨ (i = 9 ∧ (c : Int) < 2))) = true by rw [decide_eq_true_eq]; exact hok] at hl0
      exact ⟨_, loop_end (t := Sum.inl (B, ((q + 1 : Nat) : Int))) (hl0.trans rfl), _, rfl⟩
theorem rUint_is (most : Int) {B : List Int} (hBs : Bs B) (hB : B.length < 1099511627776) {q : Nat} (hq : q ≤ B.length) : IsQ B (r03_Reader_Uint ⟨B, (q : Int)⟩ most) (pU most (B.drop q)) := by
  unfold r03_Reader_Uint
  obtain ⟨y, hy, hm⟩ := rUloop most B hBs hB _ q 0 0 rfl hq (by omega) (by simp) (by omega)
  rw [show ((0 : Nat) : Int) = 0 from rfl] at hy
  rw [hy]
  change (match pU most (B.drop q) with
      | some (a, r) => ∃ q' : Nat, y = .inr (a, ⟨B, (q' : Int)⟩) ∧ q' ≤ B.length ∧ B.drop q' = r
      | none => ∃ x, y = .inl (B, x)) at hm
  revert hm
  cases pU most (B.drop q) with
  | none => rintro ⟨x, rfl⟩; exact ⟨_, rfl⟩
  | some a => rintro ⟨q', rfl, h1, h2⟩; exact ⟨q', rfl, h1, h2⟩
theorem rUint_no (most : Int) (B : List Int) : r03_Reader_Uint ⟨B, -1⟩ most = some (0, ⟨B, -1⟩) := by
  unfold r03_Reader_Uint
  rw [loop_end (t := Sum.inl (B, -1)) rfl]
  rfl
theorem rInt_is {B : List Int} (hBs : Bs B) (hB : B.length < 1099511627776) {q : Nat} (hq : q ≤ B.length) : IsQ B (r03_Reader_Int ⟨B, (q : Int)⟩) (pI (B.drop q)) := by
  unfold r03_Reader_Int pI
  rcases (rUint_is 18446744073709551615 hBs hB hq).cases with ⟨a, r, q', h1, h2, h3, h4⟩ | ⟨h1, a, h2⟩
  · rw [h1, h2]
    obtain ⟨⟨q1, q2, _⟩, _⟩ := pU_some h1
    obtain ⟨n, rfl⟩ : ∃ n : Nat, a = (n : Int) := ⟨a.toNat, by omega⟩
    simp only [Option.bind_some, lt_, Int.toNat_natCast]
    refine ⟨q', ?_, h3, h4⟩
    have e1 : (n : Int).tmod 2 = ((n % 2 : Nat) : Int) := rfl
    have e2 : (n : Int).tdiv 2 = ((n / 2 : Nat) : Int) := rfl
    rw [e1, e2, u64w (n := ((n / 2 : Nat) : Int)) (by omega) (by omega), w64 (n := ((n / 2 : Nat) : Int)) (by omega) (by omega)]
    unfold uz
    by_cases ho : n % 2 = 1
    · rw [ho, if_pos (by rfl), if_pos rfl, w64 (n := 0 - ((n / 2 : Nat) : Int)) (by omega) (by omega), w64 (by omega) (by omega)]
      congr 2
      omega
    · rw [if_neg (by simp; omega), if_neg ho]
  · rw [h1, h2]
    refine ⟨if ((a.tmod 2) == 1) = true then IntKind.i64.wrap (IntKind.i64.wrap (0 - IntKind.i64.wrap (IntKind.u64.wrap (a.tdiv 2))) - 1) else IntKind.i64.wrap (IntKind.u64.wrap (a.tdiv 2)), ?_⟩
    simp only [Option.bind_some, lt_]
    split <;> rfl
theorem rText_is (most : Int) {B : List Int} (hBs : Bs B) (hB : B.length < 1099511627776) {q : Nat} (hq : q ≤ B.length) : IsQ B (r03_Reader_Text ⟨B, (q : Int)⟩ most) (pT most (B.drop q)) := by
  unfold r03_Reader_Text pT r03_Reader_Text_j1
  rw [lt_]
  rcases (rUint_is (IntKind.u64.wrap most) hBs hB hq).cases with ⟨a, r, q', h1, h2, h3, h4⟩ | ⟨h1, a, h2⟩
  · rw [h1, h2]
    obtain ⟨⟨q1, q2, _⟩, _⟩ := pU_some h1
    obtain ⟨n, rfl⟩ : ∃ n : Nat, a = (n : Int) := ⟨a.toNat, by omega⟩
    have hr : r.length = B.length - q' := by rw [← h4]; simp
    simp only [Option.bind_some, lt_, Int.toNat_natCast]
    rw [if_neg (by simp only [decide_eq_true_eq]; omega), w64 (n := (B.length : Int) - (q' : Int)) (by omega) (by omega), u64w (by omega) (by omega)]
    by_cases hn : (n : Int) ≤ (r.length : Int)
    · rw [if_neg (by simp only [decide_eq_true_eq]; omega), if_pos hn, w64 (n := (n : Int)) (by omega) (by omega), w64 (by omega) (by omega)]
      have c := cut_nat (xs := B) (l := q') (u := q' + n) (by omega) (by omega)
      rw [show (q' : Int) + (n : Int) = ((q' + n : Nat) : Int) by omega, c]
      simp only [Option.bind_some]
      refine ⟨q' + n, ?_, by omega, ?_⟩
      · rw [← h4, List.take_drop]
      · rw [← h4, List.drop_drop]
    · rw [if_pos (by simp only [decide_eq_true_eq]; omega), if_neg hn]
      exact ⟨_, rfl⟩
  · rw [h1, h2]
    simp only [Option.bind_some]
    rw [if_pos (by rfl), if_pos trivial]
    exact ⟨_, rfl⟩
theorem rText_no (most : Int) (B : List Int) : r03_Reader_Text ⟨B, -1⟩ most = some ([], ⟨B, -1⟩) := by
  unfold r03_Reader_Text
  rw [lt_, rUint_no]
  rfl
end Go.Proofs.YthokgnonmcgkcaaDoor.P
namespace Go.Proofs.YthokgnonmcgkcaaDoor.P
open Go Go.RowKit Go.Proofs.YthokgnonmcgkcaaDoor.E Go.Proofs.YthokgnonmcgkcaaDoor.M
set_option linter.unusedVariables false
set_option linter.unusedSectionVars false
def IsT (B acc : List Int) (t : List Int × Int × List Int) (p : Option (List Int × List Int)) : Prop :=
  match p with
  | some (l, r) => ∃ q : Nat, t = (B, (q : Int), acc ++ l) ∧ q ≤ B.length ∧ B.drop q = r
  | none => ∃ a, t = (B, -1, a)
theorem IsT.cons {B acc : List Int} {t : List Int × Int × List Int} {p : Option (List Int × List Int)} (x : List Int) (h : IsT B (acc ++ x) t p) :
    IsT B acc t (match (generalizing := false) p with | some (l, r) => some (x ++ l, r) | none => none) := by
  cases p with
  | none => exact h
  | some y =>
    obtain ⟨q, h1, h2, h3⟩ := h
    exact ⟨q, by rw [h1, List.append_assoc], h2, h3⟩
theorem rUint_none (most : Int) {B : List Int} (hBs : Bs B) (hB : B.length < 1099511627776) {q : Nat} (hq : q ≤ B.length) (hn : pU most (B.drop q) = none) : r03_Reader_Uint ⟨B, (q : Int)⟩ most = some (0, ⟨B, -1⟩) := by
  unfold r03_Reader_Uint
  obtain ⟨y, hy, hm⟩ := rUloop most B hBs hB _ q 0 0 rfl hq (by omega) (by simp) (by omega)
  rw [show ((0 : Nat) : Int) = 0 from rfl] at hy
  rw [hy]
  change (match pU most (B.drop q) with
      | some (a, r) => ∃ q' : Nat, y = .inr (a, ⟨B, (q' : Int)⟩) ∧ q' ≤ B.length ∧ B.drop q' = r
      | none => ∃ x, y = .inl (B, x)) at hm
  rw [hn] at hm
  obtain ⟨x, rfl⟩ := hm
  rfl
section
variable {B : List Int} (hBs : Bs B) (hB : B.length < 1099511627776)
include hBs hB
theorem rm_loop (n : Nat) (hn : n ≤ 4096) : ∀ (m k q : Nat) (acc : List Int), k + m = n → acc.length = k → q ≤ B.length →
    ∃ t, loop (fun s : List Int × Int × List Int × Int => r03_Reader_Ints_l1 (n : Int) s.1 s.2.1 s.2.2.1 s.2.2.2) (B, (q : Int), acc, (k : Int)) = some t ∧ IsT B acc t (pMany m (B.drop q))
  | 0, k, q, acc, hk, ha, hq => by
    refine ⟨(B, (q : Int), acc), loop_end ?_, q, by simp, hq, rfl⟩
    show r03_Reader_Ints_l1 (n : Int) B (q : Int) acc (k : Int) = _
    unfold r03_Reader_Ints_l1
    rw [if_neg (by simp only [decide_eq_true_eq]; omega)]
    rfl
  | m + 1, k, q, acc, hk, ha, hq => by
    have hl1 : r03_Reader_Ints_l1 (n : Int) B (q : Int) acc (k : Int) = (r03_Reader_Int ⟨B, (q : Int)⟩).bind fun y => some (.inl (y.2.f0, y.2.f1, acc ++ [y.1], ((k + 1 : Nat) : Int))) := by
      unfold r03_Reader_Ints_l1 r03_Reader_Ints_j2
      rw [if_pos (by simp only [decide_eq_true_eq]; omega), if_pos (by simp only [decide_eq_true_eq]; omega)]
      congr 1
      funext y
      rw [chk_pos (by simp; omega), lt_, w64 (by omega) (by omega)]
      rfl
    unfold pMany
    rcases (rInt_is hBs hB hq).cases with ⟨x, r, q', h1, h2, h3, h4⟩ | ⟨h1, a, h2⟩
    · rw [h1]
      obtain ⟨t, ht, hm⟩ := rm_loop n hn m (k + 1) q' (acc ++ [x]) (by omega) (by simp [ha]) h3
      refine ⟨t, (loop_nxt (s' := (B, (q' : Int), acc ++ [x], ((k + 1 : Nat) : Int))) ?_).trans ht, ?_⟩
      · exact hl1.trans (by rw [h2]; rfl)
      · rw [h4] at hm
        have := hm.cons
        exact this
    · rw [h1]
      refine ⟨(B, -1, acc ++ [a]), (loop_nxt (s' := (B, -1, acc ++ [a], ((k + 1 : Nat) : Int))) (hl1.trans (by rw [h2]; rfl))).trans (loop_end ?_), _, rfl⟩
      show r03_Reader_Ints_l1 (n : Int) B (-1) (acc ++ [a]) ((k + 1 : Nat) : Int) = _
      unfold r03_Reader_Ints_l1
      split <;> rfl
theorem rd_loop (n : Nat) (hn : n ≤ 4096) : ∀ (m k q : Nat) (b : Int) (acc : List Int), k + m = n → acc.length = k → q ≤ B.length →
    ∃ t, loop (fun s : List Int × Int × List Int × Int × Int => r03_Reader_Ints_l2 (n : Int) s.1 s.2.1 s.2.2.1 s.2.2.2.1 s.2.2.2.2) (B, (q : Int), acc, b, (k : Int)) = some t ∧ IsT B acc t (pD b m (B.drop q))
  | 0, k, q, b, acc, hk, ha, hq => by
    refine ⟨(B, (q : Int), acc), loop_end ?_, q, by simp, hq, rfl⟩
    show r03_Reader_Ints_l2 (n : Int) B (q : Int) acc b (k : Int) = _
    unfold r03_Reader_Ints_l2
    rw [if_neg (by simp only [decide_eq_true_eq]; omega)]
    rfl
  | m + 1, k, q, b, acc, hk, ha, hq => by
    have hl1 : r03_Reader_Ints_l2 (n : Int) B (q : Int) acc b (k : Int) = (r03_Reader_Int ⟨B, (q : Int)⟩).bind fun y => some (.inl (y.2.f0, y.2.f1, acc ++ [IntKind.i64.wrap (b + y.1)], IntKind.i64.wrap (b + y.1), ((k + 1 : Nat) : Int))) := by
      unfold r03_Reader_Ints_l2 r03_Reader_Ints_j3
      rw [if_pos (by simp only [decide_eq_true_eq]; omega), if_pos (by simp only [decide_eq_true_eq]; omega)]
      congr 1
      funext y
      rw [lt_, chk_pos (by simp; omega), lt_, w64 (n := (k : Int) + 1) (by omega) (by omega)]
      rfl
    unfold pD
    rcases (rInt_is hBs hB hq).cases with ⟨x, r, q', h1, h2, h3, h4⟩ | ⟨h1, a, h2⟩
    · rw [h1]
      obtain ⟨t, ht, hm⟩ := rd_loop n hn m (k + 1) q' (IntKind.i64.wrap (b + x)) (acc ++ [IntKind.i64.wrap (b + x)]) (by omega) (by simp [ha]) h3
      refine ⟨t, (loop_nxt (s' := (B, (q' : Int), acc ++ [IntKind.i64.wrap (b + x)], IntKind.i64.wrap (b + x), ((k + 1 : Nat) : Int))) ?_).trans ht, ?_⟩
      · exact hl1.trans (by rw [h2]; rfl)
      · rw [h4] at hm
        have := hm.cons
        exact this
    · rw [h1]
      refine ⟨(B, -1, acc ++ [IntKind.i64.wrap (b + a)]), (loop_nxt (s' := (B, -1, acc ++ [IntKind.i64.wrap (b + a)], IntKind.i64.wrap (b + a), ((k + 1 : Nat) : Int))) (hl1.trans (by rw [h2]; rfl))).trans (loop_end ?_), _, rfl⟩
      show r03_Reader_Ints_l2 (n : Int) B (-1) (acc ++ [IntKind.i64.wrap (b + a)]) (IntKind.i64.wrap (b + a)) ((k + 1 : Nat) : Int) = _
      unfold r03_Reader_Ints_l2
      split <;> rfl
end
theorem rrep_loop (y : Int × S63) (c : Nat) (acc : List Int) (h : acc.length + c < 100000) : loop (fun s : List Int × Int => r03_Reader_Ints_l4 y (c : Int) s.1 s.2) (acc, 0) = some (acc ++ List.replicate (c + 1) y.1) := by
  have := loop_to (b := fun s : List Int × Int => r03_Reader_Ints_l4 y (c : Int) s.1 s.2) (fun j => (acc ++ List.replicate j y.1, (j : Int))) (t := acc ++ List.replicate (c + 1) y.1) (c + 1) (fun j hj => by
    show r03_Reader_Ints_l4 y (c : Int) (acc ++ List.replicate j y.1) (j : Int) = _
    unfold r03_Reader_Ints_l4
    rw [if_pos (by simp only [decide_eq_true_eq]; omega), chk_pos (by simp; omega), lt_, w64 (by omega) (by omega), List.replicate_succ', List.append_assoc]
    rfl) (by
    show r03_Reader_Ints_l4 y (c : Int) (acc ++ List.replicate (c + 1) y.1) ((c + 1 : Nat) : Int) = _
    unfold r03_Reader_Ints_l4
    rw [if_neg (by simp only [decide_eq_true_eq]; omega)])
  simpa using this
section
variable {B : List Int} (hBs : Bs B) (hB : B.length < 1099511627776)
include hBs hB
theorem rr_loop (n : Nat) (hn : n ≤ 4096) : ∀ (f m q : Nat) (acc : List Int), acc.length + m = n → m ≤ f → q ≤ B.length →
    ∃ t, loop (fun s : List Int × Int × List Int => r03_Reader_Ints_l3 (n : Int) s.1 s.2.1 s.2.2) (B, (q : Int), acc) = some t ∧ IsT B acc t (pR f m (B.drop q))
  | 0, m, q, acc, hk, hf, hq => by
    refine ⟨(B, (q : Int), acc), loop_end ?_, q, by simp, hq, rfl⟩
    show r03_Reader_Ints_l3 (n : Int) B (q : Int) acc = _
    unfold r03_Reader_Ints_l3
    rw [if_neg (by simp only [decide_eq_true_eq]; omega)]
    rfl
  | f + 1, m, q, acc, hk, hf, hq => by
    unfold pR
    by_cases hm0 : m = 0
    · rw [if_pos hm0]
      refine ⟨(B, (q : Int), acc), loop_end ?_, q, by simp, hq, rfl⟩
      show r03_Reader_Ints_l3 (n : Int) B (q : Int) acc = _
      unfold r03_Reader_Ints_l3
      rw [if_neg (by simp only [decide_eq_true_eq]; omega)]
      rfl
    rw [if_neg hm0]
    have e1 : IntKind.u64.wrap (IntKind.i64.wrap (IntKind.i64.wrap ((n : Int) - (acc.length : Int)) - 1)) = ((m - 1 : Nat) : Int) := by
      rw [w64 (n := (n : Int) - (acc.length : Int)) (by omega) (by omega), w64 (by omega) (by omega), u64w (by omega) (by omega)]
      omega
    have hstep : ∀ (x : Int) (p p' : Int) (c : Nat), r03_Reader_Int ⟨B, (q : Int)⟩ = some (x, ⟨B, p⟩) → r03_Reader_Uint ⟨B, p⟩ ((m - 1 : Nat) : Int) = some ((c : Int), ⟨B, p'⟩) → c < 4096 →
        r03_Reader_Ints_l3 (n : Int) B (q : Int) acc = some (.inl (B, p', acc ++ List.replicate (c + 1) x)) := by
      intro x p p' c h1 h2 hc
      unfold r03_Reader_Ints_l3 r03_Reader_Ints_j4
      rw [if_pos (by simp only [decide_eq_true_eq]; omega), if_pos (by simp only [decide_eq_true_eq]; omega), h1]
      simp only [Option.bind_some, lt_]
      rw [e1, h2]
      simp only [Option.bind_some]
      rw [w64 (by omega) (by omega), rrep_loop _ _ _ (by omega)]
      rfl
    have hend : ∀ (a : List Int), loop (fun s : List Int × Int × List Int => r03_Reader_Ints_l3 (n : Int) s.1 s.2.1 s.2.2) (B, -1, a) = some (B, -1, a) := by
      intro a
      refine loop_end ?_
      show r03_Reader_Ints_l3 (n : Int) B (-1) a = _
      unfold r03_Reader_Ints_l3
      split <;> rfl
    rcases (rInt_is hBs hB hq).cases with ⟨x, r, q', h1, h2, h3, h4⟩ | ⟨h1, a, h2⟩
    · rw [h1]
      simp only
      rw [← h4]
      rcases (rUint_is ((m - 1 : Nat) : Int) hBs hB h3).cases with ⟨k, r', q'', g1, g2, g3, g4⟩ | ⟨g1, a, g2⟩
      · rw [g1]
        simp only
        obtain ⟨p1, p2, p3⟩ := (pU_some g1).1
        obtain ⟨c, rfl⟩ : ∃ c : Nat, k = (c : Int) := ⟨k.toNat, by omega⟩
        rw [Int.toNat_natCast]
        obtain ⟨t, ht, hm⟩ := rr_loop n hn f (m - (c + 1)) q'' (acc ++ List.replicate (c + 1) x) (by simp; omega) (by omega) g3
        refine ⟨t, (loop_nxt (s' := (B, (q'' : Int), acc ++ List.replicate (c + 1) x)) (hstep x _ _ c h2 g2 (by omega))).trans ht, ?_⟩
        rw [g4] at hm
        exact hm.cons
      · rw [g1]
        refine ⟨_, (loop_nxt (s' := (B, -1, acc ++ List.replicate (0 + 1) x)) (hstep x _ _ 0 h2 ?_ (by omega))).trans (hend _), _, rfl⟩
        rw [rUint_none _ hBs hB h3 g1]
        rfl
    · rw [h1]
      refine ⟨_, (loop_nxt (s' := (B, -1, acc ++ List.replicate (0 + 1) a)) (hstep a _ _ 0 h2 ?_ (by omega))).trans (hend _), _, rfl⟩
      rw [rUint_no]
      rfl
end
end Go.Proofs.YthokgnonmcgkcaaDoor.P
namespace Go.Proofs.YthokgnonmcgkcaaDoor.P
open Go Go.RowKit Go.Proofs.YthokgnonmcgkcaaDoor.E Go.Proofs.YthokgnonmcgkcaaDoor.M
set_option linter.unusedVariables false
set_option linter.unusedSectionVars false
theorem bt_div (v i j : Nat) : bt (v / 2 ^ i) j = bt v (i + j) := by
  unfold bt
  rw [Nat.div_div_eq_div_mul, ← Nat.pow_add]
section
variable {B xs : List Int} {p : Nat} (hp : p ≤ B.length) (hx : B.drop p = xs) (hBs : Bs xs) (hB : B.length < 1099511627776) (hs : xs.length ≤ 32768)
include hp hx hBs hB hs
theorem bit_at {i : Nat} (hi : i < 8 * xs.length) : ∃ b : Nat, at_ B ((p : Int) + ((i / 8 : Nat) : Int)) = some (b : Int) ∧ b < 256 ∧ bt b (i % 8) = bt (V 8 (toN xs)) i := by
  obtain ⟨b, h1, h2, h3⟩ := toN_get hBs (j := i / 8) (by omega)
  refine ⟨b, at_int (n := p + i / 8) (by omega) ?_, h3, ?_⟩
  · rw [← hx, List.getElem?_drop] at h1
    exact h1
  · have := bt_V (toN_lt hBs) h2 (k := i % 8) (by omega)
    rw [show i / 8 * 8 + i % 8 = i by omega] at this
    exact this.symm
theorem bits_loop (y : Int × S63) (hy : y.2 = ⟨B, (p : Int)⟩) (w i0 : Nat) (hw : w ≤ 64) (hi : i0 + w ≤ 8 * xs.length) :
    loop (fun s : Int × Int × Int => r03_Reader_Ints_l7 y (w : Int) s.1 s.2.1 s.2.2) ((i0 : Int), 0, 0) = some (((i0 + w : Nat) : Int), ((V 8 (toN xs) / 2 ^ i0 % 2 ^ w : Nat) : Int)) := by
  have := loop_to (b := fun s : Int × Int × Int => r03_Reader_Ints_l7 y (w : Int) s.1 s.2.1 s.2.2)
    (fun k => (((i0 + k : Nat) : Int), ((V 8 (toN xs) / 2 ^ i0 % 2 ^ k : Nat) : Int), (k : Int))) (t := (((i0 + w : Nat) : Int), ((V 8 (toN xs) / 2 ^ i0 % 2 ^ w : Nat) : Int))) w (fun k hk => by
    obtain ⟨b, h1, h2, h3⟩ := bit_at hp hx hBs hB hs (i := i0 + k) (by omega)
    have hms := mod_succ (V 8 (toN xs) / 2 ^ i0) k
    rw [bt_div] at hms
    have hb := bt_lt (V 8 (toN xs)) (i0 + k)
    have hlt : V 8 (toN xs) / 2 ^ i0 % 2 ^ (k + 1) < 2 ^ (k + 1) := Nat.mod_lt _ (Nat.two_pow_pos _)
    have hpw : 2 ^ (k + 1) ≤ 2 ^ 64 := Nat.pow_le_pow_right (by decide) (by omega)
    have e0 : b / 2 ^ ((i0 + k) % 8) ≤ b := Nat.div_le_self _ _
    have e1 : ishr .u8 (b : Int) (((i0 + k) % 8 : Nat) : Int) = ((b / 2 ^ ((i0 + k) % 8) : Nat) : Int) := ishr_nat (k := .u8) b ((i0 + k) % 8) (by show _ ≤ 8; omega)
    have e2 : (((b / 2 ^ ((i0 + k) % 8) : Nat) : Int)).tmod 2 = ((bt (V 8 (toN xs)) (i0 + k) : Nat) : Int) := by rw [← h3]; rfl
    show r03_Reader_Ints_l7 y (w : Int) ((i0 + k : Nat) : Int) ((V 8 (toN xs) / 2 ^ i0 % 2 ^ k : Nat) : Int) (k : Int) = some (.inl (((i0 + (k + 1) : Nat) : Int), ((V 8 (toN xs) / 2 ^ i0 % 2 ^ (k + 1) : Nat) : Int), ((k + 1 : Nat) : Int)))
    generalize V 8 (toN xs) / 2 ^ i0 % 2 ^ (k + 1) = vn at hms hlt ⊢
    generalize V 8 (toN xs) / 2 ^ i0 % 2 ^ k = vo at hms ⊢
    generalize bt (V 8 (toN xs)) (i0 + k) = bb at *
    have hbk : bb * 2 ^ k % 18446744073709551616 = bb * 2 ^ k := Nat.mod_eq_of_lt (by omega)
    unfold r03_Reader_Ints_l7
    rw [if_pos (by simp only [decide_eq_true_eq]; omega)]
    simp only [lt_, hy]
    rw [show (((i0 + k : Nat) : Int)).tdiv 8 = (((i0 + k) / 8 : Nat) : Int) from rfl, show (((i0 + k : Nat) : Int)).tmod 8 = (((i0 + k) % 8 : Nat) : Int) from rfl,
      w64 (n := (((i0 + k) / 8 : Nat) : Int)) (by omega) (by omega), w64 (n := (p : Int) + (((i0 + k) / 8 : Nat) : Int)) (by omega) (by omega), h1]
    simp only [Option.bind_some]
    rw [chk_pos (by omega), e1, e2, u64w (n := (bb : Int)) (by omega) (by omega), chk_pos (by omega), ishl_u64 _ _ (by omega), hbk, ← Int.natCast_add, ← hms, u64w (n := (vn : Int)) (by omega) (by omega),
      w64 (n := ((i0 + k : Nat) : Int) + 1) (by omega) (by omega), w64 (n := (k : Int) + 1) (by omega) (by omega)]
    rfl) (by
    show r03_Reader_Ints_l7 y (w : Int) ((i0 + w : Nat) : Int) ((V 8 (toN xs) / 2 ^ i0 % 2 ^ w : Nat) : Int) (w : Int) = _
    unfold r03_Reader_Ints_l7
    rw [if_neg (by simp)])
  simpa [Nat.mod_one] using this
theorem vals_loop (z y : Int × S63) (hy : y.2 = ⟨B, (p : Int)⟩) (n w : Nat) (hn : n ≤ 4096) (hw : w ≤ 64) (hi : n * w ≤ 8 * xs.length) :
    loop (fun s : List Int × Int × Int => r03_Reader_Ints_l6 (n : Int) z y (w : Int) s.1 s.2.1 s.2.2) ([], 0, 0) = some ((part n w (V 8 (toN xs))).map fun x => IntKind.i64.wrap (x + z.1), ((n * w : Nat) : Int)) := by
  have := loop_to (b := fun s : List Int × Int × Int => r03_Reader_Ints_l6 (n : Int) z y (w : Int) s.1 s.2.1 s.2.2)
    (fun k => ((part k w (V 8 (toN xs))).map fun x => IntKind.i64.wrap (x + z.1), ((k * w : Nat) : Int), (k : Int))) (t := ((part n w (V 8 (toN xs))).map fun x => IntKind.i64.wrap (x + z.1), ((n * w : Nat) : Int))) n (fun k hk => by
    have hkw : k * w + w ≤ n * w := by
      have : (k + 1) * w ≤ n * w := Nat.mul_le_mul_right _ hk
      rwa [Nat.add_mul, Nat.one_mul] at this
    have hkn : n * w ≤ 4096 * 64 := Nat.mul_le_mul hn hw
    have hb := bits_loop hp hx hBs hB hs y hy w (k * w) hw (by omega)
    have hpart : part (k + 1) w (V 8 (toN xs)) = part k w (V 8 (toN xs)) ++ [IntKind.i64.wrap ((V 8 (toN xs) / 2 ^ (k * w) % 2 ^ w : Nat) : Int)] := by
      unfold part
      rw [List.range_succ, List.map_append]; rfl
    have hlen : ((part k w (V 8 (toN xs))).map fun x => IntKind.i64.wrap (x + z.1)).length = k := by rw [List.length_map, part_length]
    show r03_Reader_Ints_l6 (n : Int) z y (w : Int) ((part k w (V 8 (toN xs))).map fun x => IntKind.i64.wrap (x + z.1)) ((k * w : Nat) : Int) (k : Int) = some (.inl ((part (k + 1) w (V 8 (toN xs))).map fun x => IntKind.i64.wrap (x + z.1), (((k + 1) * w : Nat) : Int), ((k + 1 : Nat) : Int)))
    rw [hpart, List.map_append, Nat.add_mul, Nat.one_mul]
    unfold r03_Reader_Ints_l6
    rw [if_pos (by simp only [decide_eq_true_eq]; omega), hb]
    simp only [Option.bind_some]
    unfold r03_Reader_Ints_x7_3 r03_Reader_Ints_b8
    simp only [lt_]
    rw [chk_pos (by rw [hlen]; simp; omega), w64 (n := (k : Int) + 1) (by omega) (by omega)]
    rfl) (by
    show r03_Reader_Ints_l6 (n : Int) z y (w : Int) _ ((n * w : Nat) : Int) (n : Int) = _
    unfold r03_Reader_Ints_l6
    rw [if_neg (by simp)])
  simpa [part] using this
theorem rest_loop (y : Int × S63) (hy : y.2 = ⟨B, (p : Int)⟩) (m : Nat) (hm : xs.length = (m + 7) / 8) :
    ∃ t, loop (fun s : Int => r03_Reader_Ints_l5 y s) (m : Int) = some t ∧ ((V 8 (toN xs) < 2 ^ m ∧ t = .inl ()) ∨ (¬ V 8 (toN xs) < 2 ^ m ∧ t = .inr ([], ⟨B, -1⟩))) := by
  have hL := V_lt (toN_lt hBs)
  have hvt : V 8 (toN xs) < 2 ^ (8 * xs.length) := by
    rw [show (toN xs).length = xs.length by simp [toN], Nat.mul_comm] at hL
    exact hL
  have hbit := fun (i : Nat) (hi : i < 8 * xs.length) => bit_at hp hx hBs hB hs (i := i) hi
  generalize V 8 (toN xs) = v at hbit hvt ⊢
  refine loop_good (b := fun s : Int => r03_Reader_Ints_l5 y s) (s := (m : Int))
    (fun s => ∃ i : Nat, s = (i : Int) ∧ m ≤ i ∧ i ≤ 8 * xs.length ∧ v % 2 ^ i < 2 ^ m) (fun s => (((8 * xs.length : Nat) : Int) - s).toNat)
    (fun t => (v < 2 ^ m ∧ t = .inl ()) ∨ (¬ v < 2 ^ m ∧ t = .inr ([], ⟨B, -1⟩))) ⟨m, rfl, Nat.le_refl _, by omega, Nat.mod_lt _ (Nat.two_pow_pos _)⟩ ?_
  rintro s ⟨i, rfl, hmi, hi, hv⟩
  unfold r03_Reader_Ints_l5
  simp only [lt_]
  rw [show ((i : Int)).tmod 8 = ((i % 8 : Nat) : Int) from rfl]
  by_cases h8 : i % 8 = 0
  · rw [h8, if_neg (by simp)]
    have hie : i = 8 * xs.length := by omega
    rw [hie, Nat.mod_eq_of_lt hvt] at hv
    exact .inr ⟨_, rfl, .inl ⟨hv, rfl⟩⟩
  · have hlt : i < 8 * xs.length := by omega
    obtain ⟨b, h1, h2, h3⟩ := hbit i hlt
    have e0 : b / 2 ^ (i % 8) ≤ b := Nat.div_le_self _ _
    have e1 : ishr .u8 (b : Int) ((i % 8 : Nat) : Int) = ((b / 2 ^ (i % 8) : Nat) : Int) := ishr_nat (k := .u8) b (i % 8) (by show _ ≤ 8; omega)
    have e2 : (((b / 2 ^ (i % 8) : Nat) : Int)).tmod 2 = ((bt v i : Nat) : Int) := by rw [← h3]; rfl
    have hms := mod_succ v i
    have hbl := bt_lt v i
    rw [if_pos (by simp only [bne_iff_ne, ne_eq]; omega), hy]
    rw [show ((i : Int)).tdiv 8 = ((i / 8 : Nat) : Int) from rfl, w64 (n := ((i / 8 : Nat) : Int)) (by omega) (by omega), w64 (n := (p : Int) + ((i / 8 : Nat) : Int)) (by omega) (by omega), h1]
    simp only [Option.bind_some]
    rw [chk_pos (by omega), e1, e2]
    by_cases hb0 : bt v i = 0
    · rw [hb0, if_neg (by decide), w64 (by omega) (by omega)]
      rw [hb0, Nat.zero_mul, Nat.add_zero] at hms
      exact .inl ⟨_, rfl, ⟨i + 1, rfl, by omega, by omega, by rw [hms]; exact hv⟩, by omega⟩
    · have hb1 : bt v i = 1 := by omega
      rw [hb1, if_pos (by decide)]
      refine .inr ⟨_, rfl, .inr ⟨fun hlt' => ?_, rfl⟩⟩
      have h1 : 2 ^ m ≤ 2 ^ i := Nat.pow_le_pow_right (by decide) (by omega)
      unfold bt at hb1
      rw [Nat.div_eq_of_lt (by omega)] at hb1
      cases hb1
end
theorem rInts_is {B : List Int} (hBs : Bs B) (hB : B.length < 1099511627776) {q : Nat} (hq : q ≤ B.length) : IsQ B (r03_Reader_Ints ⟨B, (q : Int)⟩) (pInts (B.drop q)) := by
  unfold r03_Reader_Ints pInts
  rcases (rByte_is B hq hB).cases with ⟨w, r, q1, h1, h2, h3, h4⟩ | ⟨h1, a, h2⟩
  · rw [h1, h2]
    obtain ⟨hw, hBr, hr⟩ := pB_bs (hBs.drop q) h1
    simp only [Option.bind_some]
    rw [← h4]
    rcases (rUint_is 4096 hBs hB h3).cases with ⟨n, r', q2, g1, g2, g3, g4⟩ | ⟨g1, a, g2⟩
    · rw [g1, g2]
      obtain ⟨p1, p2, p3⟩ := (pU_some g1).1
      obtain ⟨n, rfl⟩ : ∃ m : Nat, n = (m : Int) := ⟨n.toNat, by omega⟩
      simp only [Option.bind_some, lt_, Int.toNat_natCast]
      rw [w64 (by omega) (by omega), if_neg (by simp only [decide_eq_true_eq]; omega), ← g4]
      have hBr' := hBs.drop q2
      by_cases hw3 : w ≤ 3
      · rw [show decide (3 < w) = false by simp only [decide_eq_false_iff_not]; omega, if_pos hw3]
        unfold r03_Reader_Ints_j1 pBody
        rw [if_neg (by simp)]
        have conv : ∀ {t : List Int × Int × List Int} {p : Option (List Int × List Int)}, IsT B [] t p → IsQ B (some (t.2.2, (⟨t.1, t.2.1⟩ : S63))) p := by
          intro t p h
          cases p with
          | none => obtain ⟨a, rfl⟩ := h; exact ⟨a, rfl⟩
          | some x => obtain ⟨q', rfl, h1, h2⟩ := h; exact ⟨q', rfl, h1, h2⟩
        by_cases w0 : w = 0
        · rw [if_pos (by simpa using w0), if_pos w0]
          obtain ⟨t, ht, hm⟩ := rm_loop hBs hB n (by omega) n 0 q2 [] (by omega) rfl g3
          rw [show ((0 : Nat) : Int) = 0 from rfl] at ht
          rw [ht]
          exact conv hm
        rw [if_neg (by simpa using w0), if_neg w0]
        by_cases w1 : w = 1
        · rw [if_pos (by simpa using w1), if_pos w1]
          obtain ⟨t, ht, hm⟩ := rd_loop hBs hB n (by omega) n 0 q2 0 [] (by omega) rfl g3
          rw [show ((0 : Nat) : Int) = 0 from rfl] at ht
          rw [ht]
          exact conv hm
        rw [if_neg (by simpa using w1), if_neg w1]
        by_cases w2 : w = 2
        · rw [if_pos (by simpa using w2), if_pos w2]
          obtain ⟨t, ht, hm⟩ := rr_loop hBs hB n (by omega) n n q2 [] (by simp) (Nat.le_refl _) g3
          rw [ht]
          exact conv hm
        rw [if_neg (by simpa using w2), if_neg w2]
        by_cases hn0 : 0 < n
        · rw [if_neg (by simp; omega), if_pos hn0]
          unfold pP
          rcases (rInt_is hBs hB g3).cases with ⟨lo, r2, q3, k1, k2, k3, k4⟩ | ⟨k1, a, k2⟩
          · rw [k1, k2]
            simp only [Option.bind_some]
            rw [← k4]
            rcases (rByte_is B k3 hB).cases with ⟨wb, r3, q4, l1, l2, l3, l4⟩ | ⟨l1, a, l2⟩
            · rw [l1, l2]
              obtain ⟨hwb, hBr3, hr3⟩ := pB_bs (hBs.drop q3) l1
              obtain ⟨wd, rfl⟩ : ∃ m : Nat, wb = (m : Int) := ⟨wb.toNat, by omega⟩
              have hr3l : r3.length = B.length - q4 := by rw [← l4]; simp
              simp only [Option.bind_some, lt_, Int.toNat_natCast]
              rw [w64 (n := (wd : Int)) (by omega) (by omega), if_neg (by simp only [decide_eq_true_eq]; omega)]
              have hj : ∀ b, r03_Reader_Ints_j5 (n : Int) (lo, ⟨B, (q3 : Int)⟩) ((wd : Int), ⟨B, (q4 : Int)⟩) (wd : Int) true = b → b = some ([], ⟨B, -1⟩) := fun b h => h.symm
              by_cases hw64 : wd ≤ 64
              · have hnw : n * wd ≤ 4096 * 64 := Nat.mul_le_mul (by omega) hw64
                rw [if_neg (by simp only [decide_eq_true_eq]; omega), ← Int.natCast_mul, w64 (n := (B.length : Int) - (q4 : Int)) (by omega) (by omega), w64 (n := ((n * wd : Nat) : Int)) (by omega) (by omega), w64 (n := ((n * wd : Nat) : Int) + 7) (by omega) (by omega),
                  show (((n * wd : Nat) : Int) + 7).tdiv 8 = (((n * wd + 7) / 8 : Nat) : Int) from rfl, w64 (by omega) (by omega)]
                by_cases hlen : r3.length = (n * wd + 7) / 8
                · rw [show ((B.length : Int) - (q4 : Int) != (((n * wd + 7) / 8 : Nat) : Int)) = false by simp only [bne_eq_false_iff_eq]; omega]
                  unfold r03_Reader_Ints_j5
                  rw [if_neg (by simp), vals_loop l3 l4 hBr3 hB (by omega) _ _ rfl n wd (by omega) hw64 (by omega)]
                  simp only [Option.bind_some]
                  unfold r03_Reader_Ints_x6_1 r03_Reader_Ints_b6
                  obtain ⟨t, ht, hc⟩ := rest_loop l3 l4 hBr3 hB (by omega) ((wd : Int), (⟨B, (q4 : Int)⟩ : S63)) rfl (n * wd) hlen
                  rw [ht]
                  rcases hc with ⟨hv, rfl⟩ | ⟨hv, rfl⟩
                  · rw [if_pos ⟨by omega, hlen, hv⟩]
                    exact ⟨B.length, rfl, Nat.le_refl _, List.drop_length⟩
                  · rw [if_neg (fun c => hv c.2.2)]
                    exact ⟨_, rfl⟩
                · rw [show ((B.length : Int) - (q4 : Int) != (((n * wd + 7) / 8 : Nat) : Int)) = true by simp only [bne_iff_ne, ne_eq]; omega, if_neg (fun c => hlen c.2.1)]
                  exact ⟨_, rfl⟩
              · rw [if_pos (by simp only [decide_eq_true_eq]; omega), if_neg (fun c => hw64 (by omega))]
                exact ⟨_, rfl⟩
            · rw [l1, l2]
              simp only [Option.bind_some, lt_]
              rw [if_pos (by rfl)]
              exact ⟨_, rfl⟩
          · rw [k1, k2]
            simp only [Option.bind_some]
            rw [rByte_no]
            simp only [Option.bind_some, lt_]
            rw [if_pos (by rfl)]
            exact ⟨_, rfl⟩
        · have hn : n = 0 := by omega
          subst hn
          rw [if_pos (by rfl), if_neg (by omega)]
          exact ⟨q2, rfl, g3, rfl⟩
      · rw [show decide (3 < w) = true by simp only [decide_eq_true_eq]; omega, if_neg hw3]
        exact ⟨_, rfl⟩
    · rw [g1, g2]
      simp only [Option.bind_some, lt_]
      rw [if_pos (by rfl)]
      split
      · exact ⟨_, rfl⟩
      · exact ⟨_, rfl⟩
  · rw [h1, h2]
    simp only [Option.bind_some]
    rw [rUint_no]
    simp only [Option.bind_some, lt_]
    rw [if_pos (by rfl)]
    exact ⟨_, rfl⟩
theorem at_end {B r : List Int} {q : Nat} (hq : q ≤ B.length) (h : B.drop q = r) : ((q : Int) != (B.length : Int)) = !r.isEmpty := by
  subst h
  rw [Bool.eq_iff_iff]
  simp only [bne_iff_ne, ne_eq, Bool.not_eq_true', List.isEmpty_eq_false_iff, List.drop_eq_nil_iff]
  omega
theorem ReadInts_ref {xs : List Int} (hBs : Bs xs) (hB : xs.length < 1099511627776) : r03_ReadInts xs = some (match readL xs with | some l => (l, true) | none => ([], false)) := by
  unfold r03_ReadInts readL
  have h := rInts_is hBs hB (q := 0) (by omega)
  rw [List.drop_zero, show ((0 : Nat) : Int) = 0 from rfl] at h
  rcases h.cases with ⟨l, r, q, h1, h2, h3, h4⟩ | ⟨h1, a, h2⟩
  · rw [h1, h2]
    simp only [Option.bind_some]
    rw [at_end h3 h4]
    cases r with
    | nil => rfl
    | cons => rfl
  · rw [h1, h2]
    simp only [Option.bind_some]
    rw [if_pos (by simp only [bne_iff_ne, ne_eq]; omega)]
end Go.Proofs.YthokgnonmcgkcaaDoor.P
namespace Go.Proofs.YthokgnonmcgkcaaDoor.P
open Go Go.RowKit Go.Proofs.YthokgnonmcgkcaaDoor.E Go.Proofs.YthokgnonmcgkcaaDoor.M
set_option linter.unusedVariables false
set_option linter.unusedSectionVars false
def rises (acc : List (List UInt8)) (t : List UInt8) : Bool := match acc[acc.length - 1]? with
  | some y => Op.bytesLess y t
  | none => true
def pDict (acc : List (List UInt8)) : Nat → List Int → Option (List (List UInt8) × List Int)
  | 0, xs => some (acc, xs)
  | n + 1, xs => match pT 32 xs with
    | some (t, r) => if rises acc t = true then pDict (acc ++ [t]) n r else none
    | none => none
def okI (n : Nat) (ix : List Int) : Bool := ix.all fun i => decide (0 ≤ i ∧ i < (n : Int))
def usd (n : Nat) (ix : List Int) : List Bool := (List.range n).map fun (j : Nat) => decide ((j : Int) ∈ ix)
def tx (ds : List (List UInt8)) (ix : List Int) : List (List UInt8) := ix.map fun i => ds.getD i.toNat []
def pTexts (xs : List Int) : Option (List (List UInt8) × List Int) := match pU 4096 xs with
  | some (n, r) => match pDict [] n.toNat r with
    | some (ds, r') => match pInts r' with
      | some (ix, r'') => if okI ds.length ix = true ∧ false ∉ usd ds.length ix then some (tx ds ix, r'') else none
      | none => none
    | none => none
  | none => none
theorem pT_bs {most : Int} {xs r : List Int} {t : List UInt8} (hB : Bs xs) (h : pT most xs = some (t, r)) : Bs r ∧ r.length ≤ xs.length := by
  unfold pT at h
  split at h
  · rename_i n r' he
    obtain ⟨_, p, hp, _⟩ := pU_some he
    have hb := pU_bs hB he
    split at h
    · cases h
      refine ⟨hb.drop _, ?_⟩
      rw [hp]; simp; omega
    · cases h
  · cases h
theorem pDict_bs : ∀ (n : Nat) (acc : List (List UInt8)) (xs : List Int) {ds : List (List UInt8)} {r : List Int}, Bs xs → pDict acc n xs = some (ds, r) → Bs r ∧ r.length ≤ xs.length ∧ ds.length = acc.length + n
  | 0, acc, xs, ds, r, hB, h => by cases h; exact ⟨hB, Nat.le_refl _, rfl⟩
  | n + 1, acc, xs, ds, r, hB, h => by
    unfold pDict at h
    split at h
    · rename_i t r' he
      obtain ⟨h1, h2⟩ := pT_bs hB he
      split at h
      · obtain ⟨g1, g2, g3⟩ := pDict_bs n _ _ h1 h
        refine ⟨g1, by omega, ?_⟩
        rw [g3, List.length_append, List.length_singleton]; omega
      · cases h
    · cases h
theorem contains_eq (l : List Bool) (b : Bool) (h : l.length < 1099511627776) : slices_Contains_bool_bool l b = some (decide (b ∈ l)) := by
  unfold slices_Contains_bool_bool slices_Index_bool_bool
  have key : ∀ (m k : Nat), k + m = l.length → ∃ y, loop (fun s : Int => slices_Index_bool_bool_l1 l b s) (k : Int) = some y ∧ if b ∈ l.drop k then ∃ j : Nat, y = .inr (j : Int) else y = .inl () := by
    intro m
    induction m with
    | zero =>
      intro k hk
      refine ⟨.inl (), loop_end ?_, ?_⟩
      · unfold slices_Index_bool_bool_l1
        rw [if_neg (by simp only [decide_eq_true_eq]; omega)]
      · rw [List.drop_of_length_le (by omega), if_neg (by simp)]
    | succ m ih =>
      intro k hk
      have hkl : k < l.length := by omega
      have hx := List.getElem?_eq_getElem hkl
      have hd : l.drop k = l[k] :: l.drop (k + 1) := List.drop_eq_getElem_cons hkl
      rw [hd]
      by_cases hb : b = l[k]
      · refine ⟨.inr (k : Int), loop_end ?_, ?_⟩
        · unfold slices_Index_bool_bool_l1
          rw [if_pos (by simp only [decide_eq_true_eq]; omega), at_int rfl hx]
          simp only [Option.bind_some]
          rw [if_pos (by simpa using hb)]
        · rw [if_pos (by rw [hb]; exact List.mem_cons_self)]
          exact ⟨k, rfl⟩
      · obtain ⟨y, hy, hm⟩ := ih (k + 1) (by omega)
        refine ⟨y, (loop_nxt (s' := ((k + 1 : Nat) : Int)) ?_).trans hy, ?_⟩
        · unfold slices_Index_bool_bool_l1
          rw [if_pos (by simp only [decide_eq_true_eq]; omega), at_int rfl hx]
          simp only [Option.bind_some]
          rw [if_neg (by simpa using hb), lt_, w64 (by omega) (by omega)]
          rfl
        · have he : (b ∈ l[k] :: l.drop (k + 1)) = (b ∈ l.drop (k + 1)) := propext ⟨fun h => (List.mem_cons.1 h).resolve_left hb, fun h => List.mem_cons_of_mem _ h⟩
          simpa only [he] using hm
  obtain ⟨y, hy, hm⟩ := key l.length 0 (by omega)
  rw [show ((0 : Nat) : Int) = 0 from rfl] at hy
  rw [hy, List.drop_zero] at *
  by_cases hb : b ∈ l
  · rw [if_pos hb] at hm
    obtain ⟨j, rfl⟩ := hm
    simp only [Option.bind_some]
    rw [show decide (0 ≤ (j : Int)) = true by simp, show decide (b ∈ l) = true by simpa using hb]
  · rw [if_neg hb] at hm
    subst hm
    rw [show decide (b ∈ l) = false by simpa using hb]
    rfl
theorem okI_snoc (n : Nat) (ix : List Int) (k : Nat) {x : Int} (h : ix[k]? = some x) : okI n (ix.take (k + 1)) = (okI n (ix.take k) && decide (0 ≤ x ∧ x < (n : Int))) := by
  unfold okI
  rw [take_snoc h, List.all_append]
  simp
theorem okI_take {n : Nat} {ix : List Int} (h : okI n ix = true) (k : Nat) : okI n (ix.take k) = true := by
  unfold okI at *
  rw [List.all_eq_true] at *
  exact fun x hx => h x (List.mem_of_mem_take hx)
theorem usd_snoc (n : Nat) (ix : List Int) {x : Int} (hx : 0 ≤ x ∧ x < (n : Int)) : usd n (ix ++ [x]) = (usd n ix).set x.toNat true := by
  apply List.ext_getElem? fun j => ?_
  unfold usd
  rw [List.getElem?_set]
  simp only [List.getElem?_map, List.length_map, List.length_range]
  rcases Nat.lt_or_ge j n with hj | hj
  · rw [List.getElem?_range hj]
    by_cases e : x.toNat = j
    · rw [if_pos e, if_pos (by omega)]
      simp
      right; omega
    · rw [if_neg e]
      have : ¬ (j : Int) = x := by omega
      simp [this]
  · rw [List.getElem?_eq_none (by simpa using hj)]
    rw [if_neg (by omega)]
    rfl
theorem usd_nil (n : Nat) : usd n [] = List.replicate n false := by
  unfold usd
  rw [List.eq_replicate_iff]
  refine ⟨by simp, fun b hb => ?_⟩
  obtain ⟨q, _, rfl⟩ := List.mem_map.1 hb
  simp
theorem usd_length (n : Nat) (ix : List Int) : (usd n ix).length = n := by simp [usd]
theorem usd_at (n : Nat) (ix : List Int) {x : Int} (hx : 0 ≤ x ∧ x < (n : Int)) : ∃ b, at_ (usd n ix) x = some b := by
  have : x.toNat < (usd n ix).length := by rw [usd_length]; omega
  exact ⟨_, at_int (n := x.toNat) (by omega) (List.getElem?_eq_getElem this)⟩
theorem ds_at (ds : List (List UInt8)) {x : Int} (hx : 0 ≤ x ∧ x < (ds.length : Int)) : at_ ds x = some (ds.getD x.toNat []) := by
  have : x.toNat < ds.length := by omega
  refine at_int (n := x.toNat) (by omega) ?_
  rw [List.getD_eq_getElem?_getD, List.getElem?_eq_getElem this]
  rfl
theorem tx_snoc (ds : List (List UInt8)) (ix : List Int) (x : Int) : tx ds (ix ++ [x]) = tx ds ix ++ [ds.getD x.toNat []] := by
  unfold tx; rw [List.map_append]; rfl
theorem tx_length (ds : List (List UInt8)) (ix : List Int) : (tx ds ix).length = ix.length := by simp [tx]
theorem cidx_loop (ds : List (List UInt8)) (ix : List Int) (Y : S86) (xs : List Int) (hl : ix.length ≤ 4096) : ∀ (m k : Nat), k + m = ix.length → okI ds.length (ix.take k) = true →
    ∃ y, loop (fun s : List Int × List (List UInt8) × List Bool × Int => column_ReadTexts_1_l1 ds (ix, Y) s.1 s.2.1 s.2.2.1 s.2.2.2) (xs, tx ds (ix.take k), usd ds.length (ix.take k), (k : Int)) = some y ∧
      if okI ds.length ix = true then y = .inl (xs, tx ds ix, usd ds.length ix) else ∃ s, y = .inr (.inr s)
  | 0, k, hk, ha => by
    have hke : k = ix.length := by omega
    subst hke
    rw [List.take_length] at ha ⊢
    refine ⟨.inl (xs, tx ds ix, usd ds.length ix), loop_end ?_, by rw [if_pos ha]⟩
    show column_ReadTexts_1_l1 ds (ix, Y) xs (tx ds ix) (usd ds.length ix) (ix.length : Int) = _
    unfold column_ReadTexts_1_l1
    rw [if_neg (by simp)]
  | m + 1, k, hk, ha => by
    have hkl : k < ix.length := by omega
    have hx := List.getElem?_eq_getElem hkl
    have hok := okI_snoc ds.length ix k hx
    have hno : ∀ s, column_ReadTexts_1_l1 ds (ix, Y) xs (tx ds (ix.take k)) (usd ds.length (ix.take k)) (k : Int) = some (.inr (.inr (.inr s))) → ¬ (0 ≤ ix[k] ∧ ix[k] < (ds.length : Int)) →
        ∃ y, loop (fun s : List Int × List (List UInt8) × List Bool × Int => column_ReadTexts_1_l1 ds (ix, Y) s.1 s.2.1 s.2.2.1 s.2.2.2) (xs, tx ds (ix.take k), usd ds.length (ix.take k), (k : Int)) = some y ∧
      if okI ds.length ix = true then y = .inl (xs, tx ds ix, usd ds.length ix) else ∃ s, y = .inr (.inr s) := by
      intro s hs hn
      refine ⟨_, loop_end hs, ?_⟩
      rw [if_neg]
      · exact ⟨_, rfl⟩
      · intro h
        have := okI_take h (k + 1)
        rw [hok] at this
        simp only [Bool.and_eq_true, decide_eq_true_eq] at this
        exact hn this.2
    by_cases h0 : 0 ≤ ix[k]
    · by_cases h1 : ix[k] < (ds.length : Int)
      · obtain ⟨b, hb⟩ := usd_at ds.length (ix.take k) ⟨h0, h1⟩
        obtain ⟨y, hy, hm⟩ := cidx_loop ds ix Y xs hl m (k + 1) (by omega) (by rw [hok, ha]; simp [h0, h1])
        rw [take_snoc hx, tx_snoc, usd_snoc _ _ ⟨h0, h1⟩] at hy
        refine ⟨y, (loop_nxt (s' := (xs, tx ds (ix.take k) ++ [ds.getD ix[k].toNat []], (usd ds.length (ix.take k)).set ix[k].toNat true, ((k + 1 : Nat) : Int))) ?_).trans hy, hm⟩
        show column_ReadTexts_1_l1 ds (ix, Y) xs (tx ds (ix.take k)) (usd ds.length (ix.take k)) (k : Int) = _
        unfold column_ReadTexts_1_l1
        rw [if_pos (by simp only [decide_eq_true_eq]; omega), at_int rfl hx]
        simp only [Option.bind_some]
        rw [if_pos (by simpa using h0), show decide (ix[k] < (ds.length : Int)) = true by simpa using h1, Check_t]
        simp only [Option.bind_some, s_inl]
        unfold column_ReadTexts_1_j1
        rw [hb, ds_at _ ⟨h0, h1⟩]
        simp only [Option.bind_some]
        rw [chk_pos (by rw [tx_length]; simp; omega), lt_, w64 (by omega) (by omega)]
        rfl
      · refine hno (⟨xs⟩, tx ds (ix.take k)) ?_ (fun c => h1 c.2)
        unfold column_ReadTexts_1_l1
        rw [if_pos (by simp only [decide_eq_true_eq]; omega), at_int rfl hx]
        simp only [Option.bind_some]
        rw [if_pos (by simpa using h0), show decide (ix[k] < (ds.length : Int)) = false by simpa using h1, Check_f]
        rfl
    · refine hno (⟨xs⟩, tx ds (ix.take k)) ?_ (fun c => h0 c.1)
      unfold column_ReadTexts_1_l1
      rw [if_pos (by simp only [decide_eq_true_eq]; omega), at_int rfl hx]
      simp only [Option.bind_some]
      rw [if_neg (by simpa using h0), Check_f]
      rfl
theorem cdict_loop (Y : Int × S86) (n : Nat) (hY : Y.1 = (n : Int)) (hn : n ≤ 4096) : ∀ (m k : Nat) (acc : List (List UInt8)) (xs : List Int), Bs xs → xs.length < 1099511627776 → k + m = n → acc.length = k →
    ∃ y, loop (fun s : List Int × List (List UInt8) × Int => column_ReadTexts_1_l2 [] Y s.1 s.2.1 s.2.2) (xs, acc, (k : Int)) = some y ∧ match pDict acc m xs with
      | some (l, r) => y = .inl (r, l)
      | none => ∃ s, y = .inr (.inr s)
  | 0, k, acc, xs, hB, hl, hk, ha => by
    refine ⟨.inl (xs, acc), loop_end ?_, rfl⟩
    show column_ReadTexts_1_l2 [] Y xs acc (k : Int) = _
    unfold column_ReadTexts_1_l2
    rw [hY, if_neg (by simp only [decide_eq_true_eq]; omega)]
  | m + 1, k, acc, xs, hB, hl, hk, ha => by
    unfold pDict
    rcases (Text_is 32 hB (by omega)).cases with ⟨t, r, h1, h2⟩ | ⟨h1, s, h2⟩
    · rw [h1]
      obtain ⟨hBr, hlr⟩ := pT_bs hB h1
      have hl2 : ∀ (z : S86 ⊕ S86), column_Reader_Check (⟨r⟩ : S86) (rises acc t) = some z → column_ReadTexts_1_l2 [] Y xs acc (k : Int) = (sum_ z (fun y => column_ReadTexts_1_j2 acc (k : Int) (t, ⟨r⟩) y.f0) (fun y => some (.inr (.inr (.inr (y, [])))))) := by
        intro z hz
        unfold column_ReadTexts_1_l2
        rw [hY, if_pos (by simp only [decide_eq_true_eq]; omega), h2]
        simp only [Option.bind_some, s_inl, lt_]
        unfold rises at hz
        by_cases h0 : acc.length = 0
        · rw [List.getElem?_eq_none (by omega)] at hz
          rw [if_pos (by simpa using h0), hz]
          rfl
        · have hx := List.getElem?_eq_getElem (l := acc) (i := acc.length - 1) (by omega)
          rw [hx] at hz
          rw [if_neg (by simpa using h0), w64 (by omega) (by omega), at_int (n := acc.length - 1) (by omega) hx]
          simp only [Option.bind_some]
          rw [hz]
          rfl
      by_cases hr : rises acc t = true
      · obtain ⟨y, hy, hm⟩ := cdict_loop Y n hY hn m (k + 1) (acc ++ [t]) r hBr (by omega) (by omega) (by simp [ha])
        simp only [hr, if_true]
        refine ⟨y, (loop_nxt (s' := (r, acc ++ [t], ((k + 1 : Nat) : Int))) ?_).trans hy, hm⟩
        refine (hl2 _ (by rw [hr, Check_t])).trans ?_
        rw [s_inl]
        unfold column_ReadTexts_1_j2
        rw [chk_pos (by simp; omega), lt_, u64w (by omega) (by omega)]
        rfl
      · rw [Bool.not_eq_true] at hr
        simp only [hr, Bool.false_eq_true, if_false]
        exact ⟨_, loop_end ((hl2 _ (by rw [hr, Check_f])).trans rfl), _, rfl⟩
    · rw [h1]
      refine ⟨_, loop_end (t := Sum.inr (.inr (s, []))) ?_, _, rfl⟩
      show column_ReadTexts_1_l2 [] Y xs acc (k : Int) = _
      unfold column_ReadTexts_1_l2
      rw [hY, if_pos (by simp only [decide_eq_true_eq]; omega), h2]
      rfl
theorem texts_is {xs : List Int} (hB : Bs xs) (hl : xs.length < 1099511627776) : match pTexts xs with
    | some (T, r) => column_ReadTexts_1 ⟨xs⟩ [] = some (.inl (⟨r⟩, T))
    | none => ∃ s, column_ReadTexts_1 ⟨xs⟩ [] = some (.inr s) := by
  unfold column_ReadTexts_1 pTexts
  rcases (Uint_is 4096 hB).cases with ⟨n, r, h1, h2⟩ | ⟨h1, s, h2⟩
  · rw [h1, h2]
    obtain ⟨⟨q1, q2, q3⟩, p, hp, _⟩ := pU_some h1
    have hBr := pU_bs hB h1
    have hrl : r.length ≤ xs.length := by rw [hp]; simp
    obtain ⟨n, rfl⟩ : ∃ m : Nat, n = (m : Int) := ⟨n.toNat, by omega⟩
    simp only [Option.bind_some, s_inl, Int.toNat_natCast]
    obtain ⟨y, hy, hm⟩ := cdict_loop ((n : Int), ⟨r⟩) n rfl (by omega) n 0 [] r hBr (by omega) (by omega) rfl
    rw [show ((0 : Nat) : Int) = 0 from rfl] at hy
    rw [hy]
    simp only [Option.bind_some]
    cases hd : pDict [] n r with
    | none =>
      rw [hd] at hm
      obtain ⟨s, rfl⟩ := hm
      exact ⟨s, rfl⟩
    | some z =>
      obtain ⟨ds, r'⟩ := z
      rw [hd] at hm
      simp only at hm
      subst hm
      obtain ⟨hBr', hrl', hdl⟩ := pDict_bs n _ _ hBr hd
      have hdl' : ds.length = n := by simpa using hdl
      simp only
      unfold column_ReadTexts_1_x2_0 column_ReadTexts_1_b1
      rw [chk_pos (by omega)]
      rcases (ints_is hBr' (by omega)).cases with ⟨ix, r'', h3, h4⟩ | ⟨h3, s, h4⟩
      · rw [h3, h4]
        have hil := pInts_len h3
        simp only [Option.bind_some, s_inl]
        obtain ⟨y, hy, hm⟩ := cidx_loop ds ix ⟨r''⟩ r'' hil ix.length 0 (by omega) rfl
        rw [List.take_zero, usd_nil, show ((0 : Nat) : Int) = 0 from rfl] at hy
        rw [Int.toNat_natCast]
        have e0 : tx ds [] = [] := rfl
        rw [e0] at hy
        rw [hy]
        simp only [Option.bind_some]
        by_cases hok : okI ds.length ix = true
        · rw [if_pos hok] at hm
          subst hm
          simp only
          unfold column_ReadTexts_1_x1_2 column_ReadTexts_1_b2
          rw [contains_eq _ _ (by rw [usd_length]; omega)]
          simp only [Option.bind_some]
          by_cases hu : false ∈ usd ds.length ix
          · rw [show decide (false ∈ usd ds.length ix) = true by simpa using hu, Bool.not_true, Check_f, if_neg (fun c => c.2 hu)]
            exact ⟨_, rfl⟩
          · rw [show decide (false ∈ usd ds.length ix) = false by simpa using hu, Bool.not_false, Check_t, if_pos ⟨hok, hu⟩]
            rfl
        · rw [if_neg hok] at hm
          obtain ⟨s, rfl⟩ := hm
          rw [if_neg (fun c => hok c.1)]
          exact ⟨s, rfl⟩
      · rw [h3, h4]
        exact ⟨_, rfl⟩
  · rw [h1, h2]
    exact ⟨_, rfl⟩
def readT (xs : List Int) : Option (List (List UInt8)) := match pTexts xs with
  | some (T, []) => some T
  | _ => none
theorem ReadTexts_col {xs : List Int} (hB : Bs xs) (hl : xs.length < 1099511627776) : column_ReadTexts xs = some (match readT xs with | some T => (T, 0) | none => ([], 3)) := by
  unfold column_ReadTexts Try_column_ReadTexts_1 readT
  have h := texts_is hB hl
  cases hp : pTexts xs with
  | none =>
    rw [hp] at h
    obtain ⟨s, hs⟩ := h
    rw [hs]
    rfl
  | some z =>
    obtain ⟨T, r⟩ := z
    rw [hp] at h
    simp only at h
    rw [h]
    cases r with
    | nil => rfl
    | cons b r =>
      simp only [Option.bind_some, s_inl]
      rw [show (((b :: r).length : Int) == 0) = false by simp; omega]
      rfl
end Go.Proofs.YthokgnonmcgkcaaDoor.P
namespace Go.Proofs.YthokgnonmcgkcaaDoor.P
open Go Go.RowKit Go.Proofs.YthokgnonmcgkcaaDoor.E Go.Proofs.YthokgnonmcgkcaaDoor.M
set_option linter.unusedVariables false
set_option linter.unusedSectionVars false
theorem rdict_loop {B : List Int} (hBs : Bs B) (hB : B.length < 1099511627776) (Y : Int × S63) (n : Nat) (hY : Y.1 = (n : Int)) (hn : n ≤ 4096) : ∀ (m k q : Nat) (acc : List (List UInt8)), k + m = n → acc.length = k → q ≤ B.length →
    ∃ t, loop (fun s : List Int × Int × List (List UInt8) × Int => r03_ReadTexts_l3 Y s.1 s.2.1 s.2.2.1 s.2.2.2) (B, (q : Int), acc, (k : Int)) = some t ∧ match pDict acc m (B.drop q) with
      | some (l, r) => ∃ q' : Nat, t = .inl (B, (q' : Int), l) ∧ q' ≤ B.length ∧ B.drop q' = r
      | none => t = .inr ([], false) ∨ ∃ a, t = .inl (B, -1, a)
  | 0, k, q, acc, hk, ha, hq => by
    refine ⟨.inl (B, (q : Int), acc), loop_end ?_, q, rfl, hq, rfl⟩
    show r03_ReadTexts_l3 Y B (q : Int) acc (k : Int) = _
    unfold r03_ReadTexts_l3
    rw [hY, if_neg (by simp only [decide_eq_true_eq]; omega)]
    rfl
  | m + 1, k, q, acc, hk, ha, hq => by
    have hl3 : ∀ (t : List UInt8) (z : S63), r03_Reader_Text ⟨B, (q : Int)⟩ 32 = some (t, z) → r03_ReadTexts_l3 Y B (q : Int) acc (k : Int) = if rises acc t = true then some (.inl (z.f0, z.f1, acc ++ [t], ((k + 1 : Nat) : Int))) else some (.inr (.inr ([], false))) := by
      intro t z ht
      unfold r03_ReadTexts_l3 r03_ReadTexts_j2
      rw [hY, if_pos (by simp only [decide_eq_true_eq]; omega), if_pos (by simp only [decide_eq_true_eq]; omega), ht]
      simp only [Option.bind_some, lt_]
      have hj : r03_ReadTexts_j3 acc (k : Int) (t, z) (!rises acc t) = if rises acc t = true then some (.inl (z.f0, z.f1, acc ++ [t], ((k + 1 : Nat) : Int))) else some (.inr (.inr ([], false))) := by
        unfold r03_ReadTexts_j3
        cases rises acc t with
        | true =>
          rw [if_neg (by simp), if_pos rfl, chk_pos (by simp; omega), lt_, u64w (by omega) (by omega)]
          rfl
        | false => rfl
      rw [← hj]
      by_cases h0 : 0 < k
      · obtain ⟨y, hx⟩ : ∃ y, acc[k - 1]? = some y := ⟨_, List.getElem?_eq_getElem (by omega)⟩
        rw [if_pos (by simp only [decide_eq_true_eq]; omega), u64w (by omega) (by omega), at_int (n := k - 1) (by omega) hx]
        simp only [Option.bind_some]
        unfold rises
        rw [ha, hx]
      · rw [if_neg (by simp only [decide_eq_true_eq]; omega)]
        unfold rises
        rw [List.getElem?_eq_none (by omega)]
        rfl
    have hend : ∀ (a : List (List UInt8)) (j : Int), loop (fun s : List Int × Int × List (List UInt8) × Int => r03_ReadTexts_l3 Y s.1 s.2.1 s.2.2.1 s.2.2.2) (B, -1, a, j) = some (.inl (B, -1, a)) := by
      intro a j
      refine loop_end ?_
      show r03_ReadTexts_l3 Y B (-1) a j = _
      unfold r03_ReadTexts_l3
      split <;> rfl
    unfold pDict
    rcases (rText_is 32 hBs hB hq).cases with ⟨t, r, q', h1, h2, h3, h4⟩ | ⟨h1, t, h2⟩
    · rw [h1]
      have hl := hl3 _ _ h2
      by_cases hr : rises acc t = true
      · rw [if_pos hr] at hl
        simp only [hr, if_true]
        obtain ⟨y, hy, hm⟩ := rdict_loop hBs hB Y n hY hn m (k + 1) q' (acc ++ [t]) (by omega) (by simp [ha]) h3
        rw [h4] at hm
        exact ⟨y, (loop_nxt (s' := (B, (q' : Int), acc ++ [t], ((k + 1 : Nat) : Int))) hl).trans hy, hm⟩
      · rw [if_neg hr] at hl
        rw [Bool.not_eq_true] at hr
        simp only [hr, Bool.false_eq_true, if_false]
        exact ⟨_, loop_end hl, .inl rfl⟩
    · rw [h1]
      have hl := hl3 _ _ h2
      by_cases hr : rises acc t = true
      · rw [if_pos hr] at hl
        exact ⟨_, (loop_nxt (s' := (B, -1, acc ++ [t], ((k + 1 : Nat) : Int))) hl).trans (hend _ _), .inr ⟨_, rfl⟩⟩
      · rw [if_neg hr] at hl
        exact ⟨_, loop_end hl, .inl rfl⟩
theorem ridx_loop (ds : List (List UInt8)) (ix : List Int) (Z : S63) (hl : ix.length ≤ 4096) : ∀ (m k : Nat), k + m = ix.length → okI ds.length (ix.take k) = true →
    loop (fun s : List Bool × List (List UInt8) × Int => r03_ReadTexts_l2 ds (ix, Z) s.1 s.2.1 s.2.2) (usd ds.length (ix.take k), tx ds (ix.take k), (k : Int)) = some (if okI ds.length ix = true then .inl (usd ds.length ix, tx ds ix) else .inr ([], false))
  | 0, k, hk, ha => by
    have hke : k = ix.length := by omega
    subst hke
    rw [List.take_length] at ha ⊢
    rw [if_pos ha]
    refine loop_end ?_
    show r03_ReadTexts_l2 ds (ix, Z) (usd ds.length ix) (tx ds ix) (ix.length : Int) = _
    unfold r03_ReadTexts_l2
    rw [if_neg (by simp)]
  | m + 1, k, hk, ha => by
    have hkl : k < ix.length := by omega
    have hx := List.getElem?_eq_getElem hkl
    have hok := okI_snoc ds.length ix k hx
    have hl2 : r03_ReadTexts_l2 ds (ix, Z) (usd ds.length (ix.take k)) (tx ds (ix.take k)) (k : Int) = r03_ReadTexts_j1 ds (ix, Z) (usd ds.length (ix.take k)) (tx ds (ix.take k)) (k : Int) (!decide (0 ≤ ix[k] ∧ ix[k] < (ds.length : Int))) := by
      unfold r03_ReadTexts_l2
      rw [if_pos (by simp only [decide_eq_true_eq]; omega), at_int rfl hx]
      simp only [Option.bind_some]
      by_cases h0 : 0 ≤ ix[k]
      · rw [if_neg (by simp only [decide_eq_true_eq]; omega)]
        congr 1
        rw [Bool.eq_iff_iff]
        simp [h0]
      · rw [if_pos (by simp only [decide_eq_true_eq]; omega)]
        congr 1
        simp [h0]
    by_cases hc : 0 ≤ ix[k] ∧ ix[k] < (ds.length : Int)
    · obtain ⟨b, hb⟩ := usd_at ds.length (ix.take k) hc
      have ih := ridx_loop ds ix Z hl m (k + 1) (by omega) (by rw [hok, ha]; simp [hc])
      rw [← ih, take_snoc hx, tx_snoc, usd_snoc _ _ hc]
      refine loop_nxt (hl2.trans ?_)
      rw [show decide (0 ≤ ix[k] ∧ ix[k] < (ds.length : Int)) = true by simpa using hc]
      unfold r03_ReadTexts_j1
      rw [if_neg (by simp), at_int rfl hx]
      simp only [Option.bind_some]
      rw [hb, ds_at _ hc]
      simp only [Option.bind_some]
      rw [chk_pos (by rw [tx_length]; simp; omega), lt_, w64 (by omega) (by omega)]
      rfl
    · rw [if_neg (fun h => hc (by have := okI_take h (k + 1); rw [hok] at this; simp only [Bool.and_eq_true, decide_eq_true_eq] at this; exact this.2))]
      refine loop_end (hl2.trans ?_)
      rw [show decide (0 ≤ ix[k] ∧ ix[k] < (ds.length : Int)) = false by simpa using hc]
      rfl
theorem rall_loop (u : List Bool) (h : u.length < 1099511627776) : loop (fun s : Int => r03_ReadTexts_l1 u s) 0 = some (if false ∈ u then .inr ([], false) else .inl ()) := by
  have key : ∀ (m k : Nat), k + m = u.length → loop (fun s : Int => r03_ReadTexts_l1 u s) (k : Int) = some (if false ∈ u.drop k then .inr ([], false) else .inl ()) := by
    intro m
    induction m with
    | zero =>
      intro k hk
      rw [List.drop_of_length_le (by omega), if_neg (by simp)]
      refine loop_end ?_
      unfold r03_ReadTexts_l1
      rw [if_neg (by simp only [decide_eq_true_eq]; omega)]
    | succ m ih =>
      intro k hk
      have hkl : k < u.length := by omega
      have hx := List.getElem?_eq_getElem hkl
      have hd : u.drop k = u[k] :: u.drop (k + 1) := List.drop_eq_getElem_cons hkl
      rw [hd]
      generalize u[k] = b at hx hd ⊢
      cases b with
      | false =>
        rw [if_pos List.mem_cons_self]
        refine loop_end ?_
        unfold r03_ReadTexts_l1
        rw [if_pos (by simp only [decide_eq_true_eq]; omega), at_int rfl hx]
        rfl
      | true =>
        have he : (false ∈ true :: u.drop (k + 1)) = (false ∈ u.drop (k + 1)) := by simp
        simp only [he]
        rw [← ih (k + 1) (by omega)]
        refine loop_nxt ?_
        unfold r03_ReadTexts_l1
        rw [if_pos (by simp only [decide_eq_true_eq]; omega), at_int rfl hx]
        simp only [Option.bind_some]
        rw [if_neg (by simp), lt_, w64 (by omega) (by omega)]
        rfl
  have := key u.length 0 (by omega)
  rwa [List.drop_zero] at this
theorem rInts_no (B : List Int) : ∃ a, r03_Reader_Ints ⟨B, -1⟩ = some (a, ⟨B, -1⟩) := by
  unfold r03_Reader_Ints
  rw [rByte_no]
  simp only [Option.bind_some]
  rw [rUint_no]
  exact ⟨_, rfl⟩
theorem ReadTexts_ref {xs : List Int} (hBs : Bs xs) (hB : xs.length < 1099511627776) : r03_ReadTexts xs = some (match readT xs with | some T => (T, true) | none => ([], false)) := by
  unfold r03_ReadTexts readT pTexts
  have h := rUint_is 4096 hBs hB (q := 0) (by omega)
  rw [List.drop_zero, show ((0 : Nat) : Int) = 0 from rfl] at h
  have hno : ∀ a, r03_ReadTexts_x3_0 xs xs (-1) a = some ([], false) := by
    intro a
    unfold r03_ReadTexts_x3_0 r03_ReadTexts_b1
    obtain ⟨b, hb⟩ := rInts_no xs
    rw [hb]
    simp only [Option.bind_some]
    rw [if_pos (by simp only [bne_iff_ne, ne_eq]; omega)]
  rcases h.cases with ⟨n, r, q, h1, h2, h3, h4⟩ | ⟨h1, a, h2⟩
  · rw [h1, h2]
    obtain ⟨p1, p2, p3⟩ := (pU_some h1).1
    obtain ⟨n, rfl⟩ : ∃ m : Nat, n = (m : Int) := ⟨n.toNat, by omega⟩
    simp only [Option.bind_some, Int.toNat_natCast]
    obtain ⟨t, ht, hm⟩ := rdict_loop hBs hB ((n : Int), (⟨xs, (q : Int)⟩ : S63)) n rfl (by omega) n 0 q [] (by omega) rfl h3
    rw [show ((0 : Nat) : Int) = 0 from rfl] at ht
    rw [ht]
    rw [h4] at hm
    cases hd : pDict [] n r with
    | none =>
      rw [hd] at hm
      rcases hm with rfl | ⟨a, rfl⟩
      · rfl
      · exact hno a
    | some z =>
      obtain ⟨ds, r'⟩ := z
      rw [hd] at hm
      obtain ⟨q', rfl, g1, g2⟩ := hm
      have hdl := (pDict_bs n _ _ (by rw [← h4]; exact hBs.drop q) hd).2.2
      simp only [List.length_nil, Nat.zero_add] at hdl
      simp only [Option.bind_some]
      unfold r03_ReadTexts_x3_0 r03_ReadTexts_b1
      rcases (rInts_is hBs hB g1).cases with ⟨ix, r'', q'', k1, k2, k3, k4⟩ | ⟨k1, a, k2⟩
      · rw [g2] at k1
        rw [k1, k2]
        simp only [Option.bind_some]
        rw [at_end k3 k4]
        cases r'' with
        | cons b r'' =>
          rw [if_pos (by rfl)]
          by_cases hc : okI ds.length ix = true ∧ ¬ false ∈ usd ds.length ix
          · rw [if_pos hc]
          · rw [if_neg hc]
        | nil =>
          rw [if_neg (by simp), chk_pos (by omega)]
          have hil := pInts_len k1
          have hloop := ridx_loop ds ix ⟨xs, (q'' : Int)⟩ hil ix.length 0 (by omega) rfl
          rw [List.take_zero, usd_nil, show ((0 : Nat) : Int) = 0 from rfl] at hloop
          have e0 : tx ds [] = [] := rfl
          rw [e0] at hloop
          rw [Int.toNat_natCast, hloop]
          simp only [Option.bind_some]
          by_cases hok : okI ds.length ix = true
          · rw [if_pos hok]
            simp only
            unfold r03_ReadTexts_x2_2 r03_ReadTexts_b2
            rw [rall_loop _ (by rw [usd_length]; omega)]
            by_cases hu : false ∈ usd ds.length ix
            · rw [if_pos hu, if_neg (fun c => c.2 hu)]
              rfl
            · rw [if_neg hu, if_pos ⟨hok, hu⟩]
              rfl
          · rw [if_neg hok, if_neg (fun c => hok c.1)]
      · rw [g2] at k1
        rw [k1, k2]
        simp only [Option.bind_some]
        rw [if_pos (by simp only [bne_iff_ne, ne_eq]; omega)]
  · have e := rUint_none 4096 hBs hB (q := 0) (by omega) (by rw [List.drop_zero]; exact h1)
    rw [show ((0 : Nat) : Int) = 0 from rfl] at e
    rw [e, h1]
    simp only [Option.bind_some]
    rw [loop_end (t := Sum.inl (xs, -1, [])) (by
      show r03_ReadTexts_l3 (0, ⟨xs, -1⟩) xs (-1) [] 0 = _
      rfl)]
    exact hno []
theorem rreals_loop (l : List Int) (ok : Bool) (h : l.length ≤ 4096) : ∀ (m k : Nat), k + m = l.length → (∀ b ∈ l.take k, canon (ub b) = ub b) →
    loop (fun s : List Nat × Int => r03_ReadReals_l1 (l, ok) s.1 s.2) ((l.take k).map ub, (k : Int)) = some (if (l.drop k).all (fun b => canon (ub b) == ub b) = true then .inl (l.map ub) else .inr ([], false))
  | 0, k, hk, ha => by
    rw [loop_end (t := Sum.inl (l.map ub)) (by
      show r03_ReadReals_l1 (l, ok) ((l.take k).map ub) (k : Int) = _
      unfold r03_ReadReals_l1
      rw [if_neg (by simp only [decide_eq_true_eq]; omega), show k = l.length by omega, List.take_length]), show k = l.length by omega, List.drop_length]
    rfl
  | m + 1, k, hk, ha => by
    have hkl : k < l.length := by omega
    have hx := List.getElem?_eq_getElem hkl
    have hd : l.drop k = l[k] :: l.drop (k + 1) := List.drop_eq_getElem_cons hkl
    rw [hd, List.all_cons]
    have hlen : ((l.take k).map ub).length = k := by simp; omega
    by_cases hc : canon (ub l[k]) = ub l[k]
    · rw [show (canon (ub l[k]) == ub l[k]) = true by simpa using hc, Bool.true_and, loop_nxt (s' := ((l.take (k + 1)).map ub, ((k + 1 : Nat) : Int))) (by
        show r03_ReadReals_l1 (l, ok) ((l.take k).map ub) (k : Int) = _
        unfold r03_ReadReals_l1
        rw [if_pos (by simp only [decide_eq_true_eq]; omega), at_int rfl hx]
        simp only [Option.bind_some, lt_]
        rw [ub_eq, rOf_eq]
        simp only [Option.bind_some]
        rw [rBits_eq]
        simp only [Option.bind_some, Int.toNat_natCast]
        rw [canon_canon, hc, if_neg (by simp), chk_pos (by rw [hlen]; simp only [List.length_singleton]; omega), w64 (by omega) (by omega), take_snoc hx, List.map_append]
        rfl)]
      exact rreals_loop l ok h m (k + 1) (by omega) (fun b hb => by
        rw [take_snoc hx] at hb
        rcases List.mem_append.1 hb with q | q
        · exact ha b q
        · rw [List.mem_singleton.1 q]; exact hc)
    · rw [show (canon (ub l[k]) == ub l[k]) = false by simpa using hc, Bool.false_and, if_neg (by simp)]
      refine loop_end ?_
      show r03_ReadReals_l1 (l, ok) ((l.take k).map ub) (k : Int) = _
      unfold r03_ReadReals_l1
      rw [if_pos (by simp only [decide_eq_true_eq]; omega), at_int rfl hx]
      simp only [Option.bind_some, lt_]
      rw [ub_eq, rOf_eq]
      simp only [Option.bind_some]
      rw [rBits_eq]
      simp only [Option.bind_some, Int.toNat_natCast]
      rw [canon_canon, if_pos (by simp only [bne_iff_ne, ne_eq, Int.natCast_inj]; exact hc)]
def readR (xs : List Int) : Option (List Nat) := (readL xs).bind realsL
theorem ReadReals_ref {xs : List Int} (hB : Bs xs) (hl : xs.length < 1099511627776) : r03_ReadReals xs = some (match readR xs with | some l => (l, true) | none => ([], false)) := by
  unfold r03_ReadReals readR
  rw [ReadInts_ref hB hl]
  simp only [Option.bind_some]
  cases h : readL xs with
  | none =>
    simp only
    rw [loop_end (t := Sum.inl []) rfl]
    rfl
  | some l =>
    simp only [Option.bind_some]
    have := rreals_loop l true (readL_len h) l.length 0 (by omega) (fun b hb => by simp at hb)
    simp only [List.take_zero, List.map_nil, List.drop_zero] at this
    rw [show ((0 : Nat) : Int) = 0 from rfl] at this
    rw [this]
    unfold realsL
    simp only [Option.bind_some]
    cases (l.all fun b => canon (ub b) == ub b)
    · rfl
    · rfl
end Go.Proofs.YthokgnonmcgkcaaDoor.P
namespace Go.Proofs.YthokgnonmcgkcaaDoor.P
open Go Go.RowKit Go.Proofs.YthokgnonmcgkcaaDoor.E Go.Proofs.YthokgnonmcgkcaaDoor.M
set_option linter.unusedVariables false
set_option linter.unusedSectionVars false
end Go.Proofs.YthokgnonmcgkcaaDoor.P
namespace Go.Proofs.YthokgnonmcgkcaaDoor.P
open Go Go.RowKit Go.Proofs.YthokgnonmcgkcaaDoor.E Go.Proofs.YthokgnonmcgkcaaDoor.M
set_option linter.unusedVariables false
set_option linter.unusedSectionVars false
structure SWO {α : Type} (lt : α → α → Bool) : Prop where
  irr : ∀ a, lt a a = false
  trans : ∀ a b c, lt a b = true → lt b c = true → lt a c = true
  neg : ∀ a b c, lt a c = true → lt a b = true ∨ lt b c = true
section
variable {α : Type} {lt : α → α → Bool}
def ins (lt : α → α → Bool) (x : α) : List α → List α
  | [] => [x]
  | y :: l => if lt x y then x :: y :: l else y :: ins lt x l
def sortL (lt : α → α → Bool) (l : List α) : List α := l.foldl (fun acc x => ins lt x acc) []
def Srt (lt : α → α → Bool) (l : List α) : Prop := l.Pairwise fun a b => lt b a = false
theorem ins_length (x : α) : ∀ l : List α, (ins lt x l).length = l.length + 1
  | [] => rfl
  | y :: l => by unfold ins; split <;> simp [ins_length x l]
theorem ins_mem (x z : α) : ∀ l : List α, z ∈ ins lt x l ↔ z = x ∨ z ∈ l
  | [] => by simp [ins]
  | y :: l => by
    unfold ins
    split
    · simp
    · simp only [List.mem_cons, ins_mem x z l]
      constructor <;> (rintro (h | h | h) <;> simp_all)
theorem SWO.asymm (h : SWO lt) {a b : α} (hab : lt a b = true) : lt b a = false := by
  cases hba : lt b a with
  | false => rfl
  | true => have := h.trans _ _ _ hab hba; rw [h.irr] at this; cases this
theorem ins_srt (h : SWO lt) (x : α) : ∀ {l : List α}, Srt lt l → Srt lt (ins lt x l)
  | [], _ => by simp [ins, Srt]
  | y :: l, hs => by
    unfold ins
    have hs' := List.pairwise_cons.1 hs
    split
    · rename_i hxy
      refine List.pairwise_cons.2 ⟨fun z hz => ?_, hs⟩
      rcases List.mem_cons.1 hz with rfl | hz
      · exact h.asymm hxy
      · cases hzx : lt z x with
        | false => rfl
        | true =>
          have := h.trans _ _ _ hzx hxy
          rw [hs'.1 z hz] at this
          cases this
    · rename_i hxy
      refine List.pairwise_cons.2 ⟨fun z hz => ?_, ins_srt h x hs'.2⟩
      rcases (ins_mem x z l).1 hz with rfl | hz
      · simpa using hxy
      · exact hs'.1 z hz
theorem foldl_srt (h : SWO lt) : ∀ (l acc : List α), Srt lt acc → Srt lt (l.foldl (fun acc x => ins lt x acc) acc)
  | [], acc, ha => ha
  | x :: l, acc, ha => foldl_srt h l _ (ins_srt h x ha)
theorem sortL_srt (h : SWO lt) (l : List α) : Srt lt (sortL lt l) := foldl_srt h l [] List.Pairwise.nil
theorem foldl_length : ∀ (l acc : List α), (l.foldl (fun acc x => ins lt x acc) acc).length = acc.length + l.length
  | [], acc => by simp
  | x :: l, acc => by rw [List.foldl_cons, foldl_length l, ins_length]; simp; omega
theorem sortL_length (l : List α) : (sortL lt l).length = l.length := by unfold sortL; rw [foldl_length]; simp
theorem sortL_append (l : List α) (x : α) : sortL lt (l ++ [x]) = ins lt x (sortL lt l) := by unfold sortL; rw [List.foldl_append]; rfl
theorem ins_at (h : SWO lt) {s : List α} (hs : Srt lt s) {x : α} {n : Nat} (hn : n ≤ s.length) (hlo : ∀ y, 0 < n → s[n - 1]? = some y → lt x y = false) (hhi : ∀ j y, n ≤ j → s[j]? = some y → lt x y = true) :
    s.take n ++ [x] ++ s.drop n = ins lt x s := by
  induction s generalizing n with
  | nil => simp at hn; subst hn; rfl
  | cons y s ih =>
    have hs' := List.pairwise_cons.1 hs
    cases n with
    | zero =>
      have := hhi 0 y (Nat.le_refl _) rfl
      simp [ins, this]
    | succ n =>
      have hxy : lt x y = false := by
        cases n with
        | zero => exact hlo y (by omega) rfl
        | succ n =>
          cases hc : lt x y with
          | false => rfl
          | true =>
            simp only [List.length_cons] at hn
            have hm : s[n]? = some (s[n]'(by omega)) := List.getElem?_eq_getElem (by omega)
            have h2 := hlo (s[n]'(by omega)) (by omega) (by simp)
            rcases h.neg x (s[n]'(by omega)) y hc with h3 | h3
            · rw [h2] at h3; cases h3
            · have := hs'.1 _ (List.getElem_mem (by omega : n < s.length))
              rw [this] at h3; cases h3
      have := ih hs'.2 (n := n) (by simpa using hn) (fun z hz he => hlo z (by omega) (by
        cases n with
        | zero => omega
        | succ n => simpa using he)) (fun j z hj he => hhi (j + 1) z (by omega) (by simpa using he))
      simp only [List.take_succ_cons, List.drop_succ_cons, List.cons_append, ins, hxy]
      simp only [Bool.false_eq_true, if_false]
      rw [← this]
end
theorem bl_swo : SWO Op.bytesLess := by
  refine ⟨fun a => ?_, fun a b c h1 h2 => ?_, fun a b c h => ?_⟩
  · rw [bytesLess_eq]; simp [List.lt_irrefl]
  · rw [bytesLess_eq] at *
    simp only [decide_eq_true_eq] at *
    exact List.lt_trans h1 h2
  · rw [bytesLess_eq] at *
    rw [bytesLess_eq] at *
    simp only [decide_eq_true_eq] at *
    by_cases hab : a < b
    · exact .inl hab
    · refine .inr ?_
      have hba : b ≤ a := List.not_lt.1 hab
      exact List.lt_of_le_of_lt hba h
theorem bl_tot (a b : List UInt8) (h : Op.bytesLess a b = false) (h' : Op.bytesLess b a = false) : a = b := by
  rw [bytesLess_eq] at *
  simp only [decide_eq_false_iff_not] at *
  exact List.le_antisymm (List.not_lt.1 h') (List.not_lt.1 h)
end Go.Proofs.YthokgnonmcgkcaaDoor.P
namespace Go.Proofs.YthokgnonmcgkcaaDoor.P
open Go Go.RowKit Go.Proofs.YthokgnonmcgkcaaDoor.E Go.Proofs.YthokgnonmcgkcaaDoor.M
set_option linter.unusedVariables false
set_option linter.unusedSectionVars false
def bef (x y : S39) : Bool := if x.f3 == y.f3 then (if x.f2 == y.f2 then decide (x.f0 < y.f0) else decide (x.f2 < y.f2)) else Op.bytesLess x.f3 y.f3
theorem Less_eq (x y : S39) : event_Less x y = some (bef x y) := by
  unfold event_Less bef
  by_cases h : (x.f3 == y.f3) = true <;> by_cases h2 : (x.f2 == y.f2) = true <;> simp [h, h2, bne]
theorem bef_swo : SWO bef := by
  refine ⟨fun a => by simp [bef], fun a b c h1 h2 => ?_, fun a b c h => ?_⟩
  · unfold bef at *
    by_cases k1 : a.f3 = b.f3 <;> by_cases k2 : b.f3 = c.f3
    · by_cases t1 : a.f2 = b.f2 <;> by_cases t2 : b.f2 = c.f2 <;> by_cases t3 : a.f2 = c.f2 <;> (try simp_all) <;> (try omega)
    · simp_all
    · simp_all
    · simp only [beq_iff_eq, k1, k2, if_false] at h1 h2
      have h3 := bl_swo.trans _ _ _ h1 h2
      have : a.f3 ≠ c.f3 := fun e => by rw [e, bl_swo.irr] at h3; cases h3
      simp [this, h3]
  · unfold bef at *
    by_cases k : a.f3 = c.f3
    · by_cases k1 : a.f3 = b.f3
      · have k2 : b.f3 = c.f3 := k1.symm.trans k
        by_cases t1 : a.f2 = b.f2 <;> by_cases t2 : b.f2 = c.f2 <;> by_cases t3 : a.f2 = c.f2 <;> (try simp_all) <;> (try omega)
      · have k2 : b.f3 ≠ c.f3 := fun e => k1 (k.trans e.symm)
        simp only [beq_iff_eq, k1, k2, if_false]
        cases h1 : Op.bytesLess a.f3 b.f3 with
        | true => exact .inl rfl
        | false =>
          refine .inr ?_
          cases h2 : Op.bytesLess b.f3 c.f3 with
          | true => rfl
          | false => exact absurd (bl_tot _ _ h1 (by rw [k]; exact h2)) k1
    · simp only [beq_iff_eq, k, if_false] at h
      rcases bl_swo.neg _ b.f3 _ h with h1 | h1
      · have : a.f3 ≠ b.f3 := fun e => by rw [e, bl_swo.irr] at h1; cases h1
        exact .inl (by simp [this, h1])
      · have : b.f3 ≠ c.f3 := fun e => by rw [e, bl_swo.irr] at h1; cases h1
        exact .inr (by simp [this, h1])
end Go.Proofs.YthokgnonmcgkcaaDoor.P
namespace Go.Proofs.YthokgnonmcgkcaaDoor.P
open Go Go.RowKit Go.Proofs.YthokgnonmcgkcaaDoor.E Go.Proofs.YthokgnonmcgkcaaDoor.M
set_option linter.unusedVariables false
set_option linter.unusedSectionVars false
def Anc (i j : Nat) : Prop := ∃ m, j / 2 ^ m = i
theorem Anc.refl (i : Nat) : Anc i i := ⟨0, by simp⟩
theorem Anc.up {i j : Nat} (h : Anc i j) : Anc (i / 2) j := by
  obtain ⟨m, rfl⟩ := h
  exact ⟨m + 1, by rw [Nat.pow_succ, Nat.div_div_eq_div_mul]⟩
theorem Anc.trans {i j k : Nat} (h : Anc i j) (h' : Anc j k) : Anc i k := by
  obtain ⟨m, rfl⟩ := h
  obtain ⟨m', rfl⟩ := h'
  exact ⟨m' + m, by rw [Nat.pow_add, Nat.div_div_eq_div_mul]⟩
theorem Anc.le {i j : Nat} (h : Anc i j) : i ≤ j := by obtain ⟨m, rfl⟩ := h; exact Nat.div_le_self _ _
theorem Anc.half {i j : Nat} (h : Anc i j) (hn : i ≠ j) : Anc i (j / 2) := by
  obtain ⟨m, rfl⟩ := h
  cases m with
  | zero => simp at hn
  | succ m => exact ⟨m, by rw [Nat.pow_succ, Nat.mul_comm, Nat.div_div_eq_div_mul]⟩
theorem Anc.one : ∀ (j : Nat), 1 ≤ j → Anc 1 j := by
  intro j
  induction j using Nat.strongRecOn with
  | _ j ih =>
    intro hj
    rcases Nat.lt_or_ge j 2 with h | h
    · rw [show j = 1 by omega]; exact Anc.refl 1
    · exact (ih (j / 2) (by omega) (by omega)).trans ⟨1, rfl⟩
theorem Anc.apart {i j : Nat} (hi : 1 ≤ i) (h : Anc (2 * i) j) (h' : Anc (2 * i + 1) j) : False := by
  obtain ⟨m, hm⟩ := h
  obtain ⟨m', hm'⟩ := h'
  rcases Nat.lt_trichotomy m m' with hlt | rfl | hlt
  · obtain ⟨d, rfl⟩ : ∃ d, m' = m + (d + 1) := ⟨m' - m - 1, by omega⟩
    rw [Nat.pow_add, ← Nat.div_div_eq_div_mul, hm, Nat.pow_succ, Nat.mul_comm (2 ^ d), ← Nat.div_div_eq_div_mul] at hm'
    have := Nat.div_le_self (2 * i / 2) (2 ^ d)
    omega
  · omega
  · obtain ⟨d, rfl⟩ : ∃ d, m = m' + (d + 1) := ⟨m - m' - 1, by omega⟩
    rw [Nat.pow_add, ← Nat.div_div_eq_div_mul, hm', Nat.pow_succ, Nat.mul_comm (2 ^ d), ← Nat.div_div_eq_div_mul] at hm
    have := Nat.div_le_self ((2 * i + 1) / 2) (2 ^ d)
    omega
structure STO (k : Nat) (lt : Nat → Nat → Bool) : Prop where
  irr : ∀ a, lt a a = false
  trans : ∀ a b c, lt a b = true → lt b c = true → lt a c = true
  tot : ∀ a b, a < k → b < k → a ≠ b → lt a b = true ∨ lt b a = true
def Inn (lt : Nat → Nat → Bool) (W node : Nat → Nat) (i : Nat) : Prop :=
  lt (W i) (node i) = true ∧ ((W i = W (2 * i) ∧ node i = W (2 * i + 1)) ∨ (W i = W (2 * i + 1) ∧ node i = W (2 * i)))
structure Tour (k : Nat) (lt : Nat → Nat → Bool) (W node : Nat → Nat) : Prop where
  leaf : ∀ i, i < k → W (k + i) = i
  inner : ∀ i, 1 ≤ i → i < k → Inn lt W node i
section
variable {k : Nat} {lt : Nat → Nat → Bool} {W node : Nat → Nat}
theorem below (leaf : ∀ i, i < k → W (k + i) = i) (i0 : Nat) (h0 : 1 ≤ i0) (inner : ∀ i, i0 ≤ i → i < k → (W i = W (2 * i) ∨ W i = W (2 * i + 1))) :
    ∀ (n i : Nat), i0 ≤ i → i < 2 * k → 2 * k - i = n → W i < k ∧ Anc i (W i + k) := by
  intro n
  induction n using Nat.strongRecOn with
  | _ n ih =>
    intro i hi hk hn
    rcases Nat.lt_or_ge i k with h | h
    · rcases inner i hi h with h1 | h1
      · obtain ⟨h2, h3⟩ := ih (2 * k - 2 * i) (by omega) (2 * i) (by omega) (by omega) rfl
        rw [h1]
        exact ⟨h2, by have := h3.up; rwa [show 2 * i / 2 = i by omega] at this⟩
      · obtain ⟨h2, h3⟩ := ih (2 * k - (2 * i + 1)) (by omega) (2 * i + 1) (by omega) (by omega) rfl
        rw [h1]
        exact ⟨h2, by have := h3.up; rwa [show (2 * i + 1) / 2 = i by omega] at this⟩
    · have := leaf (i - k) (by omega)
      rw [show k + (i - k) = i by omega] at this
      rw [this]
      exact ⟨by omega, by rw [show i - k + k = i by omega]; exact Anc.refl i⟩
theorem Inn.or {i : Nat} (h : Inn lt W node i) : W i = W (2 * i) ∨ W i = W (2 * i + 1) := h.2.elim (fun h => .inl h.1) fun h => .inr h.1
theorem Tour.below (h : Tour k lt W node) {i : Nat} (hi : 1 ≤ i) (hk : i < 2 * k) : W i < k ∧ Anc i (W i + k) :=
  P.below h.leaf 1 (Nat.le_refl _) (fun i h1 h2 => (h.inner i h1 h2).or) _ i hi hk rfl
theorem Tour.min (h : Tour k lt W node) (ho : STO k lt) : ∀ (n i : Nat), 1 ≤ i → i < 2 * k → 2 * k - i = n → ∀ j, j < k → Anc i (j + k) → j = W i ∨ lt (W i) j = true := by
  intro n
  induction n using Nat.strongRecOn with
  | _ n ih =>
    intro i hi hk hn j hj ha
    rcases Nat.lt_or_ge i k with hik | hik
    · have ha' := ha.half (by omega)
      obtain ⟨m, hm⟩ := ha'
      have key : ∀ c, (c = 2 * i ∨ c = 2 * i + 1) → Anc c (j + k) → j = W i ∨ lt (W i) j = true := by
        intro c hc hac
        obtain ⟨hlt, hh⟩ := h.inner i hi hik
        have := ih (2 * k - c) (by omega) c (by omega) (by omega) rfl j hj hac
        have hW : W i = W c ∨ lt (W i) (W c) = true := by
          rcases hc with rfl | rfl
          · rcases hh with ⟨h1, h2⟩ | ⟨h1, h2⟩
            · exact .inl h1
            · exact .inr (h2 ▸ hlt)
          · rcases hh with ⟨h1, h2⟩ | ⟨h1, h2⟩
            · exact .inr (h2 ▸ hlt)
            · exact .inl h1
        rcases hW with hW | hW
        · rw [hW]; exact this
        · rcases this with rfl | this
          · exact .inr hW
          · exact .inr (ho.trans _ _ _ hW this)
      obtain ⟨m, hm⟩ := ha
      cases m with
      | zero => simp at hm; omega
      | succ m =>
        rw [Nat.pow_succ, ← Nat.div_div_eq_div_mul] at hm
        exact key _ (by omega) ⟨m, rfl⟩
    · have := h.leaf (i - k) (by omega)
      rw [show k + (i - k) = i by omega] at this
      obtain ⟨m, hm⟩ := ha
      cases m with
      | zero => simp at hm; exact .inl (by omega)
      | succ m =>
        rw [Nat.pow_succ, Nat.mul_comm, ← Nat.div_div_eq_div_mul] at hm
        have := Nat.div_le_self ((j + k) / 2) (2 ^ m)
        omega
theorem Tour.first (h : Tour k lt W node) (ho : STO k lt) (hk : 1 ≤ k) {j : Nat} (hj : j < k) (hn : j ≠ W 1) : lt (W 1) j = true :=
  (h.min ho _ 1 (Nat.le_refl _) (by omega) rfl j hj (Anc.one _ (by omega))).resolve_left hn
theorem Tour.path (h : Tour k lt W node) (hk : 1 ≤ k) : ∀ (i : Nat), 1 ≤ i → Anc i (W 1 + k) → W i = W 1 := by
  intro i
  induction i using Nat.strongRecOn with
  | _ i ih =>
    intro hi ha
    have hw := (h.below (i := 1) (by omega) (by omega)).1
    have hi2 : i < 2 * k := by have := ha.le; omega
    rcases Nat.lt_or_ge i 2 with h2 | h2
    · rw [show i = 1 by omega]
    · have hp := ih (i / 2) (by omega) (by omega) ha.up
      rcases (h.inner (i / 2) (by omega) (by omega)).or with h1 | h1
      · have hb := h.below (i := 2 * (i / 2)) (by omega) (by omega)
        rw [← h1, hp] at hb
        rcases Nat.mod_two_eq_zero_or_one i with h3 | h3
        · rw [show i = 2 * (i / 2) by omega, ← h1, hp]
        · exact (Anc.apart (i := i / 2) (by omega) hb.2 (by rw [show 2 * (i / 2) + 1 = i by omega]; exact ha)).elim
      · have hb := h.below (i := 2 * (i / 2) + 1) (by omega) (by omega)
        rw [← h1, hp] at hb
        rcases Nat.mod_two_eq_zero_or_one i with h3 | h3
        · exact (Anc.apart (i := i / 2) (by omega) (by rw [show 2 * (i / 2) = i by omega]; exact ha) hb.2).elim
        · rw [show i = 2 * (i / 2) + 1 by omega, ← h1, hp]
structure Way (k : Nat) (lt lt' : Nat → Nat → Bool) (W node : Nat → Nat) (c : Nat) (W' node' : Nat → Nat) : Prop where
  c1 : 1 ≤ c
  anc : Anc c (W 1 + k)
  leaf : ∀ i, i < k → W' (k + i) = i
  inner : ∀ i, 1 ≤ i → i < k → ¬ (Anc i c ∧ i ≠ c) → Inn lt' W' node' i
  todo : ∀ i, Anc i c → i ≠ c → node' i = node i
  rest : ∀ j, 1 ≤ j → ¬ Anc j (W 1 + k) → W' j = W j
  rng : W' c < k ∧ Anc c (W' c + k)
theorem Way.start {lt' : Nat → Nat → Bool} (h : Tour k lt W node) (hk : 1 ≤ k) (hl : ∀ a b, a ≠ W 1 → b ≠ W 1 → lt' a b = lt a b) : Way k lt lt' W node (W 1 + k) W node := by
  have hw := (h.below (i := 1) (by omega) (by omega)).1
  refine ⟨by omega, Anc.refl _, h.leaf, fun i h1 h2 hn => ?_, fun _ _ _ => rfl, fun _ _ _ => rfl, ?_⟩
  · have hna : ¬ Anc i (W 1 + k) := fun ha => hn ⟨ha, by omega⟩
    obtain ⟨hlt, hor⟩ := h.inner i h1 h2
    have hd : ∀ j, 1 ≤ j → j < 2 * k → Anc i j → W j ≠ W 1 := by
      intro j hj1 hj2 hij he
      have := (h.below (i := j) hj1 hj2).2
      rw [he] at this
      exact hna (hij.trans this)
    have d0 := hd i h1 (by omega) (Anc.refl i)
    have d1 := hd (2 * i) (by omega) (by omega) ⟨1, by omega⟩
    have d2 := hd (2 * i + 1) (by omega) (by omega) ⟨1, by omega⟩
    refine ⟨?_, hor⟩
    rw [hl _ _ d0 (by rcases hor with ⟨_, e⟩ | ⟨_, e⟩ <;> rw [e] <;> assumption)]
    exact hlt
  · have := h.leaf (W 1) hw
    rw [Nat.add_comm] at this
    rw [this]
    exact ⟨hw, Anc.refl _⟩
def upd (f : Nat → Nat) (i v : Nat) : Nat → Nat := fun j => if j = i then v else f j
theorem Way.step {lt' : Nat → Nat → Bool} {c : Nat} {W' node' : Nat → Nat} (h : Tour k lt W node) (hk : 1 ≤ k) (ho : STO k lt') (hw : Way k lt lt' W node c W' node') (hc : 2 ≤ c) :
    node (c / 2) < k ∧ (lt' (node (c / 2)) (W' c) = true → Way k lt lt' W node (c / 2) (upd W' (c / 2) (node (c / 2))) (upd node' (c / 2) (W' c))) ∧
      (lt' (node (c / 2)) (W' c) = false → Way k lt lt' W node (c / 2) (upd W' (c / 2) (W' c)) node') := by
  have hW1 := (h.below (i := 1) (by omega) (by omega)).1
  have hc2 : c < 2 * k := by have := hw.anc.le; omega
  obtain ⟨i, hi⟩ : ∃ i, i = c / 2 := ⟨_, rfl⟩
  rw [← hi]
  have hi1 : 1 ≤ i := by omega
  have hik : i < k := by omega
  have hpi := h.path hk i hi1 (by rw [hi]; exact hw.anc.up)
  have hpc := h.path hk c hw.c1 hw.anc
  obtain ⟨s, hsc⟩ : ∃ s, (s = 2 * i ∧ c = 2 * i + 1) ∨ (s = 2 * i + 1 ∧ c = 2 * i) := by
    rcases Nat.mod_two_eq_zero_or_one c with h3 | h3
    · exact ⟨2 * i + 1, .inr ⟨rfl, by omega⟩⟩
    · exact ⟨2 * i, .inl ⟨rfl, by omega⟩⟩
  have hap : ∀ j, Anc c j → Anc s j → False := by
    intro j h1 h2
    rcases hsc with ⟨rfl, e⟩ | ⟨rfl, e⟩ <;> rw [e] at h1
    · exact Anc.apart hi1 h2 h1
    · exact Anc.apart hi1 h1 h2
  have hs1 : 1 ≤ s ∧ s < 2 * k ∧ s / 2 = i := by omega
  have hsa : ¬ Anc s (W 1 + k) := fun ha => hap _ hw.anc ha
  have hsW := hw.rest s hs1.1 hsa
  have hsb := h.below (i := s) hs1.1 hs1.2.1
  have hsn : W s ≠ W 1 := fun e => hsa (e ▸ hsb.2)
  have hnd : node i = W s := by
    obtain ⟨_, hor⟩ := h.inner i hi1 hik
    rcases hsc with ⟨rfl, e⟩ | ⟨rfl, e⟩ <;> rcases hor with ⟨h1, h2⟩ | ⟨h1, h2⟩
    · exact absurd (h1.symm.trans hpi) hsn
    · exact h2
    · exact h2
    · exact absurd (h1.symm.trans hpi) hsn
  have hne : W' c ≠ W s := fun e => hap _ hw.rng.2 (e ▸ hsb.2)
  have mk : ∀ (x y : Nat) (node'' : Nat → Nat), lt' x y = true → ((x = W' c ∧ y = W s) ∨ (x = W s ∧ y = W' c)) → node'' i = y → (∀ j, j ≠ i → node'' j = node' j) → Way k lt lt' W node i (upd W' i x) node'' := by
    intro x y node'' hxy hor hny hno
    have hanc : Anc i (W 1 + k) := by have := hw.anc.up; rwa [← hi] at this
    refine ⟨hi1, hanc, fun j hj => ?_, fun j h1 h2 hn => ?_, fun j ha hj => ?_, fun j h1 hn => ?_, ?_⟩
    · simp only [upd, if_neg (show k + j ≠ i by omega)]; exact hw.leaf j hj
    · by_cases hji : j = i
      · subst hji
        refine ⟨by simp only [upd, if_true]; rw [hny]; exact hxy, ?_⟩
        simp only [upd, if_true, if_neg (show 2 * j ≠ j by omega), if_neg (show 2 * j + 1 ≠ j by omega)]
        rw [hny]
        rcases hsc with ⟨e1, e2⟩ | ⟨e1, e2⟩
        · rw [show W' (2 * j) = W s by rw [← e1, hsW], show W' (2 * j + 1) = W' c by rw [← e2]]
          exact hor.elim .inr .inl
        · rw [show W' (2 * j + 1) = W s by rw [← e1, hsW], show W' (2 * j) = W' c by rw [← e2]]
          exact hor
      · have hna : ¬ Anc j i := fun ha => hn ⟨ha, hji⟩
        have hin := hw.inner j h1 h2 fun ⟨ha, hjc⟩ => hna (by have := ha.half hjc; rwa [← hi] at this)
        have e1 : 2 * j ≠ i := fun e => hna ⟨1, by omega⟩
        have e2 : 2 * j + 1 ≠ i := fun e => hna ⟨1, by omega⟩
        unfold Inn
        simp only [upd, if_neg hji, if_neg e1, if_neg e2]
        rw [hno j hji]
        exact hin
    · rw [hno j hj]
      exact hw.todo j (ha.trans ⟨1, by omega⟩) (by have := ha.le; omega)
    · simp only [upd, if_neg (show j ≠ i from fun e => hn (e ▸ hanc))]
      exact hw.rest j h1 hn
    · simp only [upd, if_true]
      rcases hor with ⟨rfl, _⟩ | ⟨rfl, _⟩
      · exact ⟨hw.rng.1, by have := hw.rng.2.up; rwa [← hi] at this⟩
      · exact ⟨hsb.1, by have := hsb.2.up; rwa [hs1.2.2] at this⟩
  rw [hnd]
  refine ⟨hsb.1, fun ht => ?_, fun hf => ?_⟩
  · exact mk _ (W' c) _ ht (.inr ⟨rfl, rfl⟩) (by simp [upd]) fun j hj => by simp [upd, hj]
  · refine mk _ (W s) _ ?_ (.inl ⟨rfl, rfl⟩) ?_ fun j hj => rfl
    · rcases ho.tot _ _ hw.rng.1 hsb.1 hne with h1 | h1
      · exact h1
      · rw [h1] at hf; cases hf
    · rw [hw.todo i ⟨1, by omega⟩ (by omega), hnd]
theorem Way.done {lt' : Nat → Nat → Bool} {W' node' : Nat → Nat} (hw : Way k lt lt' W node 1 W' node') : Tour k lt' W' node' :=
  ⟨hw.leaf, fun i h1 h2 => hw.inner i h1 h2 fun ⟨ha, hn⟩ => hn (by have := ha.le; omega)⟩
structure Rise (k : Nat) (lt : Nat → Nat → Bool) (i : Nat) (W node : Nat → Nat) : Prop where
  leaf : ∀ j, j < k → W (k + j) = j
  inner : ∀ j, i < j → j < k → 1 ≤ j → Inn lt W node j
theorem Rise.step (ho : STO k lt) {i : Nat} (hi1 : 1 ≤ i) (hik : i < k) (h : Rise k lt i W node) :
    W (2 * i) < k ∧ W (2 * i + 1) < k ∧ (lt (W (2 * i + 1)) (W (2 * i)) = true → Rise k lt (i - 1) (upd W i (W (2 * i + 1))) (upd node i (W (2 * i)))) ∧
      (lt (W (2 * i + 1)) (W (2 * i)) = false → Rise k lt (i - 1) (upd W i (W (2 * i))) (upd node i (W (2 * i + 1)))) := by
  have hb := P.below h.leaf (i + 1) (by omega) fun j h1 h2 => (h.inner j (by omega) h2 (by omega)).or
  have b1 := hb _ (2 * i) (by omega) (by omega) rfl
  have b2 := hb _ (2 * i + 1) (by omega) (by omega) rfl
  have hne : W (2 * i) ≠ W (2 * i + 1) := fun e => Anc.apart hi1 b1.2 (by rw [e]; exact b2.2)
  have mk : ∀ x y, lt x y = true → ((x = W (2 * i) ∧ y = W (2 * i + 1)) ∨ (x = W (2 * i + 1) ∧ y = W (2 * i))) → Rise k lt (i - 1) (upd W i x) (upd node i y) := by
    intro x y hxy hor
    refine ⟨fun j hj => ?_, fun j h1 h2 h3 => ?_⟩
    · simp only [upd, if_neg (show k + j ≠ i by omega)]; exact h.leaf j hj
    · unfold Inn
      by_cases hji : j = i
      · subst hji
        simp only [upd, if_true, if_neg (show 2 * j ≠ j by omega), if_neg (show 2 * j + 1 ≠ j by omega)]
        exact ⟨hxy, hor⟩
      · simp only [upd, if_neg hji, if_neg (show 2 * j ≠ i by omega), if_neg (show 2 * j + 1 ≠ i by omega)]
        exact h.inner j (by omega) h2 h3
  refine ⟨b1.1, b2.1, fun ht => mk _ _ ht (.inr ⟨rfl, rfl⟩), fun hf => mk _ _ ?_ (.inl ⟨rfl, rfl⟩)⟩
  rcases ho.tot _ _ b1.1 b2.1 hne with h1 | h1
  · exact h1
  · rw [h1] at hf; cases hf
theorem Rise.done (h : Rise k lt 0 W node) : Tour k lt W node := ⟨h.leaf, fun i h1 h2 => h.inner i h1 h2 h1⟩
end
end Go.Proofs.YthokgnonmcgkcaaDoor.P
namespace Go.Proofs.YthokgnonmcgkcaaDoor.P
open Go Go.RowKit Go.Proofs.YthokgnonmcgkcaaDoor.E Go.Proofs.YthokgnonmcgkcaaDoor.M
set_option linter.unusedVariables false
set_option linter.unusedSectionVars false
def hd (R : List (List S39)) (i : Nat) : Option S39 := R[i]?.bind List.head?
def cmpO (p q : Option S39) (a b : Nat) : Bool :=
  match p, q with
  | none, none => decide (a < b)
  | none, some _ => false
  | some _, none => true
  | some x, some y => bef x y || (!bef y x && decide (a < b))
def ahd (R : List (List S39)) (a b : Nat) : Bool := cmpO (hd R a) (hd R b) a b
structure TInv (R : List (List S39)) (nd : List Int) (W node : Nat → Nat) : Prop where
  pos : 1 ≤ R.length
  small : R.length < 2 ^ 40
  len : nd.length = R.length
  tour : Tour R.length (ahd R) W node
  top : nd[0]? = some (W 1 : Int)
  inner : ∀ i, 1 ≤ i → i < R.length → nd[i]? = some (node i : Int)
end Go.Proofs.YthokgnonmcgkcaaDoor.P
namespace Go.Proofs.YthokgnonmcgkcaaDoor.P
open Go Go.RowKit Go.Proofs.YthokgnonmcgkcaaDoor.E Go.Proofs.YthokgnonmcgkcaaDoor.M
set_option linter.unusedVariables false
set_option linter.unusedSectionVars false
theorem Bits_some (a : Nat) : ∃ v, r01_Bits a = some v := by
  unfold r01_Bits r01_Bits_j1
  try simp only [ltt]
  split <;> split <;> exact ⟨_, rfl⟩
theorem Same_self (x : S39) : r06_Same x x = some true := by
  unfold r06_Same r01_Same
  obtain ⟨v, hv⟩ := Bits_some x.f4
  simp [hv]
theorem SameAll_self (l : List S39) (h : l.length < 2 ^ 62) : r06_SameAll l l = some true := by
  unfold r06_SameAll
  rw [if_neg (by simp)]
  have := loop_to (b := fun s => r06_SameAll_l1 l l s) (fun k => (k : Int)) (t := .inl ()) l.length (fun k hk => by
    have hx : l[k]? = some (l[k]'hk) := List.getElem?_eq_getElem hk
    unfold r06_SameAll_l1
    rw [if_pos (by simp; omega), at_int rfl hx]
    simp only [Option.bind_some, Same_self]
    rw [if_neg (by simp), w64 (by omega) (by omega)]
    rfl) (by
    unfold r06_SameAll_l1
    rw [if_neg (by simp)])
  rw [show (0 : Int) = ((0 : Nat) : Int) from rfl, this]
  rfl
end Go.Proofs.YthokgnonmcgkcaaDoor.P
namespace Go.Proofs.YthokgnonmcgkcaaDoor.P
open Go Go.RowKit Go.Proofs.YthokgnonmcgkcaaDoor.E Go.Proofs.YthokgnonmcgkcaaDoor.M
set_option linter.unusedVariables false
set_option linter.unusedSectionVars false
end Go.Proofs.YthokgnonmcgkcaaDoor.P
