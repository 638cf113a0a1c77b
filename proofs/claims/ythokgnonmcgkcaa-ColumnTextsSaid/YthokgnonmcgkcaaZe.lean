/- Texts of the claim, joined: what it uses of Va, Dst0, Vb, Dst, Mst, DlColumnTexts, MlColumnTexts, LColumnTexts, Qa, Qb, Qc. -/
import Derived.Test.YthokgnonmcgkcaaZd
import Derived.Test.YthokgnonmcgkcaaProg
import Derived.Shelf.SlIter.Sorted
import Derived.Shelf.Sort.Plain
import Derived.Shelf.Slices.In.SortNone
import Derived.Shelf.Slices.CompactS
import Derived.KernelRfl
import Derived.Test.YthokgnonmcgkcaaRows
import Derived.IntWalk
namespace Go.Proofs
open Go.RowKit Go.Maps Go.Sort Go.Shelf
def Try.sortL_ren : Go.Shelf.Ren := ⟨fun | 190 => 70 | 125 => 77 | 258 => 76 | 128 => 87 | 129 => 62 | 302 => 79 | 303 => 80 | 304 => 81 | 305 => 82 | 306 => 83 | 307 => 84 | 308 => 72 | 309 => 85 | 310 => 86 | 333 => 88 | 329 => 89 | 330 => 90 | 334 => 91 | 335 => 92 | 336 => 78 | 344 => 93 | n => n, fun | 31 => 57 | 9 => 9 | 3 => 3 | 46 => 73 | 0 => 0 | 51 => 114 | 53 => 29 | 4 => 4 | 183 => 108 | 182 => 107 | 131 => 91 | 5 => 5 | 218 => 115 | 222 => 119 | 228 => 121 | 229 => 122 | n => n, fun | n => n⟩
theorem Try.sortL : Go.Proofs.Lays.n190 Try.prog Try.sortL_ren := {
  mixed := by kernel_rfl
  f125 := Try.func77.trans (congrArg some (by kernel_rfl))
  f128 := Try.func87.trans (congrArg some (by kernel_rfl))
  f129 := Try.func62.trans (congrArg some (by kernel_rfl))
  f190 := Try.func70.trans (congrArg some (by kernel_rfl))
  f258 := Try.func76.trans (congrArg some (by kernel_rfl))
  f302 := Try.func79.trans (congrArg some (by kernel_rfl))
  f303 := Try.func80.trans (congrArg some (by kernel_rfl))
  f304 := Try.func81.trans (congrArg some (by kernel_rfl))
  f305 := Try.func82.trans (congrArg some (by kernel_rfl))
  f306 := Try.func83.trans (congrArg some (by kernel_rfl))
  f307 := Try.func84.trans (congrArg some (by kernel_rfl))
  f308 := Try.func72.trans (congrArg some (by kernel_rfl))
  f309 := Try.func85.trans (congrArg some (by kernel_rfl))
  f310 := Try.func86.trans (congrArg some (by kernel_rfl))
  f329 := Try.func89.trans (congrArg some (by kernel_rfl))
  f330 := Try.func90.trans (congrArg some (by kernel_rfl))
  f333 := Try.func88.trans (congrArg some (by kernel_rfl))
  f334 := Try.func91.trans (congrArg some (by kernel_rfl))
  f335 := Try.func92.trans (congrArg some (by kernel_rfl))
  f336 := Try.func78.trans (congrArg some (by kernel_rfl))
  f344 := Try.func93.trans (congrArg some (by kernel_rfl))
  t0 := Try.underlying0
  a0 := Try.isAgg0
  z0 := Try.sizeOf0
  v0 := Try.zeroValue0
  t3 := Try.underlying3
  a3 := Try.isAgg3
  z3 := Try.sizeOf3
  v3 := Try.zeroValue3
  t4 := Try.underlying4
  a4 := Try.isAgg4
  z4 := Try.sizeOf4
  v4 := Try.zeroValue4
  t5 := Try.underlying5
  a5 := Try.isAgg5
  z5 := Try.sizeOf5
  v5 := Try.zeroValue5
  t9 := Try.underlying9
  a9 := Try.isAgg9
  z9 := Try.sizeOf9
  v9 := Try.zeroValue9
  t31 := Try.underlying57
  a31 := Try.isAgg57
  z31 := Try.sizeOf57
  v31 := Try.zeroValue57
  t46 := Try.underlying73
  a46 := Try.isAgg73
  z46 := Try.sizeOf73
  v46 := Try.zeroValue73
  t51 := Try.underlying114
  a51 := Try.isAgg114
  z51 := Try.sizeOf114
  v51 := Try.zeroValue114
  t53 := Try.underlying29
  a53 := Try.isAgg29
  z53 := Try.sizeOf29
  v53 := Try.zeroValue29
  t131 := Try.underlying91
  a131 := Try.isAgg91
  z131 := Try.sizeOf91
  v131 := Try.zeroValue91
  t182 := Try.underlying107
  a182 := Try.isAgg107
  z182 := Try.sizeOf107
  v182 := Try.zeroValue107
  t183 := Try.underlying108
  a183 := Try.isAgg108
  z183 := Try.sizeOf108
  v183 := Try.zeroValue108
  t218 := Try.underlying115
  a218 := Try.isAgg115
  z218 := Try.sizeOf115
  v218 := Try.zeroValue115
  t222 := Try.underlying119
  a222 := Try.isAgg119
  z222 := Try.sizeOf119
  v222 := Try.zeroValue119
  t228 := Try.underlying121
  a228 := Try.isAgg121
  z228 := Try.sizeOf121
  v228 := Try.zeroValue121
  t229 := Try.underlying122
  a229 := Try.isAgg122
  z229 := Try.sizeOf122
  v229 := Try.zeroValue122 }
def Try.compactL_ren : Go.Shelf.Ren := ⟨fun | 194 => 55 | n => n, fun | 31 => 57 | 9 => 9 | 3 => 3 | 4 => 4 | 0 => 0 | n => n, fun | n => n⟩
theorem Try.compactL : Go.Proofs.Lays.n194 Try.prog Try.compactL_ren := {
  mixed := by kernel_rfl
  f194 := Try.func55.trans (congrArg some (by kernel_rfl))
  t0 := Try.underlying0
  a0 := Try.isAgg0
  z0 := Try.sizeOf0
  v0 := Try.zeroValue0
  t3 := Try.underlying3
  a3 := Try.isAgg3
  z3 := Try.sizeOf3
  v3 := Try.zeroValue3
  t4 := Try.underlying4
  a4 := Try.isAgg4
  z4 := Try.sizeOf4
  v4 := Try.zeroValue4
  t9 := Try.underlying9
  a9 := Try.isAgg9
  z9 := Try.sizeOf9
  v9 := Try.zeroValue9
  t31 := Try.underlying57
  a31 := Try.isAgg57
  z31 := Try.sizeOf57
  v31 := Try.zeroValue57 }
def Try.sortedL_ren : Go.Shelf.Ren := ⟨fun | 6 => 56 | 8 => 69 | 9 => 70 | 11 => 75 | 13 => 77 | 12 => 76 | 23 => 87 | 24 => 62 | 14 => 79 | 15 => 80 | 16 => 81 | 17 => 82 | 18 => 83 | 19 => 84 | 20 => 72 | 21 => 85 | 22 => 86 | 25 => 88 | 26 => 89 | 27 => 90 | 28 => 91 | 29 => 92 | 30 => 78 | 31 => 93 | n => n, fun | 26 => 9 | 28 => 88 | 24 => 57 | 0 => 0 | 3 => 3 | 37 => 73 | 48 => 114 | 50 => 29 | 4 => 4 | 40 => 108 | 39 => 107 | 45 => 91 | 5 => 5 | 9 => 9 | 51 => 115 | 55 => 119 | 57 => 121 | 58 => 122 | 33 => 100 | n => n, fun | n => n⟩
theorem Try.sortedL : Go.Proofs.SlLaysZ.n6 Try.prog Try.sortedL_ren := {
  mixed := by kernel_rfl
  f6 := ⟨ "slices.Sorted[string]", by decide, Try.func56.trans (congrArg some (by kernel_rfl))⟩
  f8 := ⟨ "slices.Collect[string]", by decide, Try.func69.trans (congrArg some (by kernel_rfl))⟩
  f11 := ⟨ "slices.AppendSeq[[]string,string]", by decide, Try.func75.trans (congrArg some (by kernel_rfl))⟩
  t0 := Try.underlying0
  a0 := Try.isAgg0
  z0 := Try.sizeOf0
  v0 := Try.zeroValue0
  t24 := Try.underlying57
  a24 := Try.isAgg57
  z24 := Try.sizeOf57
  v24 := Try.zeroValue57
  t26 := Try.underlying9
  a26 := Try.isAgg9
  z26 := Try.sizeOf9
  v26 := Try.zeroValue9
  t28 := Try.underlying88
  a28 := Try.isAgg88
  z28 := Try.sizeOf88
  v28 := Try.zeroValue88
  i26 := by kernel_rfl }
set_option maxRecDepth 100000 in
set_option maxHeartbeats 2000000 in
theorem values_gives (n : Nat) (hn : 1 ≤ n) (l Bx B : Nat) (W0 : World) (A : Option Addr) (c : Nat) (xs : List (List UInt8)) (hl : xs.length ≤ 4611686018427387904) (J : List (List UInt8) → World → Prop)
    (hJB : ∀ ss W1, J ss W1 → Below B W0 W1) (hBx : Bx < B) (hbox : W0.cell? ⟨Bx, 0, none⟩ = some (.slice A xs.length c))
    (hrow : 0 < xs.length → ∃ b off, A = some ⟨b, off, none⟩ ∧ b < B ∧ ∀ j x, xs[j]? = some x → W0.cell? ⟨b, off + j, none⟩ = some (encStr x))
    (hY : ∀ pre x W1, J pre W1 → pre.length < xs.length → YieldAt Fence.wide (n - 1) Try.prog l #[encStr x] W1 fun e W' => e = .returned (.bool true) ∧ J (pre ++ [x]) W' ∧ KeepsWalks W1 W')
    (W : World) (h0 : J [] W) :
    CallsIn Fence.wide n Try.prog 71 #[.func (.yield l) #[] #[], .pointer (some ⟨Bx, 0, none⟩)] W fun e W' => (∃ v, e = .returned v) ∧ J xs W' := by
  have hb1 := (hJB _ _ h0)
  have hx0 : W.cell? ⟨Bx, 0, none⟩ = some (.slice A xs.length c) := (hb1.cell (p := ⟨Bx, 0, none⟩) hBx).trans hbox
  refine callsIn_of_wp Try.func71 rfl trivial ?_ rfl
  simp only [Try.ntmps71, List.size_toArray, List.length_cons, List.length_nil, Nat.reduceAdd, Nat.reduceSub, Array.replicate_succ, Array.replicate_zero, List.push_toArray, List.append_toArray, List.nil_append, List.cons_append]
  gi_wp2
  gi_loopw [7] (fun s7 wr => ∃ k : Nat, s7 = .int .i64 k ∧ k ≤ xs.length ∧ J (xs.take k) wr) (fun s7 _ => match s7 with | .int .i64 k => (xs.length : Int).toNat - k.toNat | _ => 0)
  case atStart => exact ⟨0, rfl, Nat.zero_le _, by simpa using h0⟩
  case round =>
    obtain ⟨k, rfl, hk, hJk⟩ := hrel
    by_cases hlt : k < xs.length
    · obtain ⟨b, off, rfl, hb, hcell⟩ := hrow (by omega)
      have hx := List.getElem?_eq_getElem hlt
      have hc := ((hJB _ _ hJk).cell (p := ⟨b, off + k, none⟩) hb).trans (hcell k _ hx)
      obtain ⟨x, hxx⟩ : ∃ x, x = xs[k] := ⟨_, rfl⟩
      rw [← hxx] at hc hx
      have hkl : (xs.take k).length = k := by simp; omega
      obtain ⟨fn, tmps, assign, body, hy, hR⟩ := hY (xs.take k) x wr hJk (by omega)
      clear hrow hcell hxx
      gi_wp2
      refine hR.mono ?_
      rintro e W3 ⟨rfl, hJ3, hk3⟩
      gi_wp2
      go_roundw
      case rel => exact ⟨k + 1, by simp, by omega, by rw [List.take_add_one, hx]; exact hJ3⟩
      case measure => simp; omega
    · have : k = xs.length := by omega
      subst this
      gi_wp2
      go_end0
      exact ⟨⟨_, rfl⟩, by simpa using hJk⟩
set_option maxRecDepth 100000 in
set_option maxHeartbeats 2000000 in
theorem appendSeq_values (Bx : Nat) (w : World) (A : Option Addr) (c : Nat) (xs : List (List UInt8)) (hl : xs.length * 16 ≤ 140737488355328) (hBx : Bx < w.heap.size) (hbox : w.cell? ⟨Bx, 0, none⟩ = some (.slice A xs.length c))
    (hrow : 0 < xs.length → ∃ b off, A = some ⟨b, off, none⟩ ∧ b < w.heap.size ∧ ∀ j x, xs[j]? = some x → w.cell? ⟨b, off + j, none⟩ = some (encStr x)) :
    Calls Try.prog 75 #[.slice none 0 0, .func (.func 71) #[] #[.pointer (some ⟨Bx, 0, none⟩)]] w fun e w' => ∃ v, e = .returned v ∧ w'.ownsRow w.heap.size 9 1 v xs.length (xs.map encStr) ∧ (v = .slice none 0 0 ↔ xs = []) ∧ Below w.heap.size w w' := by
  refine (callsIn_wide (n := 5)).1 ?_
  obtain ⟨sv, hsv⟩ : ∃ sv : Value, sv = .func (.func 71) #[] #[.pointer (some ⟨Bx, 0, none⟩)] := ⟨_, rfl⟩
  have hsv' := hsv
  refine callsIn_of_wp_marks Try.func75 rfl trivial ?_ rfl
  simp only [Try.ntmps75, List.size_toArray, List.length_cons, List.length_nil, Nat.reduceAdd, Nat.reduceSub, Array.replicate_succ, Array.replicate_zero, List.push_toArray, List.append_toArray, List.nil_append, List.cons_append]
  gi_wp2
  refine wpIn_rangeFunc ?_
  intro fn hfn
  rw [show Fence.wide.round = none from rfl]
  let ρ := Try.sortedL_ren
  obtain ⟨W0, hW0⟩ : ∃ W0, w.alloc (.cells #[.slice none 0 0] 57) = W0 := ⟨_, rfl⟩
  have hs0 : W0.heap.size = w.heap.size + 1 := by rw [← hW0]; simp
  have hv0 : W0.heap[w.heap.size]? = some (.cells #[.slice none 0 0] 57 (0, 0)) := by rw [← hW0]; exact World.alloc_heap_new w _
  have hb0 : Below w.heap.size w W0 := by rw [← hW0]; exact (Below.refl _ w).alloc (Nat.le_refl _) _
  rw [hW0]
  obtain ⟨W1, hW1⟩ : ∃ W1, (W0.alloc (.deferred (some []))).alloc (.loop (AnyZ.apRec ρ fn sv w.heap.size W0.heap.size .ready none)) = W1 := ⟨_, rfl⟩
  have hold : ∀ k, k < W0.heap.size → W1.heap[k]? = W0.heap[k]? := fun k hk => by
    rw [← hW1]; exact (Below.heap_alloc _ _ k (by simp; omega)).trans (Below.heap_alloc _ _ k hk)
  have hb1 : Below w.heap.size w W1 := by rw [← hW1]; exact (hb0.alloc hb0.size _).alloc (by have := hb0.size; simp; omega) _
  have hM : AnyZ.ApAt ρ w fn sv w.heap.size (W0.heap.size + 1) W0.heap.size [] W1 :=
    ⟨⟨_, (hold w.heap.size (by omega)).trans hv0, ⟨rfl, .inl ⟨rfl, rfl⟩⟩, by simp⟩,
     by rw [← hW1]; have := World.alloc_heap_new (W0.alloc (.deferred (some []))) (.loop (AnyZ.apRec ρ fn sv w.heap.size W0.heap.size .ready none)); rwa [World.size_alloc] at this,
     by rw [← hW1]; exact (Below.heap_alloc _ _ _ (by simp)).trans (World.alloc_heap_new W0 _), hb1⟩
  refine ⟨W0.heap.size + 1, [{ target := .collected W0.heap.size, args := #[] }], W1, { target := .fn (.func 71) #[.pointer (some ⟨Bx, 0, none⟩)], args := #[.func (.yield (W0.heap.size + 1)) #[] #[]] }, W1, 71,
    #[.func (.yield (W0.heap.size + 1)) #[] #[]] ++ #[.pointer (some ⟨Bx, 0, none⟩)], W1, ?_, ?_, ?_, ?_, fun _ => by omega, ?_⟩
  · rw [← hW1, hsv]; exact run_enterLoop_outer _ _ _ _ _
  · simp [resolve, go_sem]
  · intro f' hf'; trivial
  · simp [invoke, go_sem]
  · have hcur := AnyZ.apYield (ρ := ρ) (P := Try.prog) { Try.sortedL with } Fence.wide 3 w fn hfn sv w.heap.size (W0.heap.size + 1) W0.heap.size (by omega) (by omega) (by omega) (Nat.le_refl _) (by omega) xs.length (by unfold maxLen; omega) hl
    refine (values_gives 4 (by omega) (W0.heap.size + 1) Bx w.heap.size w A c xs (by omega) (AnyZ.ApAt ρ w fn sv w.heap.size (W0.heap.size + 1) W0.heap.size) (fun ss W1 h => h.below) hBx hbox hrow
      (fun pre x W hJ hlt => hcur pre x W hJ hlt) W1 hM).mono ?_
    rintro e W2 ⟨⟨v0, rfl⟩, h2⟩
    obtain ⟨v, hv, hr, hnil⟩ := h2.box
    have hend := run_endLoop (P := Try.prog) h2.L (by simp [AnyZ.apRec])
    obtain ⟨W3, hW3⟩ : ∃ W3, W2.putObj (W0.heap.size + 1) (.loop { AnyZ.apRec ρ fn sv w.heap.size W0.heap.size .ready none with state := .exhausted }) = W3 := ⟨_, rfl⟩
    rw [hW3] at hend
    have hg3 : W2.grownBy W3 (some (W0.heap.size + 1)) := by rw [← hW3]; exact grownBy_putObj_a _ _ _
    have hv3 : W3.heap[w.heap.size]? = some (.cells #[v] 57 (0, 0)) := by rw [← hW3]; exact (World.putObj_heap_other (by omega)).trans hv
    have hK3 : W3.heap[W0.heap.size]? = some (.deferred (some [])) := by rw [← hW3]; exact (World.putObj_heap_other (by omega)).trans h2.K
    have hr3 := hr.kept hg3 (ownsRow_ne_a hr h2.L (fun cur e => by cases e))
    have hb3 : Below w.heap.size w W3 := h2.below.grown hg3 h2.below.size (fun k e => by cases e; omega)
    obtain ⟨hc3, hf3⟩ := cell_of_box_a hv3
    clear hW3
    refine ⟨none, W3, hend, ?_⟩
    gi_wp2
    rw [← hs0]
    refine ⟨by simp, .inl ⟨_, _, rfl, run_takeDeferred hK3, ?_⟩⟩
    exact ⟨_, results_tmp rfl _ _ _, v, rfl, hr3.kept (grownBy_putObj_a _ _ _) (ownsRow_ne_a hr3 hK3 (fun cur e => by cases e)), hnil, hb3.grown (grownBy_putObj_a _ _ _) hb3.size (fun k e => by cases e; omega)⟩
set_option maxRecDepth 100000 in
set_option maxHeartbeats 2000000 in
theorem collect_values (Bx : Nat) (w : World) (A : Option Addr) (c : Nat) (xs : List (List UInt8)) (hl : xs.length * 16 ≤ 140737488355328) (hBx : Bx < w.heap.size) (hbox : w.cell? ⟨Bx, 0, none⟩ = some (.slice A xs.length c))
    (hrow : 0 < xs.length → ∃ b off, A = some ⟨b, off, none⟩ ∧ b < w.heap.size ∧ ∀ j x, xs[j]? = some x → w.cell? ⟨b, off + j, none⟩ = some (encStr x)) :
    Calls Try.prog 69 #[.func (.func 71) #[] #[.pointer (some ⟨Bx, 0, none⟩)]] w fun e w' => ∃ v, e = .returned v ∧ w'.ownsRow w.heap.size 9 1 v xs.length (xs.map encStr) ∧ (v = .slice none 0 0 ↔ xs = []) ∧ Below w.heap.size w w' := by
  refine (callsIn_wide (n := 6)).1 ?_
  have cS := (callsIn_wide (n := 5)).2 (appendSeq_values Bx w A c xs hl hBx hbox hrow)
  refine callsIn_of_wp Try.func69 rfl trivial ?_ rfl
  simp only [Try.ntmps69, List.size_toArray, List.length_cons, List.length_nil, Nat.reduceAdd, Nat.reduceSub, Array.replicate_succ, Array.replicate_zero, List.push_toArray, List.append_toArray, List.nil_append, List.cons_append]
  have hfS : Fence.wide.fn 75 := trivial
  gi_wp2_with (gi_at_call 75; refine cS.mono ?_; rintro e w' ⟨v, rfl, hr, hnil, hb⟩)
  go_ret
  exact ⟨v, rfl, hr, hnil, hb⟩
set_option maxRecDepth 100000 in
set_option maxHeartbeats 2000000 in
theorem sorted_values (Bx : Nat) (w : World) (A : Option Addr) (c : Nat) (xs : List (List UInt8)) (hl : xs.length * 16 ≤ 140737488355328) (hBx : Bx < w.heap.size) (hbox : w.cell? ⟨Bx, 0, none⟩ = some (.slice A xs.length c))
    (hrow : 0 < xs.length → ∃ b off, A = some ⟨b, off, none⟩ ∧ b < w.heap.size ∧ ∀ j x, xs[j]? = some x → w.cell? ⟨b, off + j, none⟩ = some (encStr x)) :
    Calls Try.prog 56 #[.func (.func 71) #[] #[.pointer (some ⟨Bx, 0, none⟩)]] w fun e w' => ∃ v, e = .returned v ∧ w'.ownsRow w.heap.size 9 1 v xs.length ((xs.mergeSort fun x y => decide (x ≤ y)).map encStr) ∧ (v = .slice none 0 0 ↔ xs = []) ∧ Below w.heap.size w w' := by
  refine (callsIn_wide (n := 7)).1 ?_
  have cS := (callsIn_wide (n := 6)).2 (collect_values Bx w A c xs hl hBx hbox hrow)
  refine callsIn_of_wp Try.func56 rfl trivial ?_ rfl
  simp only [Try.ntmps56, List.size_toArray, List.length_cons, List.length_nil, Nat.reduceAdd, Nat.reduceSub, Array.replicate_succ, Array.replicate_zero, List.push_toArray, List.append_toArray, List.nil_append, List.cons_append]
  have hfS : Fence.wide.fn 69 := trivial
  have hfT : Fence.wide.fn 70 := trivial
  gi_wp2_with (gi_at_call 69; refine cS.mono ?_; rintro e W ⟨v, rfl, hr, hnil, hb⟩)
  rcases hr.2 with ⟨rfl, hz⟩ | ⟨gb, cap, cur, rfl, hbase, hgb, r1, r2, r3, r4⟩
  · have hss : xs = [] := List.eq_nil_of_length_eq_zero hz
    subst hss
    have cT := (callsIn_wide (n := 6)).2 (Any.slices_Sort_string_none Try.sortL none 0 W)
    change CallsIn _ _ Try.prog 70 _ _ _ at cT
    gi_wp2_with (gi_at_call 70; refine cT.mono ?_; rintro e w' ⟨rfl, rfl⟩)
    go_ret
    exact ⟨_, rfl, by simpa using hr, by simp, hb⟩
  · have hH : Holds encStr W gb 0 xs.toArray := holds_of_block hgb (by simpa using r4)
    have hgl : gb < W.heap.size := (Array.getElem?_eq_some_iff.1 hgb).1
    have cT := (callsIn_wide (n := 6)).2 (Any.slices_Sort_string Try.sortL gb 0 cap xs W hH hgl (by omega))
    change CallsIn _ _ Try.prog 70 _ _ _ at cT
    gi_wp2_with (gi_at_call 70; refine cT.mono ?_; rintro e w' ⟨rfl, nn, os, rfl⟩)
    go_ret
    exact ⟨_, rfl, ownsRow_sorted (by simp) hbase hgb r1 r2 r3, hnil, hb.grown (grownBy_sorted _) hb.size (fun j hj => by cases hj; exact hbase)⟩
end Go.Proofs
namespace Go.Proofs.Ythokgnonmcgkcaa.M
open Go Go.RowKit Go.Proofs.Ythokgnonmcgkcaa.E
noncomputable def slices_Sorted_string (a0 : List (List UInt8)) : Option (List (List UInt8)) := chk (a0.length * 16 ≤ 140737488355328) (some (a0.mergeSort fun x y => decide (x ≤ y)))
noncomputable def slices_Compact_string (a0 : List (List UInt8)) : Option (List (List UInt8)) := some (Lib.compact a0)
end Go.Proofs.Ythokgnonmcgkcaa.M
namespace Go.Proofs.Ythokgnonmcgkcaa.M
open Go Go.RowKit Go.Proofs.Ythokgnonmcgkcaa.E
set_option linter.unusedVariables false
theorem F_slices_Values {r w : World} {L : List HP} {A : Option Addr} {n c : Nat} (hS : SH r L w) :
    Ret Try.prog 57 #[.slice A n c] w fun v w' => ∃ g, v = .func (.func 71) #[] #[.pointer (some ⟨g, 0, none⟩)] ∧ SH r (blk g 57 [.slice A n c] :: L) w' := by
  refine enter Try.func57 rfl Try.ntmps57 [(0, .slice A n c)] rfl (by simp) ?_
  intro ac hA Qf hQ hQn
  refine wp_seq_k fun K1 hK1 => ?_
  refine wp_reg ?_
  refine x_box hA hS (fun g ac w hS hA => ?_) rfl rfl rfl rfl rfl rfl
  refine x_assign hA (fun ac hA => ?_) rfl rfl rfl rfl rfl
  refine wpList_nil ?_
  refine hK1 _ _ ?_
  refine wp_seq_k fun K2 hK2 => ?_
  refine wp_reg ?_
  refine x_val hA (r_makeFunc rfl (mapev (vals := #[]) hA rfl) (mapev (vals := #[.pointer (some ⟨g, 0, none⟩)]) hA rfl)) (fun ac hA => ?_) rfl rfl rfl
  refine x_assign hA (fun ac hA => ?_) rfl rfl rfl rfl rfl
  refine wpList_nil ?_
  refine hK2 _ _ ?_
  refine wp_ret ?_
  refine hQ _ _ ?_
  refine lv Try.results57 hA rfl ?_
  exact ⟨g, rfl, hS⟩
theorem F_slices_Sorted {r w : World} {L : List HP} (xs : List (List UInt8)) {g : Nat} {A : Option Addr} {n c : Nat} {y : List (List UInt8)} (hF : slices_Sorted_string xs = some y) (ha : RdL L kS A n c xs) (hS : SH r (blk g 57 [.slice A n c] :: L) w) :
    Ret Try.prog 56 #[.func (.func 71) #[] #[.pointer (some ⟨g, 0, none⟩)]] w fun v w' => ∃ (A' : Option Addr) (n' c' : Nat), v = .slice A' n' c' ∧ SH r (own kS 9 A' n' c' y :: L) w' := by
  obtain ⟨hsz, hF⟩ := chk_some hF
  cases hF
  obtain ⟨S1, S2, h1, h2, hd, hA, hL⟩ := hS.head
  have hg := hA.2
  have hgl : g < w.heap.size := (Array.getElem?_eq_some_iff.1 hg).1
  have hln := ha.ln
  subst hln
  refine Calls.mono (sorted_values g w A c xs hsz hgl (by simp [World.cell?, hg]) fun hpos => ?_) ?_
  · obtain ⟨ad, e, hr⟩ := ha.rd w S2 hL hpos
    have hc : ∀ j x, xs[j]? = some x → w.cell? (ad.add j) = some (encStr x) := fun j x hx => by
      obtain ⟨cs, hV, h3⟩ := hr j x hx
      have hV' : cs = [str x] := hV
      subst hV'
      have := h3 0 (str x) rfl
      rw [show j * kS.sz + 0 = j from by show j * 1 + 0 = j; omega] at this
      exact this
    obtain ⟨x, hx⟩ : ∃ x, xs[0]? = some x := ⟨_, List.getElem?_eq_getElem hpos⟩
    have h0 := hc 0 x hx
    obtain ⟨b, off, sp⟩ := ad
    have hsp : sp = none := by simpa [Addr.add] using World.cell?_spot h0
    subst hsp
    refine ⟨b, off, e, ?_, fun j x hx => ?_⟩
    · have : w.cell? ⟨b, off, none⟩ = some (encStr x) := by simpa [Addr.add] using h0
      unfold World.cell? at this
      split at this
      · rename_i hq; exact (Array.getElem?_eq_some_iff.1 hq).1
      · cases this
    · have := hc j x hx
      unfold Addr.add at this
      split at this
      · rename_i hj; subst hj; exact this
      · exact this
  · rintro ev w' ⟨v, rfl, hr, _, hb⟩
    obtain ⟨A', n', c', rfl, hS'⟩ := hS.tail.newrow (d := kS) (xs := xs.mergeSort fun x y => decide (x ≤ y)) hb (by rw [List.length_mergeSort]; exact hr) (lay_kS _)
    exact ⟨_, rfl, A', n', c', rfl, hS'⟩
theorem F_slices_Compact {r w : World} {L : List HP} (xs : List (List UInt8)) {A : Option Addr} {n c : Nat} {y : List (List UInt8)} (hF : slices_Compact_string xs = some y) (hS : SH r (own kS 9 A n c xs :: L) w) :
    Ret Try.prog 55 #[.slice A n c] w fun v w' => ∃ (A' : Option Addr) (n' c' : Nat), v = .slice A' n' c' ∧ SH r (own kS 9 A' n' c' y :: L) w' := by
  cases hF
  obtain ⟨S1, S2, h1, h2, hd, hA, hL⟩ := hS.head
  obtain ⟨hn, ⟨inner, hLy, ho⟩, hg⟩ := hA
  subst hn
  have hle := own_le (d := kS) (e := 9) ⟨rfl, ⟨inner, hLy, ho⟩, hg⟩
  obtain rfl := lay_kS_eq hLy
  rcases ho.2 with ⟨hv, h0⟩ | ⟨g, cap, cur, hv, hg0, hh, hnc, hcm, hs, ht⟩
  · injection hv with e1 e2 e3
    subst e1; subst e3
    have hx : xs = [] := List.eq_nil_of_length_eq_zero h0
    subst hx
    have cC := Any.slices_Compact_string_empty Try.compactL none 0 w
    change Calls Try.prog 55 _ _ _ at cC
    refine cC.mono ?_
    rintro ev w' ⟨rfl, rfl⟩
    exact ⟨_, rfl, none, 0, 0, rfl, hS⟩
  · injection hv with e1 e2 e3
    subst e1; subst e3
    have hH : Go.Sort.Holds encStr w g 0 xs.toArray := holds_of_block hh (by rw [show xs.length * kS.sz = xs.length from by show _ * 1 = _; omega] at ht; exact ht)
    have cC := Any.slices_Compact_string Try.compactL g 0 c xs w hH (by unfold maxLen at hcm; omega) hnc
    change Calls Try.prog 55 _ _ _ at cC
    refine cC.mono ?_
    rintro ev w' ⟨rfl, q, rfl⟩
    have hcl : (Lib.compact xs).length ≤ xs.length := compact_len xs
    refine ⟨_, rfl, some ⟨g, 0, none⟩, (Lib.compact xs).length, c, rfl, ?_⟩
    have hr := ownsRow_sorted (w := w) (base := 0) (n := q) (os := #[]) (ss := xs) (ts := Lib.compact xs ++ List.replicate (xs.length - (Lib.compact xs).length) []) (by simp; omega) (Nat.zero_le _) hh hnc hcm hs
    rw [Go.Sort.grow_empty] at hr
    have hgb := grownBy_sorted (w := w) (g := g) (n := q) (os := #[]) (Lib.compact xs ++ List.replicate (xs.length - (Lib.compact xs).length) ([] : List UInt8)).toArray
    rw [Go.Sort.grow_empty] at hgb
    obtain ⟨q1, q2, q3, q4, q5⟩ := hgb
    refine hS.upd (Ls := [own kS 9 (some ⟨g, 0, none⟩) (Lib.compact xs).length c (Lib.compact xs)]) h1 h2 hd hL q1 q2 q3 q4 (fun k hk hnk => q5 k hk fun e => hnk (by cases e; exact hg g rfl)) fun S hSS _ _ => ?_
    refine ⟨S, fun _ => False, fun k hk => hk, fun k hk => hk.elim, fun k _ hk => hk, ⟨rfl, ⟨_, lay_kS _, ?_⟩, fun k hk => by cases hk; exact hSS g (hg g rfl)⟩, trivial⟩
    refine ⟨by simp [kS], ?_⟩
    rcases hr.2 with ⟨hv2, _⟩ | ⟨g2, cap2, cur2, hv2, _, hh2, hnc2, hcm2, hs2, ht2⟩
    · cases hv2
    · injection hv2 with e1 e2 e3
      injection e1 with e1
      injection e1 with e1
      subst e1; subst e3
      refine .inr ⟨g, c, cur2, rfl, Nat.zero_le _, hh2, by omega, hcm2, hs2, ?_⟩
      have h5 := congrArg (List.take (Lib.compact xs).length) ht2
      rw [List.take_take, Nat.min_eq_left (by omega), List.map_append, List.take_left' (by simp)] at h5
      rw [show (Lib.compact xs).length * kS.sz = (Lib.compact xs).length from by show _ * 1 = _; omega]
      exact h5
end Go.Proofs.Ythokgnonmcgkcaa.M
namespace Go.Proofs.Ythokgnonmcgkcaa.M
open Go Go.RowKit Go.Proofs.Ythokgnonmcgkcaa.E
set_option linter.unusedVariables false
set_option linter.unusedSimpArgs false
noncomputable def cmp_isNaN_string (a0 : (List UInt8)) : Option (Bool) :=
  some (!(a0 == a0))
noncomputable def slices_isNaN_string (a0 : (List UInt8)) : Option (Bool) :=
  some (!(a0 == a0))
noncomputable def cmp_Less_string (a0 : (List UInt8)) (a1 : (List UInt8)) : Option (Bool) :=
  (cmp_isNaN_string a0).bind fun y103 => (if y103 = true then ((cmp_isNaN_string a1).bind fun y106 => (if (!y106) = true then (some true) else (some (Op.bytesLess a0 a1)))) else (some (Op.bytesLess a0 a1)))
noncomputable def slices_BinarySearch_string_string_b1 (a0 : (List (List UInt8))) (a1 : (List UInt8)) (x520 : Int) : Option (Int × Bool) :=
  if (decide (x520 < (a0.length : Int))) = true then ((at_ a0 x520).bind fun x523 => (if (x523 == a1) = true then (some (x520, true)) else ((slices_isNaN_string x523).bind fun y528 => (if y528 = true then ((slices_isNaN_string a1).bind fun y531 => (some (x520, y531))) else (some (x520, false)))))) else (some (x520, false))
noncomputable def slices_BinarySearch_string_string_x1_0 (a0 : (List (List UInt8))) (a1 : (List UInt8)) (x625 : Int) : Option (Int × Bool) :=
  slices_BinarySearch_string_string_b1 a0 a1 x625
noncomputable def slices_BinarySearch_string_string_b2 (x649 : Int) (x650 : Int) : Option ((Int × Int) ⊕ ((Int))) :=
  some (.inl (x649, x650))
noncomputable def slices_BinarySearch_string_string_l1 (a0 : (List (List UInt8))) (a1 : (List UInt8)) (x578 : Int) (x579 : Int) : Option ((Int × Int) ⊕ ((Int))) :=
  if (decide (x578 < x579)) = true then (ltt (IntKind.i64.wrap (x578 + x579)) fun x652 => (ltt (IntKind.u64.wrap x652) fun x654 => (ltt (ishr .u64 x654 1) fun x656 => (ltt (IntKind.i64.wrap x656) fun x658 => ((at_ a0 x658).bind fun x661 => ((cmp_Less_string x661 a1).bind fun y664 => (if y664 = true then (ltt (IntKind.i64.wrap (x658 + 1)) fun x667 => (slices_BinarySearch_string_string_b2 x667 x579)) else (slices_BinarySearch_string_string_b2 x578 x658)))))))) else (some (.inr (x578)))
noncomputable def slices_BinarySearch_string_string (a0 : (List (List UInt8))) (a1 : (List UInt8)) : Option (Int × Bool) :=
  (loop (fun s => slices_BinarySearch_string_string_l1 a0 a1 s.1 s.2) (0, (a0.length : Int))).bind fun t => slices_BinarySearch_string_string_x1_0 a0 a1 t
noncomputable def r03_Texts_b3 (l35550 : (List Int)) (l52533 : (List Int)) : Option ((List Int)) :=
  (r03_Ints l52533).bind fun y52538 => (chk (l35550.length + y52538.length ≤ 140737488355328 / 1) (some (l35550 ++ y52538)))
noncomputable def r03_Texts_x1_6 (l35550 : (List Int)) (l56322 : (List Int)) : Option ((List Int)) :=
  r03_Texts_b3 l35550 l56322
noncomputable def r03_Texts_b4 (x54440 : Int) (l57966 : (List Int)) : Option (((List Int) × Int) ⊕ (((List Int)))) :=
  ltt (IntKind.i64.wrap (x54440 + 1)) fun x57970 => (some (.inl (l57966, x57970)))
noncomputable def r03_Texts_x2_8 (x54440 : Int) (l58127 : (List Int)) : Option (((List Int) × Int) ⊕ (((List Int)))) :=
  r03_Texts_b4 x54440 l58127
noncomputable def r03_Texts_b5 (x58051 : Int) (l58182 : (List Int)) : Option (((List Int) × Int) ⊕ (((List Int)))) :=
  ltt (IntKind.i64.wrap (x58051 + 1)) fun x58186 => (some (.inl (l58182, x58186)))
noncomputable def r03_Texts_l2 (a0 : (List (List UInt8))) (l35297 : (List (List UInt8))) (x54440 : Int) (l58047 : (List Int)) (x58051 : Int) : Option (((List Int) × Int) ⊕ (((List Int)))) :=
  if (decide (x58051 < (l35297.length : Int))) = true then ((at_ l35297 x58051).bind fun x58189 => ((at_ a0 x54440).bind fun x58192 => (if (x58189 == x58192) = true then (chk (l58047.length + [x58051].length ≤ 140737488355328 / 8) (r03_Texts_b5 x58051 (l58047 ++ [x58051]))) else (r03_Texts_b5 x58051 l58047)))) else (some (.inr (l58047)))
noncomputable def r03_Texts_l1 (a0 : (List (List UInt8))) (l35297 : (List (List UInt8))) (l54436 : (List Int)) (x54440 : Int) : Option (((List Int) × Int) ⊕ (((List Int)))) :=
  if (decide (x54440 < (a0.length : Int))) = true then ((loop (fun s => r03_Texts_l2 a0 l35297 x54440 s.1 s.2) (l54436, 0)).bind fun t => r03_Texts_x2_8 x54440 t) else (some (.inr (l54436)))
noncomputable def r03_Texts_b2 (a0 : (List (List UInt8))) (l35297 : (List (List UInt8))) (l35550 : (List Int)) : Option ((List Int)) :=
  (loop (fun s => r03_Texts_l1 a0 l35297 s.1 s.2) ([], 0)).bind fun t => r03_Texts_x1_6 l35550 t
noncomputable def r03_Texts_x3_4 (a0 : (List (List UInt8))) (l35297 : (List (List UInt8))) (l58254 : (List Int)) : Option ((List Int)) :=
  r03_Texts_b2 a0 l35297 l58254
noncomputable def r03_Texts_l3 (l35297 : (List (List UInt8))) (l58225 : (List Int)) (x58229 : Int) : Option (((List Int) × Int) ⊕ (((List Int)))) :=
  if (decide (x58229 < (l35297.length : Int))) = true then ((at_ l35297 x58229).bind fun x58264 => ((r03_Text x58264).bind fun y58267 => (chk (l58225.length + y58267.length ≤ 140737488355328 / 1) (ltt (IntKind.i64.wrap (x58229 + 1)) fun x58276 => (some (.inl (l58225 ++ y58267, x58276))))))) else (some (.inr (l58225)))
noncomputable def r03_Texts_b1 (a0 : (List (List UInt8))) (l35297 : (List (List UInt8))) : Option ((List Int)) :=
  ltt (IntKind.u64.wrap (l35297.length : Int)) fun x35302 => ((r03_Uint x35302).bind fun y35304 => ((loop (fun s => r03_Texts_l3 l35297 s.1 s.2) (y35304, 0)).bind fun t => r03_Texts_x3_4 a0 l35297 t))
noncomputable def r03_Texts_x4_0 (a0 : (List (List UInt8))) (l66101 : (List (List UInt8))) : Option ((List Int)) :=
  r03_Texts_b1 a0 l66101
noncomputable def r03_Texts_j1 (x62195 : Int) (l69026 : (List (List UInt8))) : Option (((List (List UInt8)) × Int) ⊕ (((List (List UInt8))))) :=
  ltt (IntKind.i64.wrap (x62195 + 1)) fun x69030 => (some (.inl (l69026, x69030)))
noncomputable def r03_Texts_b6 (a0 : (List (List UInt8))) (x62195 : Int) (l69010 : (List (List UInt8))) (b69014 : Bool) : Option (((List (List UInt8)) × Int) ⊕ (((List (List UInt8))))) :=
  if (!b69014) = true then ((at_ a0 x62195).bind fun x69034 => (chk (l69010.length + [x69034].length ≤ 140737488355328 / 16) (r03_Texts_j1 x62195 (l69010 ++ [x69034])))) else (r03_Texts_j1 x62195 l69010)
noncomputable def r03_Texts_x5_2 (a0 : (List (List UInt8))) (x62195 : Int) (l69678 : (List (List UInt8))) (b69682 : Bool) : Option (((List (List UInt8)) × Int) ⊕ (((List (List UInt8))))) :=
  r03_Texts_b6 a0 x62195 l69678 b69682
noncomputable def r03_Texts_b7 (x69351 : Int) (l69921 : (List (List UInt8))) (b69925 : Bool) : Option (((List (List UInt8)) × Bool × Int) ⊕ (((List (List UInt8)) × Bool))) :=
  ltt (IntKind.i64.wrap (x69351 + 1)) fun x69926 => (some (.inl (l69921, b69925, x69926)))
noncomputable def r03_Texts_j2 (a0 : (List (List UInt8))) (l62191 : (List (List UInt8))) (x62195 : Int) (x69351 : Int) (l69956 : (List (List UInt8))) (b69960 : Bool) : Option (((List (List UInt8)) × Bool × Int) ⊕ (((List (List UInt8)) × Bool))) :=
  (at_ l62191 x69351).bind fun x69962 => ((at_ a0 x62195).bind fun x69965 => (if (!(x69962 == x69965)) = true then (chk (l69956.length + [x69962].length ≤ 140737488355328 / 16) (r03_Texts_b7 x69351 (l69956 ++ [x69962]) b69960)) else (r03_Texts_b7 x69351 l69956 b69960)))
noncomputable def r03_Texts_j3 (a0 : (List (List UInt8))) (l62191 : (List (List UInt8))) (x62195 : Int) (l69346 : (List (List UInt8))) (b69350 : Bool) (x69351 : Int) (b69983 : Bool) : Option (((List (List UInt8)) × Bool × Int) ⊕ (((List (List UInt8)) × Bool))) :=
  if b69983 = true then ((at_ a0 x62195).bind fun x69986 => (chk (l69346.length + [x69986].length ≤ 140737488355328 / 16) (r03_Texts_j2 a0 l62191 x62195 x69351 (l69346 ++ [x69986]) true))) else (r03_Texts_j2 a0 l62191 x62195 x69351 l69346 b69350)
noncomputable def r03_Texts_l5 (a0 : (List (List UInt8))) (l62191 : (List (List UInt8))) (x62195 : Int) (l69346 : (List (List UInt8))) (b69350 : Bool) (x69351 : Int) : Option (((List (List UInt8)) × Bool × Int) ⊕ (((List (List UInt8)) × Bool))) :=
  if (decide (x69351 < (l62191.length : Int))) = true then (if (!b69350) = true then ((at_ l62191 x69351).bind fun x69995 => ((at_ a0 x62195).bind fun x69998 => (r03_Texts_j3 a0 l62191 x62195 l69346 b69350 x69351 (!Op.bytesLess x69995 x69998)))) else (r03_Texts_j3 a0 l62191 x62195 l69346 b69350 x69351 false)) else (some (.inr (l69346, b69350)))
noncomputable def r03_Texts_l4 (a0 : (List (List UInt8))) (l62191 : (List (List UInt8))) (x62195 : Int) : Option (((List (List UInt8)) × Int) ⊕ (((List (List UInt8))))) :=
  if (decide (x62195 < (a0.length : Int))) = true then ((loop (fun s => r03_Texts_l5 a0 l62191 x62195 s.1 s.2.1 s.2.2) ([], false, 0)).bind fun t => r03_Texts_x5_2 a0 x62195 t.1 t.2) else (some (.inr (l62191)))
noncomputable def r03_Texts (a0 : (List (List UInt8))) : Option ((List Int)) :=
  (loop (fun s => r03_Texts_l4 a0 s.1 s.2) ([], 0)).bind fun t => r03_Texts_x4_0 a0 t
noncomputable def column_Texts_b2 (l336 : (List Int)) (l606 : (List Int)) : Option ((List Int)) :=
  (column_Ints l606).bind fun y611 => (chk (l336.length + y611.length ≤ 140737488355328 / 1) (some (l336 ++ y611)))
noncomputable def column_Texts_x1_2 (l336 : (List Int)) (l681 : (List Int)) : Option ((List Int)) :=
  column_Texts_b2 l336 l681
noncomputable def column_Texts_l1 (a0 : (List (List UInt8))) (y109 : (List (List UInt8))) (l652 : (List Int)) (x656 : Int) : Option (((List Int) × Int) ⊕ (((List Int)))) :=
  if (decide (x656 < (a0.length : Int))) = true then ((at_ a0 x656).bind fun x692 => ((slices_BinarySearch_string_string y109 x692).bind fun y696 => (chk (l652.length + [y696.1].length ≤ 140737488355328 / 8) (ltt (IntKind.i64.wrap (x656 + 1)) fun x703 => (some (.inl (l652 ++ [y696.1], x703))))))) else (some (.inr (l652)))
noncomputable def column_Texts_b1 (a0 : (List (List UInt8))) (y109 : (List (List UInt8))) (l336 : (List Int)) : Option ((List Int)) :=
  (loop (fun s => column_Texts_l1 a0 y109 s.1 s.2) ([], 0)).bind fun t => column_Texts_x1_2 l336 t
noncomputable def column_Texts_x2_0 (a0 : (List (List UInt8))) (y109 : (List (List UInt8))) (l752 : (List Int)) : Option ((List Int)) :=
  column_Texts_b1 a0 y109 l752
noncomputable def column_Texts_l2 (y109 : (List (List UInt8))) (l726 : (List Int)) (x730 : Int) : Option (((List Int) × Int) ⊕ (((List Int)))) :=
  if (decide (x730 < (y109.length : Int))) = true then ((at_ y109 x730).bind fun x763 => ((column_Text l726 x763).bind fun y766 => (ltt (IntKind.i64.wrap (x730 + 1)) fun x771 => (some (.inl (y766, x771)))))) else (some (.inr (l726)))
noncomputable def column_Texts (a0 : (List (List UInt8))) : Option ((List Int)) :=
  (slices_Sorted_string a0).bind fun y104 => ((slices_Compact_string y104).bind fun y109 => (ltt (IntKind.u64.wrap (y109.length : Int)) fun x115 => ((column_Uint [] x115).bind fun y117 => ((loop (fun s => column_Texts_l2 y109 s.1 s.2) (y117, 0)).bind fun t => column_Texts_x2_0 a0 y109 t))))
end Go.Proofs.Ythokgnonmcgkcaa.M
namespace Go.Proofs.Ythokgnonmcgkcaa.M
open Go Go.RowKit Go.Proofs.Ythokgnonmcgkcaa.E
set_option linter.unusedVariables false
set_option linter.unusedSimpArgs false
set_option maxRecDepth 100000 in
set_option maxHeartbeats 4000000 in
theorem F_cmp_isNaN_string {r : World} {L : List HP} {w : World} (a0 : (List UInt8)) {y : (Bool)} (hF : cmp_isNaN_string a0 = some y) (hS : SH r (L) w) :
    Ret Try.prog 78 #[str a0] w fun v w' => v = .bool y ∧ SH r (L) w' := by
  refine enter Try.func78 rfl Try.ntmps78 [(0, str a0)] rfl (by simp) ?_
  intro ac hA Qf hQ hQn
  unfold cmp_isNaN_string at hF
  refine wp_seq_k fun K101 hK101 => ?_
  refine wp_reg ?_
  refine x_assign hA (fun ac hA => ?_) rfl rfl rfl rfl rfl
  refine wpList_nil ?_
  refine hK101 _ _ ?_
  refine wp_seq_k fun K102 hK102 => ?_
  refine wp_reg ?_
  refine x_move hA (fun ac hA => ?_) rfl rfl rfl rfl rfl
  refine x_move hA (fun ac hA => ?_) rfl rfl rfl rfl rfl
  refine x_val hA (r_neS rfl (hA.ev rfl) (hA.ev rfl)) (fun ac hA => ?_) rfl rfl rfl
  refine x_assign hA (fun ac hA => ?_) rfl rfl rfl rfl rfl
  refine wpList_nil ?_
  refine hK102 _ _ ?_
  refine wp_ret ?_
  cases hF
  refine hQ _ _ ?_
  refine lv Try.results78 hA rfl ?_
  exact ⟨rfl, hS⟩
set_option maxRecDepth 100000 in
set_option maxHeartbeats 4000000 in
theorem F_slices_isNaN_string {r : World} {L : List HP} {w : World} (a0 : (List UInt8)) {y : (Bool)} (hF : slices_isNaN_string a0 = some y) (hS : SH r (L) w) :
    Ret Try.prog 73 #[str a0] w fun v w' => v = .bool y ∧ SH r (L) w' := by
  refine enter Try.func73 rfl Try.ntmps73 [(0, str a0)] rfl (by simp) ?_
  intro ac hA Qf hQ hQn
  unfold slices_isNaN_string at hF
  refine wp_seq_k fun K101 hK101 => ?_
  refine wp_reg ?_
  refine x_assign hA (fun ac hA => ?_) rfl rfl rfl rfl rfl
  refine wpList_nil ?_
  refine hK101 _ _ ?_
  refine wp_seq_k fun K102 hK102 => ?_
  refine wp_reg ?_
  refine x_move hA (fun ac hA => ?_) rfl rfl rfl rfl rfl
  refine x_move hA (fun ac hA => ?_) rfl rfl rfl rfl rfl
  refine x_val hA (r_neS rfl (hA.ev rfl) (hA.ev rfl)) (fun ac hA => ?_) rfl rfl rfl
  refine x_assign hA (fun ac hA => ?_) rfl rfl rfl rfl rfl
  refine wpList_nil ?_
  refine hK102 _ _ ?_
  refine wp_ret ?_
  cases hF
  refine hQ _ _ ?_
  refine lv Try.results73 hA rfl ?_
  exact ⟨rfl, hS⟩
set_option maxRecDepth 100000 in
set_option maxHeartbeats 4000000 in
theorem F_cmp_Less_string {r : World} {L : List HP} {w : World} (a0 : (List UInt8)) (a1 : (List UInt8)) {y : (Bool)} (hF : cmp_Less_string a0 a1 = some y) (hS : SH r (L) w) :
    Ret Try.prog 72 #[str a0, str a1] w fun v w' => v = .bool y ∧ SH r (L) w' := by
  refine enter Try.func72 rfl Try.ntmps72 [(0, str a0), (1, str a1)] rfl (by simp) ?_
  intro ac hA Qf hQ hQn
  unfold cmp_Less_string at hF
  refine wp_seq_k fun K101 hK101 => ?_
  refine wp_reg ?_
  refine x_assign hA (fun ac hA => ?_) rfl rfl rfl rfl rfl
  refine wpList_nil ?_
  refine hK101 _ _ ?_
  refine wp_seq_k fun K102 hK102 => ?_
  refine wp_reg ?_
  refine x_move hA (fun ac hA => ?_) rfl rfl rfl rfl rfl
  obtain ⟨y103, h104, hF⟩ := bnd hF
  refine x_call en78 hA (F_cmp_isNaN_string (L := L) a0 h104 hS) (fun v ac w hR hA => ?_) rfl rfl rfl rfl rfl
  obtain ⟨rfl, hS⟩ := hR
  refine x_move hA (fun ac hA => ?_) rfl rfl rfl rfl rfl
  refine bcase (b := y103) (fun hb105 => ?_) fun hb105 => ?_
  · replace hF := ift hb105 hF
    refine x_on hb105 hA ?_ rfl rfl rfl
    refine x_move hA (fun ac hA => ?_) rfl rfl rfl rfl rfl
    refine x_on hb105 hA ?_ rfl rfl rfl
    obtain ⟨y106, h107, hF⟩ := bnd hF
    refine x_call en78 hA (F_cmp_isNaN_string (L := L) a1 h107 hS) (fun v ac w hR hA => ?_) rfl rfl rfl rfl rfl
    obtain ⟨rfl, hS⟩ := hR
    refine x_on hb105 hA ?_ rfl rfl rfl
    refine x_val hA (r_not rfl (hA.ev rfl)) (fun ac hA => ?_) rfl rfl rfl
    refine x_pickt hb105 hA (fun ac hA => ?_) rfl rfl rfl rfl rfl rfl
    refine x_move hA (fun ac hA => ?_) rfl rfl rfl rfl rfl
    refine bcase (b := !y106) (fun hb108 => ?_) fun hb108 => ?_
    · replace hF := ift hb108 hF
      refine x_off hb108 hA (fun ac hA => ?_) rfl rfl rfl rfl rfl
      refine x_off hb108 hA (fun ac hA => ?_) rfl rfl rfl rfl rfl
      refine x_off hb108 hA (fun ac hA => ?_) rfl rfl rfl rfl rfl
      refine x_pickt hb108 hA (fun ac hA => ?_) rfl rfl rfl rfl rfl rfl
      refine x_assign hA (fun ac hA => ?_) rfl rfl rfl rfl rfl
      refine wpList_nil ?_
      refine hK102 _ _ ?_
      refine wp_ret ?_
      cases hF
      refine hQ _ _ ?_
      refine lv Try.results72 hA rfl ?_
      exact ⟨rfl, hS⟩
    replace hF := iff' hb108 hF
    refine x_on hb108 hA ?_ rfl rfl rfl
    refine x_move hA (fun ac hA => ?_) rfl rfl rfl rfl rfl
    refine x_on hb108 hA ?_ rfl rfl rfl
    refine x_move hA (fun ac hA => ?_) rfl rfl rfl rfl rfl
    refine x_on hb108 hA ?_ rfl rfl rfl
    refine x_val hA (r_ltS rfl (hA.ev rfl) (hA.ev rfl)) (fun ac hA => ?_) rfl rfl rfl
    refine x_pickf hb108 hA (fun ac hA => ?_) rfl rfl rfl rfl rfl rfl
    refine x_assign hA (fun ac hA => ?_) rfl rfl rfl rfl rfl
    refine wpList_nil ?_
    refine hK102 _ _ ?_
    refine wp_ret ?_
    cases hF
    refine hQ _ _ ?_
    refine lv Try.results72 hA rfl ?_
    exact ⟨rfl, hS⟩
  replace hF := iff' hb105 hF
  refine x_off hb105 hA (fun ac hA => ?_) rfl rfl rfl rfl rfl
  refine x_off hb105 hA (fun ac hA => ?_) rfl rfl rfl rfl rfl
  refine x_off hb105 hA (fun ac hA => ?_) rfl rfl rfl rfl rfl
  refine x_pickf hb105 hA (fun ac hA => ?_) rfl rfl rfl rfl rfl rfl
  refine x_move hA (fun ac hA => ?_) rfl rfl rfl rfl rfl
  refine x_on rfl hA ?_ rfl rfl rfl
  refine x_move hA (fun ac hA => ?_) rfl rfl rfl rfl rfl
  refine x_on rfl hA ?_ rfl rfl rfl
  refine x_move hA (fun ac hA => ?_) rfl rfl rfl rfl rfl
  refine x_on rfl hA ?_ rfl rfl rfl
  refine x_val hA (r_ltS rfl (hA.ev rfl) (hA.ev rfl)) (fun ac hA => ?_) rfl rfl rfl
  refine x_pickf rfl hA (fun ac hA => ?_) rfl rfl rfl rfl rfl rfl
  refine x_assign hA (fun ac hA => ?_) rfl rfl rfl rfl rfl
  refine wpList_nil ?_
  refine hK102 _ _ ?_
  refine wp_ret ?_
  cases hF
  refine hQ _ _ ?_
  refine lv Try.results72 hA rfl ?_
  exact ⟨rfl, hS⟩
set_option maxRecDepth 100000 in
set_option maxHeartbeats 4000000 in
theorem F_slices_BinarySearch_string_string {r : World} {L : List HP} {w : World} (a0 : (List (List UInt8))) (a1 : (List UInt8)) (A0 : Option Addr) (n0 : Nat) (c0 : Nat) {y : (Int × Bool)} (hF : slices_BinarySearch_string_string a0 a1 = some y) (ha0 : RdL L kS A0 n0 c0 a0) (hS : SH r (L) w) :
    Ret Try.prog 59 #[.slice A0 n0 c0, str a1] w fun v w' => v = .tuple #[(.int .i64 y.1), (.bool y.2)] ∧ SH r (L) w' := by
  refine enter Try.func59 rfl Try.ntmps59 [(0, .slice A0 n0 c0), (1, str a1)] rfl (by simp) ?_
  intro ac hA Qf hQ hQn
  unfold slices_BinarySearch_string_string at hF
  refine wp_seq_k fun K101 hK101 => ?_
  refine wp_reg ?_
  refine x_assign hA (fun ac hA => ?_) rfl rfl rfl rfl rfl
  refine x_assign hA (fun ac hA => ?_) rfl rfl rfl rfl rfl
  refine wpList_nil ?_
  refine hK101 _ _ ?_
  refine wp_seq_k fun K102 hK102 => ?_
  refine wp_reg ?_
  refine x_move hA (fun ac hA => ?_) rfl rfl rfl rfl rfl
  refine x_len Try.underlying57 (hS.rdl 0 ha0 rfl).2.1 hA (fun ac hA => ?_) rfl rfl rfl rfl rfl
  refine x_assign hA (fun ac hA => ?_) rfl rfl rfl rfl rfl
  refine wpList_nil ?_
  refine hK102 _ _ ?_
  refine wp_seq_k fun K103 hK103 => ?_
  refine wp_reg ?_
  refine x_move hA (fun ac hA => ?_) rfl rfl rfl rfl rfl
  refine x_assign hA (fun ac hA => ?_) rfl rfl rfl rfl rfl
  refine x_assign hA (fun ac hA => ?_) rfl rfl rfl rfl rfl
  refine wpList_nil ?_
  refine hK103 _ _ ?_
  refine wp_seq_k fun K104 hK104 => ?_
  refine wp_block_k fun Kx382 hKx382 => ?_
  have hb1 : ∀ (x520 : Int), slices_BinarySearch_string_string_b1 a0 a1 x520 = some y → ∀ (ac : Act) (w : World), FR 54 [] ac [(0, .slice A0 n0 c0), (1, str a1), (6, .int .i64 (a0.length : Int)), (7, .int .i64 x520)] → SH r (L) w → Kx382 ac w := by
    intro x520 hF ac w hA hS
    unfold slices_BinarySearch_string_string_b1 at hF
    refine hKx382 _ _ ?_
    refine hK104 _ _ ?_
    refine wp_seq_k fun K521 hK521 => ?_
    refine wp_reg ?_
    refine x_move hA (fun ac hA => ?_) rfl rfl rfl rfl rfl
    refine x_move hA (fun ac hA => ?_) rfl rfl rfl rfl rfl
    refine x_move hA (fun ac hA => ?_) rfl rfl rfl rfl rfl
    refine x_val hA (r_ltI rfl (hA.ev rfl) (hA.ev rfl)) (fun ac hA => ?_) rfl rfl rfl
    refine x_move hA (fun ac hA => ?_) rfl rfl rfl rfl rfl
    refine bcase (b := decide (x520 < (a0.length : Int))) (fun hb522 => ?_) fun hb522 => ?_
    · replace hF := ift hb522 hF
      refine x_on hb522 hA ?_ rfl rfl rfl
      refine x_move hA (fun ac hA => ?_) rfl rfl rfl rfl rfl
      refine x_on hb522 hA ?_ rfl rfl rfl
      refine x_move hA (fun ac hA => ?_) rfl rfl rfl rfl rfl
      refine x_on hb522 hA ?_ rfl rfl rfl
      obtain ⟨x523, h524, hF⟩ := bnd hF
      refine x_ia Try.underlying57 sz9 (hS.rdl 0 ha0 rfl) h524 hA (fun ac hA => ?_) rfl rfl rfl rfl rfl rfl
      refine x_on hb522 hA ?_ rfl rfl rfl
      obtain ⟨cs, hV, hc525⟩ := el (hS.rdl 0 ha0 rfl) h524
      obtain rfl := hV
      refine x_ld Try.underlying9 (hc525 0 _ rfl) hA (fun ac hA => ?_) rfl rfl rfl rfl rfl rfl
      refine x_on hb522 hA ?_ rfl rfl rfl
      refine x_move hA (fun ac hA => ?_) rfl rfl rfl rfl rfl
      refine x_on hb522 hA ?_ rfl rfl rfl
      refine x_val hA (r_eqS rfl (hA.ev rfl) (hA.ev rfl)) (fun ac hA => ?_) rfl rfl rfl
      refine x_on hb522 hA ?_ rfl rfl rfl
      refine x_move hA (fun ac hA => ?_) rfl rfl rfl rfl rfl
      refine bcase (b := x523 == a1) (fun hb526 => ?_) fun hb526 => ?_
      · replace hF := ift hb526 hF
        refine x_off hb526 hA (fun ac hA => ?_) rfl rfl rfl rfl rfl
        refine x_off hb526 hA (fun ac hA => ?_) rfl rfl rfl rfl rfl
        refine x_off hb526 hA (fun ac hA => ?_) rfl rfl rfl rfl rfl
        refine x_off hb526 hA (fun ac hA => ?_) rfl rfl rfl rfl rfl
        refine x_off hb526 hA (fun ac hA => ?_) rfl rfl rfl rfl rfl
        refine x_off hb526 hA (fun ac hA => ?_) rfl rfl rfl rfl rfl
        refine x_offU hA (fun ac hA => ?_) rfl rfl rfl rfl rfl
        refine x_offU hA (fun ac hA => ?_) rfl rfl rfl rfl rfl
        refine x_off hb526 hA (fun ac hA => ?_) rfl rfl rfl rfl rfl
        refine x_on hb522 hA ?_ rfl rfl rfl
        refine x_pickt hb526 hA (fun ac hA => ?_) rfl rfl rfl rfl rfl rfl
        refine x_pickt hb522 hA (fun ac hA => ?_) rfl rfl rfl rfl rfl rfl
        refine x_assign hA (fun ac hA => ?_) rfl rfl rfl rfl rfl
        refine x_assign hA (fun ac hA => ?_) rfl rfl rfl rfl rfl
        refine wpList_nil ?_
        refine hK521 _ _ ?_
        refine wp_ret ?_
        cases hF
        refine hQ _ _ ?_
        refine lv2 Try.results59 hA rfl rfl ?_
        exact ⟨rfl, hS⟩
      replace hF := iff' hb526 hF
      refine x_on hb526 hA ?_ rfl rfl rfl
      refine x_move hA (fun ac hA => ?_) rfl rfl rfl rfl rfl
      refine x_on hb526 hA ?_ rfl rfl rfl
      refine x_move hA (fun ac hA => ?_) rfl rfl rfl rfl rfl
      refine x_on hb526 hA ?_ rfl rfl rfl
      refine x_ia Try.underlying57 sz9 (hS.rdl 0 ha0 rfl) h524 hA (fun ac hA => ?_) rfl rfl rfl rfl rfl rfl
      refine x_on hb526 hA ?_ rfl rfl rfl
      obtain ⟨cs, hV, hc527⟩ := el (hS.rdl 0 ha0 rfl) h524
      obtain rfl := hV
      refine x_ld Try.underlying9 (hc527 0 _ rfl) hA (fun ac hA => ?_) rfl rfl rfl rfl rfl rfl
      refine x_on hb526 hA ?_ rfl rfl rfl
      obtain ⟨y528, h529, hF⟩ := bnd hF
      refine x_call en73 hA (F_slices_isNaN_string (L := L) x523 h529 hS) (fun v ac w hR hA => ?_) rfl rfl rfl rfl rfl
      obtain ⟨rfl, hS⟩ := hR
      refine x_on hb526 hA ?_ rfl rfl rfl
      refine x_move hA (fun ac hA => ?_) rfl rfl rfl rfl rfl
      refine bcase (b := y528) (fun hb530 => ?_) fun hb530 => ?_
      · replace hF := ift hb530 hF
        refine x_on hb530 hA ?_ rfl rfl rfl
        refine x_move hA (fun ac hA => ?_) rfl rfl rfl rfl rfl
        refine x_on hb530 hA ?_ rfl rfl rfl
        obtain ⟨y531, h532, hF⟩ := bnd hF
        refine x_call en73 hA (F_slices_isNaN_string (L := L) a1 h532 hS) (fun v ac w hR hA => ?_) rfl rfl rfl rfl rfl
        obtain ⟨rfl, hS⟩ := hR
        refine x_on hb526 hA ?_ rfl rfl rfl
        refine x_pickt hb530 hA (fun ac hA => ?_) rfl rfl rfl rfl rfl rfl
        refine x_on hb522 hA ?_ rfl rfl rfl
        refine x_pickf hb526 hA (fun ac hA => ?_) rfl rfl rfl rfl rfl rfl
        refine x_pickt hb522 hA (fun ac hA => ?_) rfl rfl rfl rfl rfl rfl
        refine x_assign hA (fun ac hA => ?_) rfl rfl rfl rfl rfl
        refine x_assign hA (fun ac hA => ?_) rfl rfl rfl rfl rfl
        refine wpList_nil ?_
        refine hK521 _ _ ?_
        refine wp_ret ?_
        cases hF
        refine hQ _ _ ?_
        refine lv2 Try.results59 hA rfl rfl ?_
        exact ⟨rfl, hS⟩
      replace hF := iff' hb530 hF
      refine x_off hb530 hA (fun ac hA => ?_) rfl rfl rfl rfl rfl
      refine x_off hb530 hA (fun ac hA => ?_) rfl rfl rfl rfl rfl
      refine x_on hb526 hA ?_ rfl rfl rfl
      refine x_pickf hb530 hA (fun ac hA => ?_) rfl rfl rfl rfl rfl rfl
      refine x_on hb522 hA ?_ rfl rfl rfl
      refine x_pickf hb526 hA (fun ac hA => ?_) rfl rfl rfl rfl rfl rfl
      refine x_pickt hb522 hA (fun ac hA => ?_) rfl rfl rfl rfl rfl rfl
      refine x_assign hA (fun ac hA => ?_) rfl rfl rfl rfl rfl
      refine x_assign hA (fun ac hA => ?_) rfl rfl rfl rfl rfl
      refine wpList_nil ?_
      refine hK521 _ _ ?_
      refine wp_ret ?_
      cases hF
      refine hQ _ _ ?_
      refine lv2 Try.results59 hA rfl rfl ?_
      exact ⟨rfl, hS⟩
    replace hF := iff' hb522 hF
    refine x_off hb522 hA (fun ac hA => ?_) rfl rfl rfl rfl rfl
    refine x_off hb522 hA (fun ac hA => ?_) rfl rfl rfl rfl rfl
    refine x_off hb522 hA (fun ac hA => ?_) rfl rfl rfl rfl rfl
    refine x_off hb522 hA (fun ac hA => ?_) rfl rfl rfl rfl rfl
    refine x_off hb522 hA (fun ac hA => ?_) rfl rfl rfl rfl rfl
    refine x_off hb522 hA (fun ac hA => ?_) rfl rfl rfl rfl rfl
    refine x_off hb522 hA (fun ac hA => ?_) rfl rfl rfl rfl rfl
    refine x_offU hA (fun ac hA => ?_) rfl rfl rfl rfl rfl
    refine x_offU hA (fun ac hA => ?_) rfl rfl rfl rfl rfl
    refine x_offU hA (fun ac hA => ?_) rfl rfl rfl rfl rfl
    refine x_offU hA (fun ac hA => ?_) rfl rfl rfl rfl rfl
    refine x_offU hA (fun ac hA => ?_) rfl rfl rfl rfl rfl
    refine x_offU hA (fun ac hA => ?_) rfl rfl rfl rfl rfl
    refine x_offU hA (fun ac hA => ?_) rfl rfl rfl rfl rfl
    refine x_offU hA (fun ac hA => ?_) rfl rfl rfl rfl rfl
    refine x_offU hA (fun ac hA => ?_) rfl rfl rfl rfl rfl
    refine x_off hb522 hA (fun ac hA => ?_) rfl rfl rfl rfl rfl
    refine x_pickf hb522 hA (fun ac hA => ?_) rfl rfl rfl rfl rfl rfl
    refine x_assign hA (fun ac hA => ?_) rfl rfl rfl rfl rfl
    refine x_assign hA (fun ac hA => ?_) rfl rfl rfl rfl rfl
    refine wpList_nil ?_
    refine hK521 _ _ ?_
    refine wp_ret ?_
    cases hF
    refine hQ _ _ ?_
    refine lv2 Try.results59 hA rfl rfl ?_
    exact ⟨rfl, hS⟩
  obtain ⟨t625, hl625, hF⟩ := bnd hF
  have hx625_0 : ∀ (x625 : Int), (x625) = t625 → ∀ (ac : Act) (w : World), FR 54 [] ac [(0, .slice A0 n0 c0), (1, str a1), (6, .int .i64 (a0.length : Int)), (7, .int .i64 x625)] → SH r (L) w → Kx382 ac w := by
    intro x625 ht ac w hA hS
    subst ht
    replace hF : slices_BinarySearch_string_string_x1_0 a0 a1 x625 = some y := hF
    unfold slices_BinarySearch_string_string_x1_0 at hF
    exact hb1 x625 hF ac w (hA.sub _ rfl) hS
  refine wp_loop_fn hl625 (fun s ac w => FR 54 [] ac [(0, .slice A0 n0 c0), (1, str a1), (6, .int .i64 (a0.length : Int)), (7, .int .i64 s.1), (8, .int .i64 s.2)] ∧ SH r (L) w) ⟨hA.sub _ rfl, hS⟩ ?_
  intro N625 s625 o625 hF N625_ T625_ ac w hLab
  obtain ⟨x578, x579⟩ := s625
  replace hF : slices_BinarySearch_string_string_l1 a0 a1 x578 x579 = some o625 := hF
  unfold slices_BinarySearch_string_string_l1 at hF
  try dsimp only at hLab
  obtain ⟨hA, hS⟩ := hLab
  refine wp_seq_k fun K627 hK627 => ?_
  refine wp_seq_k fun K628 hK628 => ?_
  refine wp_reg ?_
  refine x_move hA (fun ac hA => ?_) rfl rfl rfl rfl rfl
  refine x_move hA (fun ac hA => ?_) rfl rfl rfl rfl rfl
  refine x_val hA (r_ltI rfl (hA.ev rfl) (hA.ev rfl)) (fun ac hA => ?_) rfl rfl rfl
  refine wpList_nil ?_
  refine hK628 _ _ ?_
  refine c_if hA rfl (fun hb629 => ?_) fun hb629 => ?_
  · replace hF := ift hb629 hF
    refine wp_skip ?_
    refine hK627 _ _ ?_
    refine wp_block_k fun Kx630 hKx630 => ?_
    have hb2 : ∀ (x649 : Int) (x650 : Int), slices_BinarySearch_string_string_b2 x649 x650 = some o625 → ∀ (ac : Act) (w : World), FR 54 [] ac [(0, .slice A0 n0 c0), (1, str a1), (6, .int .i64 (a0.length : Int)), (7, .int .i64 x649), (8, .int .i64 x650)] → SH r (L) w → Kx630 ac w := by
      intro x649 x650 hF ac w hA hS
      unfold slices_BinarySearch_string_string_b2 at hF
      refine hKx630 _ _ ?_
      cases hF
      exact ⟨_, N625_ _ rfl, hA.sub _ rfl, hS⟩
    refine wp_seq_k fun K651 hK651 => ?_
    refine wp_reg ?_
    refine x_move hA (fun ac hA => ?_) rfl rfl rfl rfl rfl
    refine x_move hA (fun ac hA => ?_) rfl rfl rfl rfl rfl
    obtain ⟨x652, h653, hF⟩ := ltt_ hF
    refine x_val (v := .int .i64 x652) hA (rv_i h653 (r_add rfl (hA.ev rfl) (hA.ev rfl))) (fun ac hA => ?_) rfl rfl rfl
    obtain ⟨x654, h655, hF⟩ := ltt_ hF
    refine x_val (v := .int .u64 x654) hA (rv_i h655 (r_convI Try.underlying3 Try.underlying73 rfl (hA.ev rfl))) (fun ac hA => ?_) rfl rfl rfl
    obtain ⟨x656, h657, hF⟩ := ltt_ hF
    refine x_val (v := .int .u64 x656) hA (rv_i h657 (r_shr rfl (hA.ev rfl) (hA.ev rfl) (by decide))) (fun ac hA => ?_) rfl rfl rfl
    obtain ⟨x658, h659, hF⟩ := ltt_ hF
    refine x_val (v := .int .i64 x658) hA (rv_i h659 (r_convI Try.underlying73 Try.underlying3 rfl (hA.ev rfl))) (fun ac hA => ?_) rfl rfl rfl
    refine x_assign hA (fun ac hA => ?_) rfl rfl rfl rfl rfl
    refine wpList_nil ?_
    refine hK651 _ _ ?_
    refine wp_seq_k fun K660 hK660 => ?_
    refine wp_reg ?_
    refine x_move hA (fun ac hA => ?_) rfl rfl rfl rfl rfl
    refine x_move hA (fun ac hA => ?_) rfl rfl rfl rfl rfl
    obtain ⟨x661, h662, hF⟩ := bnd hF
    refine x_ia Try.underlying57 sz9 (hS.rdl 0 ha0 rfl) h662 hA (fun ac hA => ?_) rfl rfl rfl rfl rfl rfl
    obtain ⟨cs, hV, hc663⟩ := el (hS.rdl 0 ha0 rfl) h662
    obtain rfl := hV
    refine x_ld Try.underlying9 (hc663 0 _ rfl) hA (fun ac hA => ?_) rfl rfl rfl rfl rfl rfl
    refine x_move hA (fun ac hA => ?_) rfl rfl rfl rfl rfl
    obtain ⟨y664, h665, hF⟩ := bnd hF
    refine x_call en72 hA (F_cmp_Less_string (L := L) x661 a1 h665 hS) (fun v ac w hR hA => ?_) rfl rfl rfl rfl rfl
    obtain ⟨rfl, hS⟩ := hR
    refine wpList_nil ?_
    refine hK660 _ _ ?_
    refine c_if hA rfl (fun hb666 => ?_) fun hb666 => ?_
    · replace hF := ift hb666 hF
      refine wp_reg ?_
      refine x_move hA (fun ac hA => ?_) rfl rfl rfl rfl rfl
      obtain ⟨x667, h668, hF⟩ := ltt_ hF
      refine x_val (v := .int .i64 x667) hA (rv_i h668 (r_add rfl (hA.ev rfl) (hA.ev rfl))) (fun ac hA => ?_) rfl rfl rfl
      refine x_assign hA (fun ac hA => ?_) rfl rfl rfl rfl rfl
      refine wpList_nil ?_
      exact hb2 x667 x579 hF ac w (hA.sub _ rfl) hS
    replace hF := iff' hb666 hF
    refine wp_reg ?_
    refine x_move hA (fun ac hA => ?_) rfl rfl rfl rfl rfl
    refine x_assign hA (fun ac hA => ?_) rfl rfl rfl rfl rfl
    refine wpList_nil ?_
    exact hb2 x578 x658 hF ac w (hA.sub _ rfl) hS
  replace hF := iff' hb629 hF
  refine wp_exit ?_
  cases hF
  exact hx625_0 x578 (T625_ _ rfl) ac w (hA.sub _ rfl) hS
set_option maxRecDepth 100000 in
set_option maxHeartbeats 4000000 in
theorem F_r03_Texts {r : World} {L : List HP} {w : World} (a0 : (List (List UInt8))) (A0 : Option Addr) (n0 : Nat) (c0 : Nat) {y : ((List Int))} (hF : r03_Texts a0 = some y) (ha0 : RdL L kS A0 n0 c0 a0) (hS : SH r (L) w) :
    Ret Try.prog 38 #[.slice A0 n0 c0] w fun v w' => ∃ (B0 : Option Addr) (m0 : Nat) (d0 : Nat), v = .slice B0 m0 d0 ∧ SH r (own (kI .u8) 5 B0 m0 d0 y :: L) w' := by
  refine enter Try.func38 rfl Try.ntmps38 [(0, .slice A0 n0 c0)] rfl (by simp) ?_
  intro ac hA Qf hQ hQn
  unfold r03_Texts at hF
  refine wp_seq_k fun K101 hK101 => ?_
  refine wp_reg ?_
  refine x_assign hA (fun ac hA => ?_) rfl rfl rfl rfl rfl
  refine wpList_nil ?_
  refine hK101 _ _ ?_
  refine wp_seq_k fun K102 hK102 => ?_
  refine wp_reg ?_
  refine x_assign hA (fun ac hA => ?_) rfl rfl rfl rfl rfl
  refine wpList_nil ?_
  refine hK102 _ _ ?_
  refine wp_seq_k fun K103 hK103 => ?_
  refine wp_seq_k fun K23567 hK23567 => ?_
  refine wp_reg ?_
  refine x_assign hA (fun ac hA => ?_) rfl rfl rfl rfl rfl
  refine wpList_nil ?_
  refine hK23567 _ _ ?_
  refine wp_block_k fun Kx23568 hKx23568 => ?_
  have hb1 : ∀ (l35297 : (List (List UInt8))), r03_Texts_b1 a0 l35297 = some y → ∀ (A35298 : Option Addr) (n35299 : Nat) (c35300 : Nat) (ac : Act) (w : World), FR 117 [] ac [(0, .slice A0 n0 c0), (3, .slice A35298 n35299 c35300)] → SH r (own kS 9 A35298 n35299 c35300 l35297 :: L) w → Kx23568 ac w := by
    intro l35297 hF A35298 n35299 c35300 ac w hA hS
    unfold r03_Texts_b1 at hF
    refine hKx23568 _ _ ?_
    refine hK103 _ _ ?_
    refine wp_seq_k fun K35301 hK35301 => ?_
    refine wp_reg ?_
    refine x_move hA (fun ac hA => ?_) rfl rfl rfl rfl rfl
    refine x_len Try.underlying57 (hS.rd 0 rfl).2.1 hA (fun ac hA => ?_) rfl rfl rfl rfl rfl
    obtain ⟨x35302, h35303, hF⟩ := ltt_ hF
    refine x_val (v := .int .u64 x35302) hA (rv_i h35303 (r_convI Try.underlying3 Try.underlying29 rfl (hA.ev rfl))) (fun ac hA => ?_) rfl rfl rfl
    obtain ⟨y35304, h35305, hF⟩ := bnd hF
    refine x_call en45 hA (F_r03_Uint (L := own kS 9 A35298 n35299 c35300 l35297 :: L) x35302 h35305 hS) (fun v ac w hR hA => ?_) rfl rfl rfl rfl rfl
    obtain ⟨B35306, m35307, d35308, rfl, hS⟩ := hR
    refine x_assign hA (fun ac hA => ?_) rfl rfl rfl rfl rfl
    refine wpList_nil ?_
    refine hK35301 _ _ ?_
    refine wp_seq_k fun K35309 hK35309 => ?_
    refine wp_seq_k fun K35471 hK35471 => ?_
    refine wp_reg ?_
    refine x_assign hA (fun ac hA => ?_) rfl rfl rfl rfl rfl
    refine wpList_nil ?_
    refine hK35471 _ _ ?_
    refine wp_block_k fun Kx35472 hKx35472 => ?_
    have hb2 : ∀ (l35550 : (List Int)), r03_Texts_b2 a0 l35297 l35550 = some y → ∀ (A35551 : Option Addr) (n35552 : Nat) (c35553 : Nat) (ac : Act) (w : World), FR 117 [] ac [(0, .slice A0 n0 c0), (3, .slice A35298 n35299 c35300), (8, .slice A35551 n35552 c35553)] → SH r (own kS 9 A35298 n35299 c35300 l35297 :: own (kI .u8) 5 A35551 n35552 c35553 l35550 :: L) w → Kx35472 ac w := by
      intro l35550 hF A35551 n35552 c35553 ac w hA hS
      unfold r03_Texts_b2 at hF
      refine hKx35472 _ _ ?_
      refine hK35309 _ _ ?_
      refine wp_seq_k fun K35554 hK35554 => ?_
      refine wp_reg ?_
      refine x_assign hA (fun ac hA => ?_) rfl rfl rfl rfl rfl
      refine wpList_nil ?_
      refine hK35554 _ _ ?_
      refine wp_seq_k fun K35555 hK35555 => ?_
      refine wp_seq_k fun K46875 hK46875 => ?_
      refine wp_reg ?_
      refine x_assign hA (fun ac hA => ?_) rfl rfl rfl rfl rfl
      refine wpList_nil ?_
      refine hK46875 _ _ ?_
      refine wp_block_k fun Kx46876 hKx46876 => ?_
      have hb3 : ∀ (l52533 : (List Int)), r03_Texts_b3 l35550 l52533 = some y → ∀ (A52534 : Option Addr) (n52535 : Nat) (c52536 : Nat) (ac : Act) (w : World), FR 117 [] ac [(8, .slice A35551 n35552 c35553), (10, .slice A52534 n52535 c52536)] → SH r (own (kI .u8) 5 A35551 n35552 c35553 l35550 :: own (kI .i64) 2 A52534 n52535 c52536 l52533 :: L) w → Kx46876 ac w := by
        intro l52533 hF A52534 n52535 c52536 ac w hA hS
        unfold r03_Texts_b3 at hF
        refine hKx46876 _ _ ?_
        refine hK35555 _ _ ?_
        refine wp_seq_k fun K52537 hK52537 => ?_
        refine wp_reg ?_
        refine x_move hA (fun ac hA => ?_) rfl rfl rfl rfl rfl
        refine x_move hA (fun ac hA => ?_) rfl rfl rfl rfl rfl
        obtain ⟨y52538, h52539, hF⟩ := bnd hF
        refine x_call en23 hA (F_r03_Ints (L := own (kI .u8) 5 A35551 n35552 c35553 l35550 :: own (kI .i64) 2 A52534 n52535 c52536 l52533 :: L) l52533 A52534 n52535 c52536 h52539 (RdL.own 1 rfl (hS.dropN 0)) hS) (fun v ac w hR hA => ?_) rfl rfl rfl rfl rfl
        obtain ⟨B52540, m52541, d52542, rfl, hS⟩ := hR
        obtain ⟨h52543, hF⟩ := chk_some hF
        have hr := hS.rd 0 rfl
        refine x_app 1 inf5 Try.underlying22 hA hS hr.1 hr.2.1 h52543 rfl (fun A52544 n52545 c52546 ac w hS hA => ?_) rfl rfl rfl rfl rfl rfl rfl rfl rfl
        refine x_assign hA (fun ac hA => ?_) rfl rfl rfl rfl rfl
        refine wpList_nil ?_
        refine hK52537 _ _ ?_
        refine wp_ret ?_
        replace hS := hS.drop 1
        replace hS := hS.drop 1
        cases hF
        refine hQ _ _ ?_
        refine lv Try.results38 hA rfl ?_
        exact ⟨A52544, n52545, c52546, rfl, hS⟩
      obtain ⟨t56325, hl56325, hF⟩ := bnd hF
      have hx56325_6 : ∀ (l56322 : (List Int)), (l56322) = t56325 → ∀ (A56323 : Option Addr) (n56324 : Nat) (c56325 : Nat) (ac : Act) (w : World), FR 117 [] ac [(8, .slice A35551 n35552 c35553), (10, .slice A56323 n56324 c56325)] → SH r (own (kI .u8) 5 A35551 n35552 c35553 l35550 :: own (kI .i64) 2 A56323 n56324 c56325 l56322 :: L) w → Kx46876 ac w := by
        intro l56322 ht A56323 n56324 c56325 ac w hA hS
        subst ht
        replace hF : r03_Texts_x1_6 l35550 l56322 = some y := hF
        unfold r03_Texts_x1_6 at hF
        exact hb3 l56322 hF A56323 n56324 c56325 ac w (hA.sub _ rfl) hS
      replace hS := SH.nil_own (d := (kI .i64)) (e := 2) hS
      replace hS := hS.pk 2
      replace hS := hS.pk 2
      refine wp_loop_fn hl56325 (fun s ac w => ∃ (A54437 : Option Addr) (n54438 : Nat) (c54439 : Nat), FR 117 [] ac [(0, .slice A0 n0 c0), (3, .slice A35298 n35299 c35300), (8, .slice A35551 n35552 c35553), (10, .slice A54437 n54438 c54439), (11, .int .i64 s.2)] ∧ SH r (own kS 9 A35298 n35299 c35300 l35297 :: own (kI .u8) 5 A35551 n35552 c35553 l35550 :: own (kI .i64) 2 A54437 n54438 c54439 s.1 :: L) w) ⟨none, 0, 0, hA.sub _ rfl, hS⟩ ?_
      intro N56325 s56325 o56325 hF N56325_ T56325_ ac w hLab
      obtain ⟨l54436, x54440⟩ := s56325
      replace hF : r03_Texts_l1 a0 l35297 l54436 x54440 = some o56325 := hF
      unfold r03_Texts_l1 at hF
      try dsimp only at hLab
      obtain ⟨A54437, n54438, c54439, hA, hS⟩ := hLab
      refine wp_seq_k fun K56327 hK56327 => ?_
      refine wp_seq_k fun K56328 hK56328 => ?_
      refine wp_reg ?_
      refine x_move hA (fun ac hA => ?_) rfl rfl rfl rfl rfl
      refine x_move hA (fun ac hA => ?_) rfl rfl rfl rfl rfl
      refine x_len Try.underlying57 (hS.rdl 3 ha0 rfl).2.1 hA (fun ac hA => ?_) rfl rfl rfl rfl rfl
      refine x_val hA (r_ltI rfl (hA.ev rfl) (hA.ev rfl)) (fun ac hA => ?_) rfl rfl rfl
      refine wpList_nil ?_
      refine hK56328 _ _ ?_
      refine c_if hA rfl (fun hb56329 => ?_) fun hb56329 => ?_
      · replace hF := ift hb56329 hF
        refine wp_skip ?_
        refine hK56327 _ _ ?_
        refine wp_seq_k fun K56330 hK56330 => ?_
        refine wp_block_k fun Kx57266 hKx57266 => ?_
        refine wp_seq_k fun K57734 hK57734 => ?_
        refine wp_reg ?_
        refine x_assign hA (fun ac hA => ?_) rfl rfl rfl rfl rfl
        refine wpList_nil ?_
        refine hK57734 _ _ ?_
        refine wp_block_k fun Kx57735 hKx57735 => ?_
        have hb4 : ∀ (l57966 : (List Int)), r03_Texts_b4 x54440 l57966 = some o56325 → ∀ (A57967 : Option Addr) (n57968 : Nat) (c57969 : Nat) (ac : Act) (w : World), FR 117 [] ac [(0, .slice A0 n0 c0), (3, .slice A35298 n35299 c35300), (8, .slice A35551 n35552 c35553), (10, .slice A57967 n57968 c57969), (11, .int .i64 x54440)] → SH r (own kS 9 A35298 n35299 c35300 l35297 :: own (kI .u8) 5 A35551 n35552 c35553 l35550 :: own (kI .i64) 2 A57967 n57968 c57969 l57966 :: L) w → Kx57735 ac w := by
          intro l57966 hF A57967 n57968 c57969 ac w hA hS
          unfold r03_Texts_b4 at hF
          refine hKx57735 _ _ ?_
          refine hKx57266 _ _ ?_
          refine hK56330 _ _ ?_
          refine wp_reg ?_
          refine x_move hA (fun ac hA => ?_) rfl rfl rfl rfl rfl
          obtain ⟨x57970, h57971, hF⟩ := ltt_ hF
          refine x_val (v := .int .i64 x57970) hA (rv_i h57971 (r_add rfl (hA.ev rfl) (hA.ev rfl))) (fun ac hA => ?_) rfl rfl rfl
          refine x_assign hA (fun ac hA => ?_) rfl rfl rfl rfl rfl
          refine wpList_nil ?_
          cases hF
          exact ⟨_, N56325_ _ rfl, A57967, n57968, c57969, hA.sub _ rfl, hS⟩
        obtain ⟨t58130, hl58130, hF⟩ := bnd hF
        have hx58130_8 : ∀ (l58127 : (List Int)), (l58127) = t58130 → ∀ (A58128 : Option Addr) (n58129 : Nat) (c58130 : Nat) (ac : Act) (w : World), FR 117 [] ac [(0, .slice A0 n0 c0), (3, .slice A35298 n35299 c35300), (8, .slice A35551 n35552 c35553), (10, .slice A58128 n58129 c58130), (11, .int .i64 x54440)] → SH r (own kS 9 A35298 n35299 c35300 l35297 :: own (kI .u8) 5 A35551 n35552 c35553 l35550 :: own (kI .i64) 2 A58128 n58129 c58130 l58127 :: L) w → Kx57735 ac w := by
          intro l58127 ht A58128 n58129 c58130 ac w hA hS
          subst ht
          replace hF : r03_Texts_x2_8 x54440 l58127 = some o56325 := hF
          unfold r03_Texts_x2_8 at hF
          exact hb4 l58127 hF A58128 n58129 c58130 ac w (hA.sub _ rfl) hS
        refine wp_loop_fn hl58130 (fun s ac w => ∃ (A58048 : Option Addr) (n58049 : Nat) (c58050 : Nat), FR 117 [] ac [(0, .slice A0 n0 c0), (3, .slice A35298 n35299 c35300), (8, .slice A35551 n35552 c35553), (10, .slice A58048 n58049 c58050), (11, .int .i64 x54440), (12, .int .i64 s.2)] ∧ SH r (own kS 9 A35298 n35299 c35300 l35297 :: own (kI .u8) 5 A35551 n35552 c35553 l35550 :: own (kI .i64) 2 A58048 n58049 c58050 s.1 :: L) w) ⟨A54437, n54438, c54439, hA.sub _ rfl, hS⟩ ?_
        intro N58130 s58130 o58130 hF N58130_ T58130_ ac w hLab
        obtain ⟨l58047, x58051⟩ := s58130
        replace hF : r03_Texts_l2 a0 l35297 x54440 l58047 x58051 = some o58130 := hF
        unfold r03_Texts_l2 at hF
        try dsimp only at hLab
        obtain ⟨A58048, n58049, c58050, hA, hS⟩ := hLab
        refine wp_seq_k fun K58132 hK58132 => ?_
        refine wp_seq_k fun K58133 hK58133 => ?_
        refine wp_reg ?_
        refine x_move hA (fun ac hA => ?_) rfl rfl rfl rfl rfl
        refine x_move hA (fun ac hA => ?_) rfl rfl rfl rfl rfl
        refine x_len Try.underlying57 (hS.rd 0 rfl).2.1 hA (fun ac hA => ?_) rfl rfl rfl rfl rfl
        refine x_val hA (r_ltI rfl (hA.ev rfl) (hA.ev rfl)) (fun ac hA => ?_) rfl rfl rfl
        refine wpList_nil ?_
        refine hK58133 _ _ ?_
        refine c_if hA rfl (fun hb58134 => ?_) fun hb58134 => ?_
        · replace hF := ift hb58134 hF
          refine wp_skip ?_
          refine hK58132 _ _ ?_
          refine wp_seq_k fun K58135 hK58135 => ?_
          refine wp_block_k fun Kx58168 hKx58168 => ?_
          have hb5 : ∀ (l58182 : (List Int)), r03_Texts_b5 x58051 l58182 = some o58130 → ∀ (A58183 : Option Addr) (n58184 : Nat) (c58185 : Nat) (ac : Act) (w : World), FR 117 [] ac [(0, .slice A0 n0 c0), (3, .slice A35298 n35299 c35300), (8, .slice A35551 n35552 c35553), (10, .slice A58183 n58184 c58185), (11, .int .i64 x54440), (12, .int .i64 x58051)] → SH r (own kS 9 A35298 n35299 c35300 l35297 :: own (kI .u8) 5 A35551 n35552 c35553 l35550 :: own (kI .i64) 2 A58183 n58184 c58185 l58182 :: L) w → Kx58168 ac w := by
            intro l58182 hF A58183 n58184 c58185 ac w hA hS
            unfold r03_Texts_b5 at hF
            refine hKx58168 _ _ ?_
            refine hK58135 _ _ ?_
            refine wp_reg ?_
            refine x_move hA (fun ac hA => ?_) rfl rfl rfl rfl rfl
            obtain ⟨x58186, h58187, hF⟩ := ltt_ hF
            refine x_val (v := .int .i64 x58186) hA (rv_i h58187 (r_add rfl (hA.ev rfl) (hA.ev rfl))) (fun ac hA => ?_) rfl rfl rfl
            refine x_assign hA (fun ac hA => ?_) rfl rfl rfl rfl rfl
            refine wpList_nil ?_
            cases hF
            exact ⟨_, N58130_ _ rfl, A58183, n58184, c58185, hA.sub _ rfl, hS⟩
          refine wp_seq_k fun K58188 hK58188 => ?_
          refine wp_draw [0, 0, 3, 7, 0, 0, 48, 112, 255] [] rfl hA hS (by kernel_rfl) (by kernel_rfl) (by kernel_rfl) (by kernel_rfl) fun w hS => ?_
          obtain ⟨x58189, h58190, hF⟩ := bnd hF
          obtain ⟨cs, hV, hc58191⟩ := el (hS.rd 0 rfl) h58190
          obtain rfl := hV
          obtain ⟨x58192, h58193, hF⟩ := bnd hF
          obtain ⟨cs, hV, hc58194⟩ := el (hS.rdl 3 ha0 rfl) h58193
          obtain rfl := hV
          refine ⟨[(0, .slice A35298 n35299 c35300), (1, .int .i64 x58051), (2, .pointer (some (ea A35298 (x58051.toNat * 1)))), (3, str x58189), (4, .slice A0 n0 c0), (5, .int .i64 x54440), (6, .pointer (some (ea A0 (x54440.toNat * 1)))), (7, str x58192), (8, .bool (x58189 == x58192))], ?_⟩
          refine dEnd [0, 1, 2, 3, 4, 5, 6, 7, 8] (by kernel_rfl) ⟨pu rfl rfl [(3, .slice A35298 n35299 c35300)] (fun ac hA => y_move hA rfl rfl) rfl rfl, pu rfl rfl [(12, .int .i64 x58051)] (fun ac hA => y_move hA rfl rfl) rfl rfl, pu rfl rfl [(100, .slice A35298 n35299 c35300), (101, .int .i64 x58051)] (fun ac hA => y_ia Try.underlying57 sz9 (hS.rd 0 rfl) h58190 hA rfl rfl rfl) rfl rfl, pu rfl rfl [(102, .pointer (some (ea A35298 (x58051.toNat * 1))))] (fun ac hA => y_ld Try.underlying9 (hc58191 0 _ rfl) hA rfl rfl rfl) rfl rfl, pu rfl rfl [(0, .slice A0 n0 c0)] (fun ac hA => y_move hA rfl rfl) rfl rfl, pu rfl rfl [(11, .int .i64 x54440)] (fun ac hA => y_move hA rfl rfl) rfl rfl, pu rfl rfl [(104, .slice A0 n0 c0), (105, .int .i64 x54440)] (fun ac hA => y_ia Try.underlying57 sz9 (hS.rdl 3 ha0 rfl) h58193 hA rfl rfl rfl) rfl rfl, pu rfl rfl [(106, .pointer (some (ea A0 (x54440.toNat * 1))))] (fun ac hA => y_ld Try.underlying9 (hc58194 0 _ rfl) hA rfl rfl rfl) rfl rfl, pu rfl rfl [(103, str x58189), (107, str x58192)] (fun ac hA => r_eqS rfl (hA.ev rfl) (hA.ev rfl)) rfl rfl, trivial⟩ ⟨by kernel_rfl, by kernel_rfl⟩ [(0, .slice A0 n0 c0), (3, .slice A35298 n35299 c35300), (8, .slice A35551 n35552 c35553), (10, .slice A58048 n58049 c58050), (11, .int .i64 x54440), (12, .int .i64 x58051), (108, .bool (x58189 == x58192))] rfl (fun ac hA => ?_)
          refine hK58188 _ _ ?_
          refine c_if hA rfl (fun hb58195 => ?_) fun hb58195 => ?_
          · replace hF := ift hb58195 hF
            refine wp_reg ?_
            refine x_move hA (fun ac hA => ?_) rfl rfl rfl rfl rfl
            refine x_move hA (fun ac hA => ?_) rfl rfl rfl rfl rfl
            refine x_bsl (d := (kI .i64)) (e := 2) (ps := #[(0, .int .i64 x58051)]) (cells := [.int .i64 x58051]) (xs := [x58051]) (fun w => by kernel_rfl) rfl ⟨[.int .i64 x58051], _, rfl, rfl, rfl⟩ hA hS (fun g58196 ac w hS hA => ?_) rfl rfl rfl rfl rfl rfl
            obtain ⟨h58197, hF⟩ := chk_some hF
            have hr := hS.rd 0 rfl
            refine x_app 3 inf2 Try.underlying37 hA hS hr.1 hr.2.1 h58197 rfl (fun A58198 n58199 c58200 ac w hS hA => ?_) rfl rfl rfl rfl rfl rfl rfl rfl rfl
            refine x_assign hA (fun ac hA => ?_) rfl rfl rfl rfl rfl
            refine wpList_nil ?_
            replace hS := hS.drop 1
            replace hS := hS.pk 2
            replace hS := hS.pk 2
            exact hb5 (l58047 ++ [x58051]) hF A58198 n58199 c58200 ac w (hA.sub _ rfl) hS
          replace hF := iff' hb58195 hF
          refine wp_skip ?_
          exact hb5 l58047 hF A58048 n58049 c58050 ac w (hA.sub _ rfl) hS
        replace hF := iff' hb58134 hF
        refine wp_exit ?_
        cases hF
        exact hx58130_8 l58047 (T58130_ _ rfl) A58048 n58049 c58050 ac w (hA.sub _ rfl) hS
      replace hF := iff' hb56329 hF
      refine wp_exit ?_
      replace hS := hS.drop 0
      cases hF
      exact hx56325_6 l54436 (T56325_ _ rfl) A54437 n54438 c54439 ac w (hA.sub _ rfl) hS
    obtain ⟨t58257, hl58257, hF⟩ := bnd hF
    have hx58257_4 : ∀ (l58254 : (List Int)), (l58254) = t58257 → ∀ (A58255 : Option Addr) (n58256 : Nat) (c58257 : Nat) (ac : Act) (w : World), FR 117 [] ac [(0, .slice A0 n0 c0), (3, .slice A35298 n35299 c35300), (8, .slice A58255 n58256 c58257)] → SH r (own kS 9 A35298 n35299 c35300 l35297 :: own (kI .u8) 5 A58255 n58256 c58257 l58254 :: L) w → Kx35472 ac w := by
      intro l58254 ht A58255 n58256 c58257 ac w hA hS
      subst ht
      replace hF : r03_Texts_x3_4 a0 l35297 l58254 = some y := hF
      unfold r03_Texts_x3_4 at hF
      exact hb2 l58254 hF A58255 n58256 c58257 ac w (hA.sub _ rfl) hS
    replace hS := hS.pk 1
    refine wp_loop_fn hl58257 (fun s ac w => ∃ (A58226 : Option Addr) (n58227 : Nat) (c58228 : Nat), FR 117 [] ac [(0, .slice A0 n0 c0), (3, .slice A35298 n35299 c35300), (8, .slice A58226 n58227 c58228), (9, .int .i64 s.2)] ∧ SH r (own kS 9 A35298 n35299 c35300 l35297 :: own (kI .u8) 5 A58226 n58227 c58228 s.1 :: L) w) ⟨B35306, m35307, d35308, hA.sub _ rfl, hS⟩ ?_
    intro N58257 s58257 o58257 hF N58257_ T58257_ ac w hLab
    obtain ⟨l58225, x58229⟩ := s58257
    replace hF : r03_Texts_l3 l35297 l58225 x58229 = some o58257 := hF
    unfold r03_Texts_l3 at hF
    try dsimp only at hLab
    obtain ⟨A58226, n58227, c58228, hA, hS⟩ := hLab
    refine wp_seq_k fun K58259 hK58259 => ?_
    refine wp_seq_k fun K58260 hK58260 => ?_
    refine wp_reg ?_
    refine x_move hA (fun ac hA => ?_) rfl rfl rfl rfl rfl
    refine x_move hA (fun ac hA => ?_) rfl rfl rfl rfl rfl
    refine x_len Try.underlying57 (hS.rd 0 rfl).2.1 hA (fun ac hA => ?_) rfl rfl rfl rfl rfl
    refine x_val hA (r_ltI rfl (hA.ev rfl) (hA.ev rfl)) (fun ac hA => ?_) rfl rfl rfl
    refine wpList_nil ?_
    refine hK58260 _ _ ?_
    refine c_if hA rfl (fun hb58261 => ?_) fun hb58261 => ?_
    · replace hF := ift hb58261 hF
      refine wp_skip ?_
      refine hK58259 _ _ ?_
      refine wp_seq_k fun K58262 hK58262 => ?_
      refine wp_block_k fun Kx58263 hKx58263 => ?_
      refine wp_reg ?_
      refine x_move hA (fun ac hA => ?_) rfl rfl rfl rfl rfl
      refine x_move hA (fun ac hA => ?_) rfl rfl rfl rfl rfl
      refine x_move hA (fun ac hA => ?_) rfl rfl rfl rfl rfl
      obtain ⟨x58264, h58265, hF⟩ := bnd hF
      refine x_ia Try.underlying57 sz9 (hS.rd 0 rfl) h58265 hA (fun ac hA => ?_) rfl rfl rfl rfl rfl rfl
      obtain ⟨cs, hV, hc58266⟩ := el (hS.rd 0 rfl) h58265
      obtain rfl := hV
      refine x_ld Try.underlying9 (hc58266 0 _ rfl) hA (fun ac hA => ?_) rfl rfl rfl rfl rfl rfl
      obtain ⟨y58267, h58268, hF⟩ := bnd hF
      refine x_call en60 hA (F_r03_Text (L := own kS 9 A35298 n35299 c35300 l35297 :: own (kI .u8) 5 A58226 n58227 c58228 l58225 :: L) x58264 h58268 hS) (fun v ac w hR hA => ?_) rfl rfl rfl rfl rfl
      obtain ⟨B58269, m58270, d58271, rfl, hS⟩ := hR
      obtain ⟨h58272, hF⟩ := chk_some hF
      have hr := hS.rd 0 rfl
      refine x_app 2 inf5 Try.underlying22 hA hS hr.1 hr.2.1 h58272 rfl (fun A58273 n58274 c58275 ac w hS hA => ?_) rfl rfl rfl rfl rfl rfl rfl rfl rfl
      refine x_assign hA (fun ac hA => ?_) rfl rfl rfl rfl rfl
      refine wpList_nil ?_
      refine hKx58263 _ _ ?_
      refine hK58262 _ _ ?_
      refine wp_reg ?_
      refine x_move hA (fun ac hA => ?_) rfl rfl rfl rfl rfl
      obtain ⟨x58276, h58277, hF⟩ := ltt_ hF
      refine x_val (v := .int .i64 x58276) hA (rv_i h58277 (r_add rfl (hA.ev rfl) (hA.ev rfl))) (fun ac hA => ?_) rfl rfl rfl
      refine x_assign hA (fun ac hA => ?_) rfl rfl rfl rfl rfl
      refine wpList_nil ?_
      replace hS := hS.drop 1
      replace hS := hS.pk 1
      cases hF
      exact ⟨_, N58257_ _ rfl, A58273, n58274, c58275, hA.sub _ rfl, hS⟩
    replace hF := iff' hb58261 hF
    refine wp_exit ?_
    cases hF
    exact hx58257_4 l58225 (T58257_ _ rfl) A58226 n58227 c58228 ac w (hA.sub _ rfl) hS
  obtain ⟨t66104, hl66104, hF⟩ := bnd hF
  have hx66104_0 : ∀ (l66101 : (List (List UInt8))), (l66101) = t66104 → ∀ (A66102 : Option Addr) (n66103 : Nat) (c66104 : Nat) (ac : Act) (w : World), FR 117 [] ac [(0, .slice A0 n0 c0), (3, .slice A66102 n66103 c66104)] → SH r (own kS 9 A66102 n66103 c66104 l66101 :: L) w → Kx23568 ac w := by
    intro l66101 ht A66102 n66103 c66104 ac w hA hS
    subst ht
    replace hF : r03_Texts_x4_0 a0 l66101 = some y := hF
    unfold r03_Texts_x4_0 at hF
    exact hb1 l66101 hF A66102 n66103 c66104 ac w (hA.sub _ rfl) hS
  replace hS := SH.nil_own (d := kS) (e := 9) hS
  refine wp_loop_fn hl66104 (fun s ac w => ∃ (A62192 : Option Addr) (n62193 : Nat) (c62194 : Nat), FR 117 [] ac [(0, .slice A0 n0 c0), (3, .slice A62192 n62193 c62194), (4, .int .i64 s.2)] ∧ SH r (own kS 9 A62192 n62193 c62194 s.1 :: L) w) ⟨none, 0, 0, hA.sub _ rfl, hS⟩ ?_
  intro N66104 s66104 o66104 hF N66104_ T66104_ ac w hLab
  obtain ⟨l62191, x62195⟩ := s66104
  replace hF : r03_Texts_l4 a0 l62191 x62195 = some o66104 := hF
  unfold r03_Texts_l4 at hF
  try dsimp only at hLab
  obtain ⟨A62192, n62193, c62194, hA, hS⟩ := hLab
  refine wp_seq_k fun K66106 hK66106 => ?_
  refine wp_seq_k fun K66107 hK66107 => ?_
  refine wp_reg ?_
  refine x_move hA (fun ac hA => ?_) rfl rfl rfl rfl rfl
  refine x_move hA (fun ac hA => ?_) rfl rfl rfl rfl rfl
  refine x_len Try.underlying57 (hS.rdl 1 ha0 rfl).2.1 hA (fun ac hA => ?_) rfl rfl rfl rfl rfl
  refine x_val hA (r_ltI rfl (hA.ev rfl) (hA.ev rfl)) (fun ac hA => ?_) rfl rfl rfl
  refine wpList_nil ?_
  refine hK66107 _ _ ?_
  refine c_if hA rfl (fun hb66108 => ?_) fun hb66108 => ?_
  · replace hF := ift hb66108 hF
    refine wp_skip ?_
    refine hK66106 _ _ ?_
    refine wp_seq_k fun K66109 hK66109 => ?_
    refine wp_block_k fun Kx66110 hKx66110 => ?_
    refine wp_seq_k fun K66111 hK66111 => ?_
    refine wp_reg ?_
    refine x_assign hA (fun ac hA => ?_) rfl rfl rfl rfl rfl
    refine wpList_nil ?_
    refine hK66111 _ _ ?_
    refine wp_seq_k fun K66112 hK66112 => ?_
    refine wp_reg ?_
    refine x_assign hA (fun ac hA => ?_) rfl rfl rfl rfl rfl
    refine wpList_nil ?_
    refine hK66112 _ _ ?_
    refine wp_seq_k fun K66113 hK66113 => ?_
    refine wp_seq_k fun K68046 hK68046 => ?_
    refine wp_reg ?_
    refine x_assign hA (fun ac hA => ?_) rfl rfl rfl rfl rfl
    refine wpList_nil ?_
    refine hK68046 _ _ ?_
    refine wp_block_k fun Kx68047 hKx68047 => ?_
    have hb6 : ∀ (l69010 : (List (List UInt8))) (b69014 : Bool), r03_Texts_b6 a0 x62195 l69010 b69014 = some o66104 → ∀ (A69011 : Option Addr) (n69012 : Nat) (c69013 : Nat) (ac : Act) (w : World), FR 117 [] ac [(0, .slice A0 n0 c0), (4, .int .i64 x62195), (5, .slice A69011 n69012 c69013), (6, .bool b69014)] → SH r (own kS 9 A69011 n69012 c69013 l69010 :: L) w → Kx68047 ac w := by
      intro l69010 b69014 hF A69011 n69012 c69013 ac w hA hS
      unfold r03_Texts_b6 at hF
      refine hKx68047 _ _ ?_
      refine hK66113 _ _ ?_
      refine wp_seq_k fun K69015 hK69015 => ?_
      have hj1 : ∀ (l69026 : (List (List UInt8))), r03_Texts_j1 x62195 l69026 = some o66104 → ∀ (A69027 : Option Addr) (n69028 : Nat) (c69029 : Nat) (ac : Act) (w : World), FR 117 [] ac [(0, .slice A0 n0 c0), (4, .int .i64 x62195), (5, .slice A69027 n69028 c69029)] → SH r (own kS 9 A69027 n69028 c69029 l69026 :: L) w → K69015 ac w := by
        intro l69026 hF A69027 n69028 c69029 ac w hA hS
        unfold r03_Texts_j1 at hF
        refine hK69015 _ _ ?_
        refine wp_reg ?_
        refine x_move hA (fun ac hA => ?_) rfl rfl rfl rfl rfl
        refine x_assign hA (fun ac hA => ?_) rfl rfl rfl rfl rfl
        refine wpList_nil ?_
        refine hKx66110 _ _ ?_
        refine hK66109 _ _ ?_
        refine wp_reg ?_
        refine x_move hA (fun ac hA => ?_) rfl rfl rfl rfl rfl
        obtain ⟨x69030, h69031, hF⟩ := ltt_ hF
        refine x_val (v := .int .i64 x69030) hA (rv_i h69031 (r_add rfl (hA.ev rfl) (hA.ev rfl))) (fun ac hA => ?_) rfl rfl rfl
        refine x_assign hA (fun ac hA => ?_) rfl rfl rfl rfl rfl
        refine wpList_nil ?_
        cases hF
        exact ⟨_, N66104_ _ rfl, A69027, n69028, c69029, hA.sub _ rfl, hS⟩
      refine wp_seq_k fun K69032 hK69032 => ?_
      refine wp_reg ?_
      refine x_move hA (fun ac hA => ?_) rfl rfl rfl rfl rfl
      refine x_val hA (r_not rfl (hA.ev rfl)) (fun ac hA => ?_) rfl rfl rfl
      refine wpList_nil ?_
      refine hK69032 _ _ ?_
      refine c_if hA rfl (fun hb69033 => ?_) fun hb69033 => ?_
      · replace hF := ift hb69033 hF
        refine wp_reg ?_
        refine x_move hA (fun ac hA => ?_) rfl rfl rfl rfl rfl
        refine x_move hA (fun ac hA => ?_) rfl rfl rfl rfl rfl
        refine x_move hA (fun ac hA => ?_) rfl rfl rfl rfl rfl
        obtain ⟨x69034, h69035, hF⟩ := bnd hF
        refine x_ia Try.underlying57 sz9 (hS.rdl 1 ha0 rfl) h69035 hA (fun ac hA => ?_) rfl rfl rfl rfl rfl rfl
        obtain ⟨cs, hV, hc69036⟩ := el (hS.rdl 1 ha0 rfl) h69035
        obtain rfl := hV
        refine x_ld Try.underlying9 (hc69036 0 _ rfl) hA (fun ac hA => ?_) rfl rfl rfl rfl rfl rfl
        refine x_bsl (d := kS) (e := 9) (ps := #[(0, str x69034)]) (cells := [str x69034]) (xs := [x69034]) (fun w => by kernel_rfl) rfl ⟨[str x69034], _, rfl, rfl, rfl⟩ hA hS (fun g69037 ac w hS hA => ?_) rfl rfl rfl rfl rfl rfl
        obtain ⟨h69038, hF⟩ := chk_some hF
        have hr := hS.rd 0 rfl
        refine x_app 1 inf9 Try.underlying57 hA hS hr.1 hr.2.1 h69038 rfl (fun A69039 n69040 c69041 ac w hS hA => ?_) rfl rfl rfl rfl rfl rfl rfl rfl rfl
        refine x_assign hA (fun ac hA => ?_) rfl rfl rfl rfl rfl
        refine wpList_nil ?_
        replace hS := hS.drop 1
        exact hj1 (l69010 ++ [x69034]) hF A69039 n69040 c69041 ac w (hA.sub _ rfl) hS
      replace hF := iff' hb69033 hF
      refine wp_skip ?_
      exact hj1 l69010 hF A69011 n69012 c69013 ac w (hA.sub _ rfl) hS
    obtain ⟨t69682, hl69682, hF⟩ := bnd hF
    have hx69682_2 : ∀ (l69678 : (List (List UInt8))) (b69682 : Bool), (l69678, b69682) = t69682 → ∀ (A69679 : Option Addr) (n69680 : Nat) (c69681 : Nat) (ac : Act) (w : World), FR 117 [] ac [(0, .slice A0 n0 c0), (4, .int .i64 x62195), (5, .slice A69679 n69680 c69681), (6, .bool b69682)] → SH r (own kS 9 A69679 n69680 c69681 l69678 :: L) w → Kx68047 ac w := by
      intro l69678 b69682 ht A69679 n69680 c69681 ac w hA hS
      subst ht
      replace hF : r03_Texts_x5_2 a0 x62195 l69678 b69682 = some o66104 := hF
      unfold r03_Texts_x5_2 at hF
      exact hb6 l69678 b69682 hF A69679 n69680 c69681 ac w (hA.sub _ rfl) hS
    replace hS := SH.nil_own (d := kS) (e := 9) hS
    replace hS := hS.pk 1
    refine wp_loop_fn hl69682 (fun s ac w => ∃ (A69347 : Option Addr) (n69348 : Nat) (c69349 : Nat), FR 117 [] ac [(0, .slice A0 n0 c0), (3, .slice A62192 n62193 c62194), (4, .int .i64 x62195), (5, .slice A69347 n69348 c69349), (6, .bool s.2.1), (7, .int .i64 s.2.2)] ∧ SH r (own kS 9 A62192 n62193 c62194 l62191 :: own kS 9 A69347 n69348 c69349 s.1 :: L) w) ⟨none, 0, 0, hA.sub _ rfl, hS⟩ ?_
    intro N69682 s69682 o69682 hF N69682_ T69682_ ac w hLab
    obtain ⟨l69346, b69350, x69351⟩ := s69682
    replace hF : r03_Texts_l5 a0 l62191 x62195 l69346 b69350 x69351 = some o69682 := hF
    unfold r03_Texts_l5 at hF
    try dsimp only at hLab
    obtain ⟨A69347, n69348, c69349, hA, hS⟩ := hLab
    refine wp_seq_k fun K69684 hK69684 => ?_
    refine wp_seq_k fun K69685 hK69685 => ?_
    refine wp_reg ?_
    refine x_move hA (fun ac hA => ?_) rfl rfl rfl rfl rfl
    refine x_move hA (fun ac hA => ?_) rfl rfl rfl rfl rfl
    refine x_len Try.underlying57 (hS.rd 0 rfl).2.1 hA (fun ac hA => ?_) rfl rfl rfl rfl rfl
    refine x_val hA (r_ltI rfl (hA.ev rfl) (hA.ev rfl)) (fun ac hA => ?_) rfl rfl rfl
    refine wpList_nil ?_
    refine hK69685 _ _ ?_
    refine c_if hA rfl (fun hb69686 => ?_) fun hb69686 => ?_
    · replace hF := ift hb69686 hF
      refine wp_skip ?_
      refine hK69684 _ _ ?_
      refine wp_seq_k fun K69687 hK69687 => ?_
      refine wp_block_k fun Kx69845 hKx69845 => ?_
      have hb7 : ∀ (l69921 : (List (List UInt8))) (b69925 : Bool), r03_Texts_b7 x69351 l69921 b69925 = some o69682 → ∀ (A69922 : Option Addr) (n69923 : Nat) (c69924 : Nat) (ac : Act) (w : World), FR 117 [] ac [(0, .slice A0 n0 c0), (3, .slice A62192 n62193 c62194), (4, .int .i64 x62195), (5, .slice A69922 n69923 c69924), (6, .bool b69925), (7, .int .i64 x69351)] → SH r (own kS 9 A62192 n62193 c62194 l62191 :: own kS 9 A69922 n69923 c69924 l69921 :: L) w → Kx69845 ac w := by
        intro l69921 b69925 hF A69922 n69923 c69924 ac w hA hS
        unfold r03_Texts_b7 at hF
        refine hKx69845 _ _ ?_
        refine hK69687 _ _ ?_
        refine wp_reg ?_
        refine x_move hA (fun ac hA => ?_) rfl rfl rfl rfl rfl
        obtain ⟨x69926, h69927, hF⟩ := ltt_ hF
        refine x_val (v := .int .i64 x69926) hA (rv_i h69927 (r_add rfl (hA.ev rfl) (hA.ev rfl))) (fun ac hA => ?_) rfl rfl rfl
        refine x_assign hA (fun ac hA => ?_) rfl rfl rfl rfl rfl
        refine wpList_nil ?_
        cases hF
        exact ⟨_, N69682_ _ rfl, A69922, n69923, c69924, hA.sub _ rfl, hS⟩
      refine wp_seq_k fun K69928 hK69928 => ?_
      have hj2 : ∀ (l69956 : (List (List UInt8))) (b69960 : Bool), r03_Texts_j2 a0 l62191 x62195 x69351 l69956 b69960 = some o69682 → ∀ (A69957 : Option Addr) (n69958 : Nat) (c69959 : Nat) (ac : Act) (w : World), FR 117 [] ac [(0, .slice A0 n0 c0), (3, .slice A62192 n62193 c62194), (4, .int .i64 x62195), (5, .slice A69957 n69958 c69959), (6, .bool b69960), (7, .int .i64 x69351)] → SH r (own kS 9 A62192 n62193 c62194 l62191 :: own kS 9 A69957 n69958 c69959 l69956 :: L) w → K69928 ac w := by
        intro l69956 b69960 hF A69957 n69958 c69959 ac w hA hS
        unfold r03_Texts_j2 at hF
        refine hK69928 _ _ ?_
        refine wp_seq_k fun K69961 hK69961 => ?_
        refine wp_draw [0, 0, 3, 7, 0, 0, 48, 112, 255] [] rfl hA hS (by kernel_rfl) (by kernel_rfl) (by kernel_rfl) (by kernel_rfl) fun w hS => ?_
        obtain ⟨x69962, h69963, hF⟩ := bnd hF
        obtain ⟨cs, hV, hc69964⟩ := el (hS.rd 0 rfl) h69963
        obtain rfl := hV
        obtain ⟨x69965, h69966, hF⟩ := bnd hF
        obtain ⟨cs, hV, hc69967⟩ := el (hS.rdl 2 ha0 rfl) h69966
        obtain rfl := hV
        refine ⟨[(0, .slice A62192 n62193 c62194), (1, .int .i64 x69351), (2, .pointer (some (ea A62192 (x69351.toNat * 1)))), (3, str x69962), (4, .slice A0 n0 c0), (5, .int .i64 x62195), (6, .pointer (some (ea A0 (x62195.toNat * 1)))), (7, str x69965), (8, .bool (!(x69962 == x69965)))], ?_⟩
        refine dEnd [0, 1, 2, 3, 4, 5, 6, 7, 8] (by kernel_rfl) ⟨pu rfl rfl [(3, .slice A62192 n62193 c62194)] (fun ac hA => y_move hA rfl rfl) rfl rfl, pu rfl rfl [(7, .int .i64 x69351)] (fun ac hA => y_move hA rfl rfl) rfl rfl, pu rfl rfl [(45, .slice A62192 n62193 c62194), (46, .int .i64 x69351)] (fun ac hA => y_ia Try.underlying57 sz9 (hS.rd 0 rfl) h69963 hA rfl rfl rfl) rfl rfl, pu rfl rfl [(47, .pointer (some (ea A62192 (x69351.toNat * 1))))] (fun ac hA => y_ld Try.underlying9 (hc69964 0 _ rfl) hA rfl rfl rfl) rfl rfl, pu rfl rfl [(0, .slice A0 n0 c0)] (fun ac hA => y_move hA rfl rfl) rfl rfl, pu rfl rfl [(4, .int .i64 x62195)] (fun ac hA => y_move hA rfl rfl) rfl rfl, pu rfl rfl [(49, .slice A0 n0 c0), (50, .int .i64 x62195)] (fun ac hA => y_ia Try.underlying57 sz9 (hS.rdl 2 ha0 rfl) h69966 hA rfl rfl rfl) rfl rfl, pu rfl rfl [(51, .pointer (some (ea A0 (x62195.toNat * 1))))] (fun ac hA => y_ld Try.underlying9 (hc69967 0 _ rfl) hA rfl rfl rfl) rfl rfl, pu rfl rfl [(48, str x69962), (52, str x69965)] (fun ac hA => r_neS rfl (hA.ev rfl) (hA.ev rfl)) rfl rfl, trivial⟩ ⟨by kernel_rfl, by kernel_rfl⟩ [(0, .slice A0 n0 c0), (3, .slice A62192 n62193 c62194), (4, .int .i64 x62195), (5, .slice A69957 n69958 c69959), (6, .bool b69960), (7, .int .i64 x69351), (53, .bool (!(x69962 == x69965)))] rfl (fun ac hA => ?_)
        refine hK69961 _ _ ?_
        refine c_if hA rfl (fun hb69968 => ?_) fun hb69968 => ?_
        · replace hF := ift hb69968 hF
          refine wp_reg ?_
          refine x_move hA (fun ac hA => ?_) rfl rfl rfl rfl rfl
          refine x_move hA (fun ac hA => ?_) rfl rfl rfl rfl rfl
          refine x_move hA (fun ac hA => ?_) rfl rfl rfl rfl rfl
          refine x_ia Try.underlying57 sz9 (hS.rd 0 rfl) h69963 hA (fun ac hA => ?_) rfl rfl rfl rfl rfl rfl
          obtain ⟨cs, hV, hc69969⟩ := el (hS.rd 0 rfl) h69963
          obtain rfl := hV
          refine x_ld Try.underlying9 (hc69969 0 _ rfl) hA (fun ac hA => ?_) rfl rfl rfl rfl rfl rfl
          refine x_bsl (d := kS) (e := 9) (ps := #[(0, str x69962)]) (cells := [str x69962]) (xs := [x69962]) (fun w => by kernel_rfl) rfl ⟨[str x69962], _, rfl, rfl, rfl⟩ hA hS (fun g69970 ac w hS hA => ?_) rfl rfl rfl rfl rfl rfl
          obtain ⟨h69971, hF⟩ := chk_some hF
          have hr := hS.rd 0 rfl
          refine x_app 2 inf9 Try.underlying57 hA hS hr.1 hr.2.1 h69971 rfl (fun A69972 n69973 c69974 ac w hS hA => ?_) rfl rfl rfl rfl rfl rfl rfl rfl rfl
          refine x_assign hA (fun ac hA => ?_) rfl rfl rfl rfl rfl
          refine wpList_nil ?_
          replace hS := hS.drop 1
          replace hS := hS.pk 1
          exact hb7 (l69956 ++ [x69962]) b69960 hF A69972 n69973 c69974 ac w (hA.sub _ rfl) hS
        replace hF := iff' hb69968 hF
        refine wp_skip ?_
        exact hb7 l69956 b69960 hF A69957 n69958 c69959 ac w (hA.sub _ rfl) hS
      refine wp_seq_k fun K69975 hK69975 => ?_
      have hj3 : ∀ (b69983 : Bool), r03_Texts_j3 a0 l62191 x62195 l69346 b69350 x69351 b69983 = some o69682 → ∀ (ac : Act) (w : World), FR 117 [] ac [(0, .slice A0 n0 c0), (3, .slice A62192 n62193 c62194), (4, .int .i64 x62195), (5, .slice A69347 n69348 c69349), (6, .bool b69350), (7, .int .i64 x69351), (37, .bool b69983)] → SH r (own kS 9 A62192 n62193 c62194 l62191 :: own kS 9 A69347 n69348 c69349 l69346 :: L) w → K69975 ac w := by
        intro b69983 hF ac w hA hS
        unfold r03_Texts_j3 at hF
        refine hK69975 _ _ ?_
        refine c_if hA rfl (fun hb69984 => ?_) fun hb69984 => ?_
        · replace hF := ift hb69984 hF
          refine wp_seq_k fun K69985 hK69985 => ?_
          refine wp_reg ?_
          refine x_move hA (fun ac hA => ?_) rfl rfl rfl rfl rfl
          refine x_move hA (fun ac hA => ?_) rfl rfl rfl rfl rfl
          refine x_move hA (fun ac hA => ?_) rfl rfl rfl rfl rfl
          obtain ⟨x69986, h69987, hF⟩ := bnd hF
          refine x_ia Try.underlying57 sz9 (hS.rdl 2 ha0 rfl) h69987 hA (fun ac hA => ?_) rfl rfl rfl rfl rfl rfl
          obtain ⟨cs, hV, hc69988⟩ := el (hS.rdl 2 ha0 rfl) h69987
          obtain rfl := hV
          refine x_ld Try.underlying9 (hc69988 0 _ rfl) hA (fun ac hA => ?_) rfl rfl rfl rfl rfl rfl
          refine x_bsl (d := kS) (e := 9) (ps := #[(0, str x69986)]) (cells := [str x69986]) (xs := [x69986]) (fun w => by kernel_rfl) rfl ⟨[str x69986], _, rfl, rfl, rfl⟩ hA hS (fun g69989 ac w hS hA => ?_) rfl rfl rfl rfl rfl rfl
          obtain ⟨h69990, hF⟩ := chk_some hF
          have hr := hS.rd 0 rfl
          refine x_app 2 inf9 Try.underlying57 hA hS hr.1 hr.2.1 h69990 rfl (fun A69991 n69992 c69993 ac w hS hA => ?_) rfl rfl rfl rfl rfl rfl rfl rfl rfl
          refine x_assign hA (fun ac hA => ?_) rfl rfl rfl rfl rfl
          refine wpList_nil ?_
          refine hK69985 _ _ ?_
          refine wp_reg ?_
          refine x_assign hA (fun ac hA => ?_) rfl rfl rfl rfl rfl
          refine wpList_nil ?_
          replace hS := hS.drop 1
          replace hS := hS.pk 1
          exact hj2 (l69346 ++ [x69986]) true hF A69991 n69992 c69993 ac w (hA.sub _ rfl) hS
        replace hF := iff' hb69984 hF
        refine wp_skip ?_
        exact hj2 l69346 b69350 hF A69347 n69348 c69349 ac w (hA.sub _ rfl) hS
      refine wp_draw [0, 1, 3, 7, 7, 31, 63, 7, 7, 391, 903, 2047, 4095] [] rfl hA hS (by kernel_rfl) (by kernel_rfl) (by kernel_rfl) (by kernel_rfl) fun w hS => ?_
      refine bcase (b := !b69350) (fun hb69994 => ?_) fun hb69994 => ?_
      · replace hF := ift hb69994 hF
        obtain ⟨x69995, h69996, hF⟩ := bnd hF
        obtain ⟨cs, hV, hc69997⟩ := el (hS.rd 0 rfl) h69996
        obtain rfl := hV
        obtain ⟨x69998, h69999, hF⟩ := bnd hF
        obtain ⟨cs, hV, hc70000⟩ := el (hS.rdl 2 ha0 rfl) h69999
        obtain rfl := hV
        refine ⟨[(0, .bool b69350), (1, .bool (!b69350)), (2, .bool (!b69350)), (3, .slice A62192 n62193 c62194), (4, .int .i64 x69351), (5, .pointer (some (ea A62192 (x69351.toNat * 1)))), (6, str x69995), (7, .slice A0 n0 c0), (8, .int .i64 x62195), (9, .pointer (some (ea A0 (x62195.toNat * 1)))), (10, str x69998), (11, .bool (!Op.bytesLess x69995 x69998)), (12, .bool (!Op.bytesLess x69995 x69998))], ?_⟩
        refine dEnd [0, 1, 2, 3, 4, 5, 6, 7, 8, 9, 10, 11, 12] (by kernel_rfl) ⟨pu rfl rfl [(6, .bool b69350)] (fun ac hA => y_move hA rfl rfl) rfl rfl, pu rfl rfl [(25, .bool b69350)] (fun ac hA => r_not rfl (hA.ev rfl)) rfl rfl, pu rfl rfl [(26, .bool (!b69350))] (fun ac hA => y_move hA rfl rfl) rfl rfl, puOn rfl rfl rfl rfl [(3, .slice A62192 n62193 c62194), (27, .bool (!b69350))] rfl hb69994 (fun ac hA => y_move hA rfl rfl) rfl, puOn rfl rfl rfl rfl [(7, .int .i64 x69351), (27, .bool (!b69350))] rfl hb69994 (fun ac hA => y_move hA rfl rfl) rfl, puOn rfl rfl rfl rfl [(27, .bool (!b69350)), (28, .slice A62192 n62193 c62194), (29, .int .i64 x69351)] rfl hb69994 (fun ac hA => y_ia Try.underlying57 sz9 (hS.rd 0 rfl) h69996 hA rfl rfl rfl) rfl, puOn rfl rfl rfl rfl [(27, .bool (!b69350)), (30, .pointer (some (ea A62192 (x69351.toNat * 1))))] rfl hb69994 (fun ac hA => y_ld Try.underlying9 (hc69997 0 _ rfl) hA rfl rfl rfl) rfl, puOn rfl rfl rfl rfl [(0, .slice A0 n0 c0), (27, .bool (!b69350))] rfl hb69994 (fun ac hA => y_move hA rfl rfl) rfl, puOn rfl rfl rfl rfl [(4, .int .i64 x62195), (27, .bool (!b69350))] rfl hb69994 (fun ac hA => y_move hA rfl rfl) rfl, puOn rfl rfl rfl rfl [(27, .bool (!b69350)), (32, .slice A0 n0 c0), (33, .int .i64 x62195)] rfl hb69994 (fun ac hA => y_ia Try.underlying57 sz9 (hS.rdl 2 ha0 rfl) h69999 hA rfl rfl rfl) rfl, puOn rfl rfl rfl rfl [(27, .bool (!b69350)), (34, .pointer (some (ea A0 (x62195.toNat * 1))))] rfl hb69994 (fun ac hA => y_ld Try.underlying9 (hc70000 0 _ rfl) hA rfl rfl rfl) rfl, puOn rfl rfl rfl rfl [(27, .bool (!b69350)), (31, str x69995), (35, str x69998)] rfl hb69994 (fun ac hA => r_geS rfl (hA.ev rfl) (hA.ev rfl)) rfl, pu rfl rfl [(27, .bool (!b69350)), (36, .bool (!Op.bytesLess x69995 x69998))] (fun ac hA => y_pickt hb69994 hA rfl rfl rfl) rfl rfl, trivial⟩ ⟨by kernel_rfl, by kernel_rfl⟩ [(0, .slice A0 n0 c0), (3, .slice A62192 n62193 c62194), (4, .int .i64 x62195), (5, .slice A69347 n69348 c69349), (6, .bool b69350), (7, .int .i64 x69351), (28, .slice A62192 n62193 c62194), (29, .int .i64 x69351), (31, str x69995), (32, .slice A0 n0 c0), (33, .int .i64 x62195), (35, str x69998), (36, .bool (!Op.bytesLess x69995 x69998)), (37, .bool (!Op.bytesLess x69995 x69998))] rfl (fun ac hA => ?_)
        exact hj3 (!Op.bytesLess x69995 x69998) hF ac w (hA.sub _ rfl) hS
      replace hF := iff' hb69994 hF
      refine ⟨[(0, .bool b69350), (1, .bool (!b69350)), (2, .bool (!b69350)), (3, undef), (4, undef), (5, undef), (6, undef), (7, undef), (8, undef), (9, undef), (10, undef), (11, undef), (12, .bool false)], ?_⟩
      refine dEnd [0, 1, 2, 3, 4, 5, 6, 7, 8, 9, 10, 11, 12] (by kernel_rfl) ⟨pu rfl rfl [(6, .bool b69350)] (fun ac hA => y_move hA rfl rfl) rfl rfl, pu rfl rfl [(25, .bool b69350)] (fun ac hA => r_not rfl (hA.ev rfl)) rfl rfl, pu rfl rfl [(26, .bool (!b69350))] (fun ac hA => y_move hA rfl rfl) rfl rfl, puOff rfl rfl rfl rfl [(3, .slice A62192 n62193 c62194), (27, .bool (!b69350))] rfl hb69994 rfl, puOff rfl rfl rfl rfl [(7, .int .i64 x69351), (27, .bool (!b69350))] rfl hb69994 rfl, puOff rfl rfl rfl rfl [(27, .bool (!b69350)), (28, undef), (29, undef)] rfl hb69994 rfl, puOff rfl rfl rfl rfl [(27, .bool (!b69350)), (30, undef)] rfl hb69994 rfl, puOff rfl rfl rfl rfl [(0, .slice A0 n0 c0), (27, .bool (!b69350))] rfl hb69994 rfl, puOff rfl rfl rfl rfl [(4, .int .i64 x62195), (27, .bool (!b69350))] rfl hb69994 rfl, puOff rfl rfl rfl rfl [(27, .bool (!b69350)), (32, undef), (33, undef)] rfl hb69994 rfl, puOff rfl rfl rfl rfl [(27, .bool (!b69350)), (34, undef)] rfl hb69994 rfl, puOff rfl rfl rfl rfl [(27, .bool (!b69350)), (31, undef), (35, undef)] rfl hb69994 rfl, pu rfl rfl [(27, .bool (!b69350)), (36, undef)] (fun ac hA => y_pickf hb69994 hA rfl rfl rfl) rfl rfl, trivial⟩ ⟨by kernel_rfl, by kernel_rfl⟩ [(0, .slice A0 n0 c0), (3, .slice A62192 n62193 c62194), (4, .int .i64 x62195), (5, .slice A69347 n69348 c69349), (6, .bool b69350), (7, .int .i64 x69351), (37, .bool false)] rfl (fun ac hA => ?_)
      exact hj3 false hF ac w (hA.sub _ rfl) hS
    replace hF := iff' hb69686 hF
    refine wp_exit ?_
    replace hS := hS.drop 0
    cases hF
    exact hx69682_2 l69346 b69350 (T69682_ _ rfl) A69347 n69348 c69349 ac w (hA.sub _ rfl) hS
  replace hF := iff' hb66108 hF
  refine wp_exit ?_
  cases hF
  exact hx66104_0 l62191 (T66104_ _ rfl) A62192 n62193 c62194 ac w (hA.sub _ rfl) hS
set_option maxRecDepth 100000 in
set_option maxHeartbeats 4000000 in
theorem F_column_Texts {r : World} {L : List HP} {w : World} (a0 : (List (List UInt8))) (A0 : Option Addr) (n0 : Nat) (c0 : Nat) {y : ((List Int))} (hF : column_Texts a0 = some y) (ha0 : RdL L kS A0 n0 c0 a0) (hS : SH r (L) w) :
    Ret Try.prog 37 #[.slice A0 n0 c0] w fun v w' => ∃ (B0 : Option Addr) (m0 : Nat) (d0 : Nat), v = .slice B0 m0 d0 ∧ SH r (own (kI .u8) 5 B0 m0 d0 y :: L) w' := by
  refine enter Try.func37 rfl Try.ntmps37 [(0, .slice A0 n0 c0)] rfl (by simp) ?_
  intro ac hA Qf hQ hQn
  unfold column_Texts at hF
  refine wp_seq_k fun K101 hK101 => ?_
  refine wp_reg ?_
  refine x_assign hA (fun ac hA => ?_) rfl rfl rfl rfl rfl
  refine wpList_nil ?_
  refine hK101 _ _ ?_
  refine wp_seq_k fun K102 hK102 => ?_
  refine wp_reg ?_
  refine x_move hA (fun ac hA => ?_) rfl rfl rfl rfl rfl
  refine x_call en57 hA (F_slices_Values (L := L) (A := A0) (n := n0) (c := c0) hS) (fun v ac w hR hA => ?_) rfl rfl rfl rfl rfl
  obtain ⟨g103, rfl, hS⟩ := hR
  obtain ⟨y104, h105, hF⟩ := bnd hF
  refine x_call en56 hA (F_slices_Sorted (L := L) a0 h105 (RdL.sfx 0 rfl ha0) hS) (fun v ac w hR hA => ?_) rfl rfl rfl rfl rfl
  obtain ⟨A106, n107, c108, rfl, hS⟩ := hR
  obtain ⟨y109, h110, hF⟩ := bnd hF
  refine x_call en55 hA (F_slices_Compact (L := L) y104 h110 hS) (fun v ac w hR hA => ?_) rfl rfl rfl rfl rfl
  obtain ⟨A111, n112, c113, rfl, hS⟩ := hR
  refine x_assign hA (fun ac hA => ?_) rfl rfl rfl rfl rfl
  refine wpList_nil ?_
  refine hK102 _ _ ?_
  refine wp_seq_k fun K114 hK114 => ?_
  refine wp_reg ?_
  refine x_move hA (fun ac hA => ?_) rfl rfl rfl rfl rfl
  refine x_len Try.underlying57 (hS.rd 0 rfl).2.1 hA (fun ac hA => ?_) rfl rfl rfl rfl rfl
  obtain ⟨x115, h116, hF⟩ := ltt_ hF
  refine x_val (v := .int .u64 x115) hA (rv_i h116 (r_convI Try.underlying3 Try.underlying29 rfl (hA.ev rfl))) (fun ac hA => ?_) rfl rfl rfl
  replace hS := SH.nil_own (d := (kI .u8)) (e := 5) hS
  obtain ⟨y117, h118, hF⟩ := bnd hF
  refine x_call en40 hA (F_column_Uint (L := own kS 9 A111 n112 c113 y109 :: L) [] x115 none 0 0 h118 hS) (fun v ac w hR hA => ?_) rfl rfl rfl rfl rfl
  obtain ⟨B119, m120, d121, rfl, hS⟩ := hR
  refine x_assign hA (fun ac hA => ?_) rfl rfl rfl rfl rfl
  refine wpList_nil ?_
  refine hK114 _ _ ?_
  refine wp_seq_k fun K122 hK122 => ?_
  refine wp_seq_k fun K266 hK266 => ?_
  refine wp_reg ?_
  refine x_move hA (fun ac hA => ?_) rfl rfl rfl rfl rfl
  refine x_len Try.underlying57 (hS.rd 1 rfl).2.1 hA (fun ac hA => ?_) rfl rfl rfl rfl rfl
  refine x_move hA (fun ac hA => ?_) rfl rfl rfl rfl rfl
  refine wpList_nil ?_
  refine hK266 _ _ ?_
  refine wp_block_k fun Kx267 hKx267 => ?_
  have hb1 : ∀ (l336 : (List Int)), column_Texts_b1 a0 y109 l336 = some y → ∀ (A337 : Option Addr) (n338 : Nat) (c339 : Nat) (ac : Act) (w : World), FR 51 [] ac [(0, .slice A0 n0 c0), (3, .slice A111 n112 c113), (4, .slice A337 n338 c339)] → SH r (own kS 9 A111 n112 c113 y109 :: own (kI .u8) 5 A337 n338 c339 l336 :: L) w → Kx267 ac w := by
    intro l336 hF A337 n338 c339 ac w hA hS
    unfold column_Texts_b1 at hF
    refine hKx267 _ _ ?_
    refine hK122 _ _ ?_
    refine wp_seq_k fun K340 hK340 => ?_
    refine wp_reg ?_
    refine x_assign hA (fun ac hA => ?_) rfl rfl rfl rfl rfl
    refine wpList_nil ?_
    refine hK340 _ _ ?_
    refine wp_seq_k fun K341 hK341 => ?_
    refine wp_seq_k fun K519 hK519 => ?_
    refine wp_reg ?_
    refine x_move hA (fun ac hA => ?_) rfl rfl rfl rfl rfl
    refine x_len Try.underlying57 (hS.rdl 2 ha0 rfl).2.1 hA (fun ac hA => ?_) rfl rfl rfl rfl rfl
    refine x_move hA (fun ac hA => ?_) rfl rfl rfl rfl rfl
    refine wpList_nil ?_
    refine hK519 _ _ ?_
    refine wp_block_k fun Kx520 hKx520 => ?_
    have hb2 : ∀ (l606 : (List Int)), column_Texts_b2 l336 l606 = some y → ∀ (A607 : Option Addr) (n608 : Nat) (c609 : Nat) (ac : Act) (w : World), FR 51 [] ac [(4, .slice A337 n338 c339), (7, .slice A607 n608 c609)] → SH r (own (kI .u8) 5 A337 n338 c339 l336 :: own (kI .i64) 2 A607 n608 c609 l606 :: L) w → Kx520 ac w := by
      intro l606 hF A607 n608 c609 ac w hA hS
      unfold column_Texts_b2 at hF
      refine hKx520 _ _ ?_
      refine hK341 _ _ ?_
      refine wp_seq_k fun K610 hK610 => ?_
      refine wp_reg ?_
      refine x_move hA (fun ac hA => ?_) rfl rfl rfl rfl rfl
      refine x_move hA (fun ac hA => ?_) rfl rfl rfl rfl rfl
      obtain ⟨y611, h612, hF⟩ := bnd hF
      refine x_call en22 hA (F_column_Ints (L := own (kI .u8) 5 A337 n338 c339 l336 :: own (kI .i64) 2 A607 n608 c609 l606 :: L) l606 A607 n608 c609 h612 (RdL.own 1 rfl (hS.dropN 0)) hS) (fun v ac w hR hA => ?_) rfl rfl rfl rfl rfl
      obtain ⟨B613, m614, d615, rfl, hS⟩ := hR
      obtain ⟨h616, hF⟩ := chk_some hF
      have hr := hS.rd 0 rfl
      refine x_app 1 inf5 Try.underlying22 hA hS hr.1 hr.2.1 h616 rfl (fun A617 n618 c619 ac w hS hA => ?_) rfl rfl rfl rfl rfl rfl rfl rfl rfl
      refine x_assign hA (fun ac hA => ?_) rfl rfl rfl rfl rfl
      refine wpList_nil ?_
      refine hK610 _ _ ?_
      refine wp_ret ?_
      replace hS := hS.drop 1
      replace hS := hS.drop 1
      cases hF
      refine hQ _ _ ?_
      refine lv Try.results37 hA rfl ?_
      exact ⟨A617, n618, c619, rfl, hS⟩
    obtain ⟨t684, hl684, hF⟩ := bnd hF
    have hx684_2 : ∀ (l681 : (List Int)), (l681) = t684 → ∀ (A682 : Option Addr) (n683 : Nat) (c684 : Nat) (ac : Act) (w : World), FR 51 [] ac [(4, .slice A337 n338 c339), (7, .slice A682 n683 c684)] → SH r (own (kI .u8) 5 A337 n338 c339 l336 :: own (kI .i64) 2 A682 n683 c684 l681 :: L) w → Kx520 ac w := by
      intro l681 ht A682 n683 c684 ac w hA hS
      subst ht
      replace hF : column_Texts_x1_2 l336 l681 = some y := hF
      unfold column_Texts_x1_2 at hF
      exact hb2 l681 hF A682 n683 c684 ac w (hA.sub _ rfl) hS
    replace hS := SH.nil_own (d := (kI .i64)) (e := 2) hS
    replace hS := hS.pk 2
    replace hS := hS.pk 2
    refine wp_loop_fn hl684 (fun s ac w => ∃ (A653 : Option Addr) (n654 : Nat) (c655 : Nat), FR 51 [] ac [(3, .slice A111 n112 c113), (4, .slice A337 n338 c339), (7, .slice A653 n654 c655), (30, .slice A0 n0 c0), (31, .int .i64 (a0.length : Int)), (32, .int .i64 s.2)] ∧ SH r (own kS 9 A111 n112 c113 y109 :: own (kI .u8) 5 A337 n338 c339 l336 :: own (kI .i64) 2 A653 n654 c655 s.1 :: L) w) ⟨none, 0, 0, hA.sub _ rfl, hS⟩ ?_
    intro N684 s684 o684 hF N684_ T684_ ac w hLab
    obtain ⟨l652, x656⟩ := s684
    replace hF : column_Texts_l1 a0 y109 l652 x656 = some o684 := hF
    unfold column_Texts_l1 at hF
    try dsimp only at hLab
    obtain ⟨A653, n654, c655, hA, hS⟩ := hLab
    refine wp_seq_k fun K686 hK686 => ?_
    refine wp_reg ?_
    refine x_val hA (r_ltI rfl (hA.ev rfl) (hA.ev rfl)) (fun ac hA => ?_) rfl rfl rfl
    refine wpList_nil ?_
    refine hK686 _ _ ?_
    refine wp_seq_k fun K687 hK687 => ?_
    refine c_if hA rfl (fun hb688 => ?_) fun hb688 => ?_
    · replace hF := ift hb688 hF
      refine wp_skip ?_
      refine hK687 _ _ ?_
      refine wp_seq_k fun K689 hK689 => ?_
      refine wp_block_k fun Kx690 hKx690 => ?_
      refine wp_seq_k fun K691 hK691 => ?_
      refine wp_reg ?_
      obtain ⟨x692, h693, hF⟩ := bnd hF
      refine x_ia Try.underlying57 sz9 (hS.rdl 3 ha0 rfl) h693 hA (fun ac hA => ?_) rfl rfl rfl rfl rfl rfl
      obtain ⟨cs, hV, hc694⟩ := el (hS.rdl 3 ha0 rfl) h693
      obtain rfl := hV
      refine x_ld Try.underlying9 (hc694 0 _ rfl) hA (fun ac hA => ?_) rfl rfl rfl rfl rfl rfl
      refine x_assign hA (fun ac hA => ?_) rfl rfl rfl rfl rfl
      refine wpList_nil ?_
      refine hK691 _ _ ?_
      refine wp_seq_k fun K695 hK695 => ?_
      refine wp_reg ?_
      refine x_move hA (fun ac hA => ?_) rfl rfl rfl rfl rfl
      refine x_move hA (fun ac hA => ?_) rfl rfl rfl rfl rfl
      obtain ⟨y696, h697, hF⟩ := bnd hF
      refine x_call en59 hA (F_slices_BinarySearch_string_string (L := own kS 9 A111 n112 c113 y109 :: own (kI .u8) 5 A337 n338 c339 l336 :: own (kI .i64) 2 A653 n654 c655 l652 :: L) y109 x692 A111 n112 c113 h697 (RdL.own 0 rfl (hS.dropN 0)) hS) (fun v ac w hR hA => ?_) rfl rfl rfl rfl rfl
      obtain ⟨rfl, hS⟩ := hR
      refine x_move hA (fun ac hA => ?_) rfl rfl rfl rfl rfl
      refine x_val hA (r_extract rfl (hA.ev rfl) rfl) (fun ac hA => ?_) rfl rfl rfl
      refine x_val hA (r_extract rfl (hA.ev rfl) rfl) (fun ac hA => ?_) rfl rfl rfl
      refine x_assign hA (fun ac hA => ?_) rfl rfl rfl rfl rfl
      refine x_assign hA (fun ac hA => ?_) rfl rfl rfl rfl rfl
      refine wpList_nil ?_
      refine hK695 _ _ ?_
      refine wp_reg ?_
      refine x_move hA (fun ac hA => ?_) rfl rfl rfl rfl rfl
      refine x_move hA (fun ac hA => ?_) rfl rfl rfl rfl rfl
      refine x_bsl (d := (kI .i64)) (e := 2) (ps := #[(0, .int .i64 y696.1)]) (cells := [.int .i64 y696.1]) (xs := [y696.1]) (fun w => by kernel_rfl) rfl ⟨[.int .i64 y696.1], _, rfl, rfl, rfl⟩ hA hS (fun g698 ac w hS hA => ?_) rfl rfl rfl rfl rfl rfl
      obtain ⟨h699, hF⟩ := chk_some hF
      have hr := hS.rd 0 rfl
      refine x_app 3 inf2 Try.underlying37 hA hS hr.1 hr.2.1 h699 rfl (fun A700 n701 c702 ac w hS hA => ?_) rfl rfl rfl rfl rfl rfl rfl rfl rfl
      refine x_assign hA (fun ac hA => ?_) rfl rfl rfl rfl rfl
      refine wpList_nil ?_
      refine hKx690 _ _ ?_
      refine hK689 _ _ ?_
      refine wp_reg ?_
      obtain ⟨x703, h704, hF⟩ := ltt_ hF
      refine x_val (v := .int .i64 x703) hA (rv_i h704 (r_add rfl (hA.ev rfl) (hA.ev rfl))) (fun ac hA => ?_) rfl rfl rfl
      refine x_move hA (fun ac hA => ?_) rfl rfl rfl rfl rfl
      refine wpList_nil ?_
      replace hS := hS.drop 1
      replace hS := hS.pk 2
      replace hS := hS.pk 2
      cases hF
      exact ⟨_, N684_ _ rfl, A700, n701, c702, hA.sub _ rfl, hS⟩
    replace hF := iff' hb688 hF
    refine wp_exit ?_
    replace hS := hS.drop 0
    cases hF
    exact hx684_2 l652 (T684_ _ rfl) A653 n654 c655 ac w (hA.sub _ rfl) hS
  obtain ⟨t755, hl755, hF⟩ := bnd hF
  have hx755_0 : ∀ (l752 : (List Int)), (l752) = t755 → ∀ (A753 : Option Addr) (n754 : Nat) (c755 : Nat) (ac : Act) (w : World), FR 51 [] ac [(0, .slice A0 n0 c0), (3, .slice A111 n112 c113), (4, .slice A753 n754 c755)] → SH r (own kS 9 A111 n112 c113 y109 :: own (kI .u8) 5 A753 n754 c755 l752 :: L) w → Kx267 ac w := by
    intro l752 ht A753 n754 c755 ac w hA hS
    subst ht
    replace hF : column_Texts_x2_0 a0 y109 l752 = some y := hF
    unfold column_Texts_x2_0 at hF
    exact hb1 l752 hF A753 n754 c755 ac w (hA.sub _ rfl) hS
  replace hS := hS.pk 1
  refine wp_loop_fn hl755 (fun s ac w => ∃ (A727 : Option Addr) (n728 : Nat) (c729 : Nat), FR 51 [] ac [(0, .slice A0 n0 c0), (3, .slice A111 n112 c113), (4, .slice A727 n728 c729), (20, .slice A111 n112 c113), (21, .int .i64 (y109.length : Int)), (22, .int .i64 s.2)] ∧ SH r (own kS 9 A111 n112 c113 y109 :: own (kI .u8) 5 A727 n728 c729 s.1 :: L) w) ⟨B119, m120, d121, hA.sub _ rfl, hS⟩ ?_
  intro N755 s755 o755 hF N755_ T755_ ac w hLab
  obtain ⟨l726, x730⟩ := s755
  replace hF : column_Texts_l2 y109 l726 x730 = some o755 := hF
  unfold column_Texts_l2 at hF
  try dsimp only at hLab
  obtain ⟨A727, n728, c729, hA, hS⟩ := hLab
  refine wp_seq_k fun K757 hK757 => ?_
  refine wp_reg ?_
  refine x_val hA (r_ltI rfl (hA.ev rfl) (hA.ev rfl)) (fun ac hA => ?_) rfl rfl rfl
  refine wpList_nil ?_
  refine hK757 _ _ ?_
  refine wp_seq_k fun K758 hK758 => ?_
  refine c_if hA rfl (fun hb759 => ?_) fun hb759 => ?_
  · replace hF := ift hb759 hF
    refine wp_skip ?_
    refine hK758 _ _ ?_
    refine wp_seq_k fun K760 hK760 => ?_
    refine wp_block_k fun Kx761 hKx761 => ?_
    refine wp_seq_k fun K762 hK762 => ?_
    refine wp_reg ?_
    obtain ⟨x763, h764, hF⟩ := bnd hF
    refine x_ia Try.underlying57 sz9 (hS.rd 0 rfl) h764 hA (fun ac hA => ?_) rfl rfl rfl rfl rfl rfl
    obtain ⟨cs, hV, hc765⟩ := el (hS.rd 0 rfl) h764
    obtain rfl := hV
    refine x_ld Try.underlying9 (hc765 0 _ rfl) hA (fun ac hA => ?_) rfl rfl rfl rfl rfl rfl
    refine x_assign hA (fun ac hA => ?_) rfl rfl rfl rfl rfl
    refine wpList_nil ?_
    refine hK762 _ _ ?_
    refine wp_reg ?_
    refine x_move hA (fun ac hA => ?_) rfl rfl rfl rfl rfl
    refine x_move hA (fun ac hA => ?_) rfl rfl rfl rfl rfl
    replace hS := hS.pk 1
    obtain ⟨y766, h767, hF⟩ := bnd hF
    refine x_call en58 hA (F_column_Text (L := own kS 9 A111 n112 c113 y109 :: L) l726 x763 A727 n728 c729 h767 hS) (fun v ac w hR hA => ?_) rfl rfl rfl rfl rfl
    obtain ⟨B768, m769, d770, rfl, hS⟩ := hR
    refine x_assign hA (fun ac hA => ?_) rfl rfl rfl rfl rfl
    refine wpList_nil ?_
    refine hKx761 _ _ ?_
    refine hK760 _ _ ?_
    refine wp_reg ?_
    obtain ⟨x771, h772, hF⟩ := ltt_ hF
    refine x_val (v := .int .i64 x771) hA (rv_i h772 (r_add rfl (hA.ev rfl) (hA.ev rfl))) (fun ac hA => ?_) rfl rfl rfl
    refine x_move hA (fun ac hA => ?_) rfl rfl rfl rfl rfl
    refine wpList_nil ?_
    replace hS := hS.pk 1
    cases hF
    exact ⟨_, N755_ _ rfl, B768, m769, d770, hA.sub _ rfl, hS⟩
  replace hF := iff' hb759 hF
  refine wp_exit ?_
  cases hF
  exact hx755_0 l726 (T755_ _ rfl) A727 n728 c729 ac w (hA.sub _ rfl) hS
end Go.Proofs.Ythokgnonmcgkcaa.M
namespace Go.Proofs.Ythokgnonmcgkcaa.M
open Go Go.RowKit Go.Proofs.Ythokgnonmcgkcaa.E
set_option linter.unusedVariables false
set_option linter.unusedSimpArgs false
noncomputable def law03_texts_b1 : Option (Bool) :=
  some true
noncomputable def law03_texts_x1_0 : Option (Bool) :=
  law03_texts_b1
noncomputable def law03_texts_l1 (a0 : (List (List UInt8))) (a1 : (List (List UInt8))) (x286 : Int) : Option ((Int) ⊕ ((Unit) ⊕ (Bool))) :=
  if (decide (x286 < (a0.length : Int))) = true then ((at_ a0 x286).bind fun x311 => ((at_ a1 x286).bind fun x314 => (if (!(x311 == x314)) = true then (some (.inr (.inr false))) else (ltt (IntKind.i64.wrap (x286 + 1)) fun x319 => (some (.inl (x319))))))) else (some (.inr (.inl ())))
noncomputable def law03_texts (a0 : (List (List UInt8))) (a1 : (List (List UInt8))) : Option (Bool) :=
  if ((a0.length : Int) != (a1.length : Int)) = true then (some false) else ((loop (fun s => law03_texts_l1 a0 a1 s) (0)).bind fun t => match t with | (.inl t) => law03_texts_x1_0 | (.inr t) => some t)
noncomputable def law03_awake : Option (Bool) :=
  (column_Ints [7, 7, 7]).bind fun y104 => (if ((bts y104) == [2, 3, 14, 2]) = true then (some true) else (some false))
noncomputable def law03_ColumnTexts_b1 (a0 : (List (List UInt8))) : Option (Bool) :=
  (column_Texts a0).bind fun y248 => ((column_ReadTexts y248).bind fun y259 => ((r03_Texts a0).bind fun y265 => (if ((bts y248) == (bts y265)) = true then (if (y259.2 == 0) = true then ((law03_texts y259.1 a0).bind fun y272 => (some y272)) else (some false)) else (some false))))
noncomputable def law03_ColumnTexts_x1_0 (a0 : (List (List UInt8))) : Option (Bool) :=
  law03_ColumnTexts_b1 a0
noncomputable def law03_ColumnTexts_l1 (a0 : (List (List UInt8))) (x288 : Int) : Option ((Int) ⊕ ((Unit) ⊕ (Bool))) :=
  if (decide (x288 < (a0.length : Int))) = true then ((at_ a0 x288).bind fun x310 => (if (decide (32 < (x310.length : Int))) = true then (some (.inr (.inr true))) else (ltt (IntKind.i64.wrap (x288 + 1)) fun x315 => (some (.inl (x315)))))) else (some (.inr (.inl ())))
noncomputable def law03_ColumnTexts_j1 (a0 : (List (List UInt8))) (b107 : Bool) : Option (Bool) :=
  if b107 = true then ((law03_awake).bind fun y110 => (some y110)) else ((loop (fun s => law03_ColumnTexts_l1 a0 s) (0)).bind fun t => match t with | (.inl t) => law03_ColumnTexts_x1_0 a0 | (.inr t) => some t)
noncomputable def law03_ColumnTexts (a0 : (List (List UInt8))) : Option (Bool) :=
  (law03_awake).bind fun y317 => (if (!y317) = true then (law03_ColumnTexts_j1 a0 true) else (law03_ColumnTexts_j1 a0 (decide (100 < (a0.length : Int)))))
end Go.Proofs.Ythokgnonmcgkcaa.M
namespace Go.Proofs.Ythokgnonmcgkcaa.M
open Go Go.RowKit Go.Proofs.Ythokgnonmcgkcaa.E
set_option linter.unusedVariables false
set_option linter.unusedSimpArgs false
set_option maxRecDepth 100000 in
set_option maxHeartbeats 4000000 in
theorem F_law03_texts {r : World} {L : List HP} {w : World} (a0 : (List (List UInt8))) (a1 : (List (List UInt8))) (A0 : Option Addr) (n0 : Nat) (c0 : Nat) (A1 : Option Addr) (n1 : Nat) (c1 : Nat) {y : (Bool)} (hF : law03_texts a0 a1 = some y) (ha0 : RdL L kS A0 n0 c0 a0) (ha1 : RdL L kS A1 n1 c1 a1) (hS : SH r (L) w) :
    Ret Try.prog 36 #[.slice A0 n0 c0, .slice A1 n1 c1] w fun v w' => v = .bool y ∧ SH r (L) w' := by
  refine enter Try.func36 rfl Try.ntmps36 [(0, .slice A0 n0 c0), (1, .slice A1 n1 c1)] rfl (by simp) ?_
  intro ac hA Qf hQ hQn
  unfold law03_texts at hF
  refine wp_seq_k fun K101 hK101 => ?_
  refine wp_reg ?_
  refine x_assign hA (fun ac hA => ?_) rfl rfl rfl rfl rfl
  refine wpList_nil ?_
  refine hK101 _ _ ?_
  refine wp_seq_k fun K102 hK102 => ?_
  refine wp_seq_k fun K103 hK103 => ?_
  refine wp_reg ?_
  refine x_move hA (fun ac hA => ?_) rfl rfl rfl rfl rfl
  refine x_len Try.underlying57 (hS.rdl 0 ha0 rfl).2.1 hA (fun ac hA => ?_) rfl rfl rfl rfl rfl
  refine x_move hA (fun ac hA => ?_) rfl rfl rfl rfl rfl
  refine x_len Try.underlying57 (hS.rdl 0 ha1 rfl).2.1 hA (fun ac hA => ?_) rfl rfl rfl rfl rfl
  refine x_val hA (r_neI rfl (hA.ev rfl) (hA.ev rfl)) (fun ac hA => ?_) rfl rfl rfl
  refine wpList_nil ?_
  refine hK103 _ _ ?_
  refine c_if hA rfl (fun hb104 => ?_) fun hb104 => ?_
  · replace hF := ift hb104 hF
    refine wp_seq_k fun K105 hK105 => ?_
    refine wp_reg ?_
    refine x_assign hA (fun ac hA => ?_) rfl rfl rfl rfl rfl
    refine wpList_nil ?_
    refine hK105 _ _ ?_
    refine wp_ret ?_
    cases hF
    refine hQ _ _ ?_
    refine lv Try.results36 hA rfl ?_
    exact ⟨rfl, hS⟩
  replace hF := iff' hb104 hF
  refine wp_skip ?_
  refine hK102 _ _ ?_
  refine wp_seq_k fun K106 hK106 => ?_
  refine wp_seq_k fun K214 hK214 => ?_
  refine wp_reg ?_
  refine x_assign hA (fun ac hA => ?_) rfl rfl rfl rfl rfl
  refine wpList_nil ?_
  refine hK214 _ _ ?_
  refine wp_block_k fun Kx215 hKx215 => ?_
  have hb1 : law03_texts_b1 = some y → ∀ (ac : Act) (w : World), FR 26 [] ac [] → SH r (L) w → Kx215 ac w := by
    intro hF ac w hA hS
    unfold law03_texts_b1 at hF
    refine hKx215 _ _ ?_
    refine hK106 _ _ ?_
    refine wp_seq_k fun K268 hK268 => ?_
    refine wp_reg ?_
    refine x_assign hA (fun ac hA => ?_) rfl rfl rfl rfl rfl
    refine wpList_nil ?_
    refine hK268 _ _ ?_
    refine wp_ret ?_
    cases hF
    refine hQ _ _ ?_
    refine lv Try.results36 hA rfl ?_
    exact ⟨rfl, hS⟩
  obtain ⟨t303, hl303, hF⟩ := bnd hF
  have hR303 := hF
  have hx303_0 : (.inl ()) = t303 → ∀ (ac : Act) (w : World), FR 26 [] ac [] → SH r (L) w → Kx215 ac w := by
    intro ht ac w hA hS
    subst ht
    replace hF : law03_texts_x1_0 = some y := hF
    unfold law03_texts_x1_0 at hF
    exact hb1 hF ac w (hA.sub _ rfl) hS
  refine wp_loop_fn hl303 (fun s ac w => FR 26 [] ac [(0, .slice A0 n0 c0), (1, .slice A1 n1 c1), (5, .int .i64 s)] ∧ SH r (L) w) ⟨hA.sub _ rfl, hS⟩ ?_
  intro N303 s303 o303 hF N303_ T303_ ac w hLab
  obtain ⟨x286, rfl⟩ : ∃ q, q = s303 := ⟨_, rfl⟩
  replace hF : law03_texts_l1 a0 a1 x286 = some o303 := hF
  unfold law03_texts_l1 at hF
  try dsimp only at hLab
  obtain ⟨hA, hS⟩ := hLab
  refine wp_seq_k fun K305 hK305 => ?_
  refine wp_seq_k fun K306 hK306 => ?_
  refine wp_reg ?_
  refine x_move hA (fun ac hA => ?_) rfl rfl rfl rfl rfl
  refine x_move hA (fun ac hA => ?_) rfl rfl rfl rfl rfl
  refine x_len Try.underlying57 (hS.rdl 0 ha0 rfl).2.1 hA (fun ac hA => ?_) rfl rfl rfl rfl rfl
  refine x_val hA (r_ltI rfl (hA.ev rfl) (hA.ev rfl)) (fun ac hA => ?_) rfl rfl rfl
  refine wpList_nil ?_
  refine hK306 _ _ ?_
  refine c_if hA rfl (fun hb307 => ?_) fun hb307 => ?_
  · replace hF := ift hb307 hF
    refine wp_skip ?_
    refine hK305 _ _ ?_
    refine wp_seq_k fun K308 hK308 => ?_
    refine wp_block_k fun Kx309 hKx309 => ?_
    refine wp_seq_k fun K310 hK310 => ?_
    refine wp_draw [0, 0, 3, 7, 0, 0, 48, 112, 255] [] rfl hA hS (by kernel_rfl) (by kernel_rfl) (by kernel_rfl) (by kernel_rfl) fun w hS => ?_
    obtain ⟨x311, h312, hF⟩ := bnd hF
    obtain ⟨cs, hV, hc313⟩ := el (hS.rdl 0 ha0 rfl) h312
    obtain rfl := hV
    obtain ⟨x314, h315, hF⟩ := bnd hF
    obtain ⟨cs, hV, hc316⟩ := el (hS.rdl 0 ha1 rfl) h315
    obtain rfl := hV
    refine ⟨[(0, .slice A0 n0 c0), (1, .int .i64 x286), (2, .pointer (some (ea A0 (x286.toNat * 1)))), (3, str x311), (4, .slice A1 n1 c1), (5, .int .i64 x286), (6, .pointer (some (ea A1 (x286.toNat * 1)))), (7, str x314), (8, .bool (!(x311 == x314)))], ?_⟩
    refine dEnd [0, 1, 2, 3, 4, 5, 6, 7, 8] (by kernel_rfl) ⟨pu rfl rfl [(0, .slice A0 n0 c0)] (fun ac hA => y_move hA rfl rfl) rfl rfl, pu rfl rfl [(5, .int .i64 x286)] (fun ac hA => y_move hA rfl rfl) rfl rfl, pu rfl rfl [(17, .slice A0 n0 c0), (18, .int .i64 x286)] (fun ac hA => y_ia Try.underlying57 sz9 (hS.rdl 0 ha0 rfl) h312 hA rfl rfl rfl) rfl rfl, pu rfl rfl [(19, .pointer (some (ea A0 (x286.toNat * 1))))] (fun ac hA => y_ld Try.underlying9 (hc313 0 _ rfl) hA rfl rfl rfl) rfl rfl, pu rfl rfl [(1, .slice A1 n1 c1)] (fun ac hA => y_move hA rfl rfl) rfl rfl, pu rfl rfl [(5, .int .i64 x286)] (fun ac hA => y_move hA rfl rfl) rfl rfl, pu rfl rfl [(21, .slice A1 n1 c1), (22, .int .i64 x286)] (fun ac hA => y_ia Try.underlying57 sz9 (hS.rdl 0 ha1 rfl) h315 hA rfl rfl rfl) rfl rfl, pu rfl rfl [(23, .pointer (some (ea A1 (x286.toNat * 1))))] (fun ac hA => y_ld Try.underlying9 (hc316 0 _ rfl) hA rfl rfl rfl) rfl rfl, pu rfl rfl [(20, str x311), (24, str x314)] (fun ac hA => r_neS rfl (hA.ev rfl) (hA.ev rfl)) rfl rfl, trivial⟩ ⟨by kernel_rfl, by kernel_rfl⟩ [(0, .slice A0 n0 c0), (1, .slice A1 n1 c1), (5, .int .i64 x286), (25, .bool (!(x311 == x314)))] rfl (fun ac hA => ?_)
    refine hK310 _ _ ?_
    refine c_if hA rfl (fun hb317 => ?_) fun hb317 => ?_
    · replace hF := ift hb317 hF
      refine wp_seq_k fun K318 hK318 => ?_
      refine wp_reg ?_
      refine x_assign hA (fun ac hA => ?_) rfl rfl rfl rfl rfl
      refine wpList_nil ?_
      refine hK318 _ _ ?_
      refine wp_ret ?_
      cases hF
      have ht := T303_ _ rfl
      subst ht
      replace hF := hR303
      replace hF : some false = some y := hF
      cases hF
      refine hQ _ _ ?_
      refine lv Try.results36 hA rfl ?_
      exact ⟨rfl, hS⟩
    replace hF := iff' hb317 hF
    refine wp_skip ?_
    refine hKx309 _ _ ?_
    refine hK308 _ _ ?_
    refine wp_reg ?_
    refine x_move hA (fun ac hA => ?_) rfl rfl rfl rfl rfl
    obtain ⟨x319, h320, hF⟩ := ltt_ hF
    refine x_val (v := .int .i64 x319) hA (rv_i h320 (r_add rfl (hA.ev rfl) (hA.ev rfl))) (fun ac hA => ?_) rfl rfl rfl
    refine x_assign hA (fun ac hA => ?_) rfl rfl rfl rfl rfl
    refine wpList_nil ?_
    cases hF
    exact ⟨_, N303_ _ rfl, hA.sub _ rfl, hS⟩
  replace hF := iff' hb307 hF
  refine wp_exit ?_
  cases hF
  exact hx303_0 (T303_ _ rfl) ac w (hA.sub _ rfl) hS
set_option maxRecDepth 100000 in
set_option maxHeartbeats 4000000 in
theorem F_law03_awake {r : World} {L : List HP} {w : World} {y : (Bool)} (hF : law03_awake = some y) (hS : SH r (L) w) :
    Ret Try.prog 10 #[] w fun v w' => v = .bool y ∧ SH r (L) w' := by
  refine enter Try.func10 rfl Try.ntmps10 [] rfl (by simp) ?_
  intro ac hA Qf hQ hQn
  unfold law03_awake at hF
  refine wp_seq_k fun K101 hK101 => ?_
  refine wp_reg ?_
  refine x_assign hA (fun ac hA => ?_) rfl rfl rfl rfl rfl
  refine wpList_nil ?_
  refine hK101 _ _ ?_
  refine wp_seq_k fun K102 hK102 => ?_
  refine wp_reg ?_
  refine x_bsl (d := (kI .i64)) (e := 2) (ps := #[(0, .int .i64 7), (1, .int .i64 7), (2, .int .i64 7)]) (cells := [.int .i64 7, .int .i64 7, .int .i64 7]) (xs := [7, 7, 7]) (fun w => by kernel_rfl) rfl ⟨[.int .i64 7], _, rfl, rfl, ⟨[.int .i64 7], _, rfl, rfl, ⟨[.int .i64 7], _, rfl, rfl, rfl⟩⟩⟩ hA hS (fun g103 ac w hS hA => ?_) rfl rfl rfl rfl rfl rfl
  obtain ⟨y104, h105, hF⟩ := bnd hF
  refine x_call en22 hA (F_column_Ints (L := own (kI .i64) 2 (some ⟨g103, 0, none⟩) 3 3 [7, 7, 7] :: L) [7, 7, 7] (some ⟨g103, 0, none⟩) 3 3 h105 (RdL.own 0 rfl (hS.dropN 0)) hS) (fun v ac w hR hA => ?_) rfl rfl rfl rfl rfl
  obtain ⟨B106, m107, d108, rfl, hS⟩ := hR
  refine x_b2s Try.underlying22 Try.underlying5 Try.underlying9 (hS.rd 0 rfl) hA (fun ac hA => ?_) rfl rfl rfl rfl rfl
  refine x_val hA (r_eqS rfl (hA.ev rfl) (hA.ev rfl)) (fun ac hA => ?_) rfl rfl rfl
  refine x_move hA (fun ac hA => ?_) rfl rfl rfl rfl rfl
  refine bcase (b := (bts y104) == [2, 3, 14, 2]) (fun hb109 => ?_) fun hb109 => ?_
  · replace hF := ift hb109 hF
    refine x_pickt hb109 hA (fun ac hA => ?_) rfl rfl rfl rfl rfl rfl
    refine x_move hA (fun ac hA => ?_) rfl rfl rfl rfl rfl
    refine x_pickt rfl hA (fun ac hA => ?_) rfl rfl rfl rfl rfl rfl
    refine x_assign hA (fun ac hA => ?_) rfl rfl rfl rfl rfl
    refine wpList_nil ?_
    refine hK102 _ _ ?_
    refine wp_ret ?_
    replace hS := hS.drop 0
    replace hS := hS.drop 0
    cases hF
    refine hQ _ _ ?_
    refine lv Try.results10 hA rfl ?_
    exact ⟨rfl, hS⟩
  replace hF := iff' hb109 hF
  refine x_pickf hb109 hA (fun ac hA => ?_) rfl rfl rfl rfl rfl rfl
  refine x_move hA (fun ac hA => ?_) rfl rfl rfl rfl rfl
  refine x_pickf rfl hA (fun ac hA => ?_) rfl rfl rfl rfl rfl rfl
  refine x_assign hA (fun ac hA => ?_) rfl rfl rfl rfl rfl
  refine wpList_nil ?_
  refine hK102 _ _ ?_
  refine wp_ret ?_
  replace hS := hS.drop 0
  replace hS := hS.drop 0
  cases hF
  refine hQ _ _ ?_
  refine lv Try.results10 hA rfl ?_
  exact ⟨rfl, hS⟩
set_option maxRecDepth 100000 in
set_option maxHeartbeats 4000000 in
theorem F_law03_ColumnTexts {r : World} {L : List HP} {w : World} {Z : Nat → Prop} {wz : World} (a0 : (List (List UInt8))) (A0 : Option Addr) (n0 : Nat) (c0 : Nat) {y : (Bool)} (hF : law03_ColumnTexts a0 = some y) (ha0 : Imm Z wz kS A0 n0 c0 a0) (hS : SH r (zone Z wz :: L) w) :
    Ret Try.prog 9 #[.slice A0 n0 c0] w fun v w' => ∃ (Z' : Nat → Prop) (wz' : World), v = .bool y ∧ Sub Z wz Z' wz' ∧ SH r (zone Z' wz' :: L) w' := by
  refine enter Try.func9 rfl Try.ntmps9 [(0, .slice A0 n0 c0)] rfl (by simp) ?_
  intro ac hA Qf hQ hQn
  unfold law03_ColumnTexts at hF
  refine wp_seq_k fun K101 hK101 => ?_
  refine wp_reg ?_
  refine x_assign hA (fun ac hA => ?_) rfl rfl rfl rfl rfl
  refine wpList_nil ?_
  refine hK101 _ _ ?_
  refine wp_seq_k fun K102 hK102 => ?_
  refine wp_seq_k fun K103 hK103 => ?_
  have hj1 : ∀ (b107 : Bool), law03_ColumnTexts_j1 a0 b107 = some y → ∀ (ac : Act) (w : World), FR 49 [] ac [(0, .slice A0 n0 c0), (13, .bool b107)] → SH r (zone Z wz :: L) w → K103 ac w := by
    intro b107 hF ac w hA hS
    unfold law03_ColumnTexts_j1 at hF
    refine hK103 _ _ ?_
    refine c_if hA rfl (fun hb108 => ?_) fun hb108 => ?_
    · replace hF := ift hb108 hF
      refine wp_seq_k fun K109 hK109 => ?_
      refine wp_reg ?_
      obtain ⟨y110, h111, hF⟩ := bnd hF
      refine x_call en10 hA (F_law03_awake (L := zone Z wz :: L) h111 hS) (fun v ac w hR hA => ?_) rfl rfl rfl rfl rfl
      obtain ⟨rfl, hS⟩ := hR
      refine x_assign hA (fun ac hA => ?_) rfl rfl rfl rfl rfl
      refine wpList_nil ?_
      refine hK109 _ _ ?_
      refine wp_ret ?_
      cases hF
      refine hQ _ _ ?_
      refine lv Try.results9 hA rfl ?_
      exact ⟨Z, wz, rfl, (Sub.refl _ _), hS⟩
    replace hF := iff' hb108 hF
    refine wp_skip ?_
    refine hK102 _ _ ?_
    refine wp_seq_k fun K112 hK112 => ?_
    refine wp_seq_k fun K202 hK202 => ?_
    refine wp_reg ?_
    refine x_assign hA (fun ac hA => ?_) rfl rfl rfl rfl rfl
    refine wpList_nil ?_
    refine hK202 _ _ ?_
    refine wp_block_k fun Kx203 hKx203 => ?_
    have hb1 : law03_ColumnTexts_b1 a0 = some y → ∀ (ac : Act) (w : World), FR 49 [] ac [(0, .slice A0 n0 c0)] → SH r (zone Z wz :: L) w → Kx203 ac w := by
      intro hF ac w hA hS
      unfold law03_ColumnTexts_b1 at hF
      refine hKx203 _ _ ?_
      refine hK112 _ _ ?_
      refine wp_seq_k fun K247 hK247 => ?_
      refine wp_reg ?_
      refine x_move hA (fun ac hA => ?_) rfl rfl rfl rfl rfl
      obtain ⟨y248, h249, hF⟩ := bnd hF
      refine x_call en37 hA (F_column_Texts (L := zone Z wz :: L) a0 A0 n0 c0 h249 (ha0.rdl 0 rfl) hS) (fun v ac w hR hA => ?_) rfl rfl rfl rfl rfl
      obtain ⟨B250, m251, d252, rfl, hS⟩ := hR
      refine x_assign hA (fun ac hA => ?_) rfl rfl rfl rfl rfl
      refine wpList_nil ?_
      refine hK247 _ _ ?_
      refine wp_seq_k fun K253 hK253 => ?_
      refine wp_reg ?_
      refine x_move hA (fun ac hA => ?_) rfl rfl rfl rfl rfl
      replace hS := hS.pk 1
      replace hS := hS.pk 1
      obtain ⟨Z254, wz255, hS, h256, sb257⟩ := SH.freeze (n := m251) (c := d252) (A := B250) hS
      have h258 := Imm.sub ha0 sb257
      obtain ⟨y259, h260, hF⟩ := bnd hF
      refine x_call en33 hA (F_column_ReadTexts (L := zone Z254 wz255 :: L) y248 B250 m251 d252 h260 0 rfl h256 hS) (fun v ac w hR hA => ?_) rfl rfl rfl rfl rfl
      obtain ⟨B261, m262, d263, rfl, hS⟩ := hR
      refine x_move hA (fun ac hA => ?_) rfl rfl rfl rfl rfl
      refine x_val hA (r_extract rfl (hA.ev rfl) rfl) (fun ac hA => ?_) rfl rfl rfl
      refine x_val hA (r_extract rfl (hA.ev rfl) rfl) (fun ac hA => ?_) rfl rfl rfl
      refine x_assign hA (fun ac hA => ?_) rfl rfl rfl rfl rfl
      refine x_assign hA (fun ac hA => ?_) rfl rfl rfl rfl rfl
      refine wpList_nil ?_
      refine hK253 _ _ ?_
      refine wp_seq_k fun K264 hK264 => ?_
      refine wp_draw [0, 1, 0, 4, 12, 31, 63, 127, 255, 511, 1023, 2047, 2047, 8191, 16383, 32767] [3, 13] rfl hA hS (by kernel_rfl) (by kernel_rfl) (by kernel_rfl) (by kernel_rfl) fun w hS => ?_
      refine ⟨[(0, .slice B250 m251 d252), (1, str (bts y248)), (2, .slice A0 n0 c0)], ?_⟩
      refine dEff [0, 1, 2] [3] (by kernel_rfl) ⟨pu rfl rfl [(4, .slice B250 m251 d252)] (fun ac hA => y_move hA rfl rfl) rfl rfl, pu rfl rfl [(34, .slice B250 m251 d252)] (fun ac hA => y_b2s Try.underlying22 Try.underlying5 Try.underlying9 (hS.imm 1 h256 rfl) hA rfl rfl) rfl rfl, pu rfl rfl [(0, .slice A0 n0 c0)] (fun ac hA => y_move hA rfl rfl) rfl rfl, trivial⟩ (by kernel_rfl) (by kernel_rfl) ⟨ef rfl [(36, .slice A0 n0 c0)] (fun ac hA K hK => ?_) rfl rfl, trivial⟩
      obtain ⟨y265, h266, hF⟩ := bnd hF
      refine z_call en38 hA (F_r03_Texts (L := own kS 9 B261 m262 d263 y259.1 :: zone Z254 wz255 :: L) a0 A0 n0 c0 h266 (h258.rdl 1 rfl) hS) (fun v w hR => ?_) rfl rfl
      obtain ⟨B267, m268, d269, rfl, hS⟩ := hR
      refine bcase (b := (bts y248) == (bts y265)) (fun hb270 => ?_) fun hb270 => ?_
      · replace hF := ift hb270 hF
        refine bcase (b := y259.2 == 0) (fun hb271 => ?_) fun hb271 => ?_
        · replace hF := ift hb271 hF
          refine hK _ [(4, str (bts y265)), (5, .bool ((bts y248) == (bts y265))), (6, .bool ((bts y248) == (bts y265))), (7, .int .i64 y259.2), (8, .bool (y259.2 == 0)), (9, .bool (y259.2 == 0)), (10, .bool (y259.2 == 0)), (11, .slice B261 m262 d263), (12, .slice A0 n0 c0)] _ rfl ?_
          refine dEff [0, 1, 4, 5, 6, 7, 8, 9, 10, 11, 12] [13] (by kernel_rfl) ⟨pu rfl rfl [(4, .slice B250 m251 d252)] (fun ac hA => y_move hA rfl rfl) rfl rfl, pu rfl rfl [(34, .slice B250 m251 d252)] (fun ac hA => y_b2s Try.underlying22 Try.underlying5 Try.underlying9 (hS.imm 2 h256 rfl) hA rfl rfl) rfl rfl, pu rfl rfl [(37, .slice B267 m268 d269)] (fun ac hA => y_b2s Try.underlying22 Try.underlying5 Try.underlying9 (hS.rd 0 rfl) hA rfl rfl) rfl rfl, pu rfl rfl [(35, str (bts y248)), (38, str (bts y265))] (fun ac hA => r_eqS rfl (hA.ev rfl) (hA.ev rfl)) rfl rfl, pu rfl rfl [(39, .bool ((bts y248) == (bts y265)))] (fun ac hA => y_move hA rfl rfl) rfl rfl, puOn rfl rfl rfl rfl [(6, .int .i64 y259.2), (40, .bool ((bts y248) == (bts y265)))] rfl hb270 (fun ac hA => y_move hA rfl rfl) rfl, puOn rfl rfl rfl rfl [(40, .bool ((bts y248) == (bts y265))), (41, .int .i64 y259.2)] rfl hb270 (fun ac hA => r_eqI rfl (hA.ev rfl) (hA.ev rfl)) rfl, pu rfl rfl [(40, .bool ((bts y248) == (bts y265))), (42, .bool (y259.2 == 0))] (fun ac hA => y_pickt hb270 hA rfl rfl rfl) rfl rfl, pu rfl rfl [(43, .bool (y259.2 == 0))] (fun ac hA => y_move hA rfl rfl) rfl rfl, puOn rfl rfl rfl rfl [(5, .slice B261 m262 d263), (44, .bool (y259.2 == 0))] rfl hb271 (fun ac hA => y_move hA rfl rfl) rfl, puOn rfl rfl rfl rfl [(0, .slice A0 n0 c0), (44, .bool (y259.2 == 0))] rfl hb271 (fun ac hA => y_move hA rfl rfl) rfl, trivial⟩ (by kernel_rfl) (by kernel_rfl) ⟨efOn rfl rfl rfl [(44, .bool (y259.2 == 0)), (45, .slice B261 m262 d263), (46, .slice A0 n0 c0)] rfl hb271 (fun ac hA K hK => ?_) rfl, trivial⟩
          obtain ⟨y272, h273, hF⟩ := bnd hF
          refine z_call en36 hA (F_law03_texts (L := own (kI .u8) 5 B267 m268 d269 y265 :: own kS 9 B261 m262 d263 y259.1 :: zone Z254 wz255 :: L) y259.1 a0 B261 m262 d263 A0 n0 c0 h273 (RdL.own 1 rfl (hS.dropN 0)) (h258.rdl 2 rfl) hS) (fun v w hR => ?_) rfl rfl
          obtain ⟨rfl, hS⟩ := hR
          refine hK _ [(14, .bool y272), (15, .bool y272)] _ rfl ?_
          refine dEnd [14, 15] (by kernel_rfl) ⟨pu rfl rfl [(44, .bool (y259.2 == 0)), (47, .bool y272)] (fun ac hA => y_pickt hb271 hA rfl rfl rfl) rfl rfl, pu rfl rfl [(48, .bool y272)] (fun ac hA => y_assign hA rfl rfl) rfl rfl, trivial⟩ ⟨by kernel_rfl, by kernel_rfl⟩ [(2, .bool y272)] rfl (fun ac hA => ?_)
          refine hK264 _ _ ?_
          refine wp_ret ?_
          replace hS := hS.drop 0
          replace hS := hS.drop 0
          cases hF
          refine hQ _ _ ?_
          refine lv Try.results9 hA rfl ?_
          exact ⟨Z254, wz255, rfl, sb257, hS⟩
        replace hF := iff' hb271 hF
        refine hK _ [(4, str (bts y265)), (5, .bool ((bts y248) == (bts y265))), (6, .bool ((bts y248) == (bts y265))), (7, .int .i64 y259.2), (8, .bool (y259.2 == 0)), (9, .bool (y259.2 == 0)), (10, .bool (y259.2 == 0)), (11, undef), (12, undef)] _ rfl ?_
        refine dEff [0, 1, 4, 5, 6, 7, 8, 9, 10, 11, 12] [13] (by kernel_rfl) ⟨pu rfl rfl [(4, .slice B250 m251 d252)] (fun ac hA => y_move hA rfl rfl) rfl rfl, pu rfl rfl [(34, .slice B250 m251 d252)] (fun ac hA => y_b2s Try.underlying22 Try.underlying5 Try.underlying9 (hS.imm 2 h256 rfl) hA rfl rfl) rfl rfl, pu rfl rfl [(37, .slice B267 m268 d269)] (fun ac hA => y_b2s Try.underlying22 Try.underlying5 Try.underlying9 (hS.rd 0 rfl) hA rfl rfl) rfl rfl, pu rfl rfl [(35, str (bts y248)), (38, str (bts y265))] (fun ac hA => r_eqS rfl (hA.ev rfl) (hA.ev rfl)) rfl rfl, pu rfl rfl [(39, .bool ((bts y248) == (bts y265)))] (fun ac hA => y_move hA rfl rfl) rfl rfl, puOn rfl rfl rfl rfl [(6, .int .i64 y259.2), (40, .bool ((bts y248) == (bts y265)))] rfl hb270 (fun ac hA => y_move hA rfl rfl) rfl, puOn rfl rfl rfl rfl [(40, .bool ((bts y248) == (bts y265))), (41, .int .i64 y259.2)] rfl hb270 (fun ac hA => r_eqI rfl (hA.ev rfl) (hA.ev rfl)) rfl, pu rfl rfl [(40, .bool ((bts y248) == (bts y265))), (42, .bool (y259.2 == 0))] (fun ac hA => y_pickt hb270 hA rfl rfl rfl) rfl rfl, pu rfl rfl [(43, .bool (y259.2 == 0))] (fun ac hA => y_move hA rfl rfl) rfl rfl, puOff rfl rfl rfl rfl [(5, .slice B261 m262 d263), (44, .bool (y259.2 == 0))] rfl hb271 rfl, puOff rfl rfl rfl rfl [(0, .slice A0 n0 c0), (44, .bool (y259.2 == 0))] rfl hb271 rfl, trivial⟩ (by kernel_rfl) (by kernel_rfl) ⟨?_, trivial⟩
        refine efOff rfl rfl rfl [(44, .bool (y259.2 == 0)), (45, undef), (46, undef)] rfl [(14, .bool false), (15, .bool false)] hb271 rfl ?_ rfl
        refine dEnd [14, 15] (by kernel_rfl) ⟨pu rfl rfl [(44, .bool (y259.2 == 0)), (47, undef)] (fun ac hA => y_pickf hb271 hA rfl rfl rfl) rfl rfl, pu rfl rfl [(48, .bool false)] (fun ac hA => y_assign hA rfl rfl) rfl rfl, trivial⟩ ⟨by kernel_rfl, by kernel_rfl⟩ [(2, .bool false)] rfl (fun ac hA => ?_)
        refine hK264 _ _ ?_
        refine wp_ret ?_
        replace hS := hS.drop 0
        replace hS := hS.drop 0
        cases hF
        refine hQ _ _ ?_
        refine lv Try.results9 hA rfl ?_
        exact ⟨Z254, wz255, rfl, sb257, hS⟩
      replace hF := iff' hb270 hF
      refine hK _ [(4, str (bts y265)), (5, .bool ((bts y248) == (bts y265))), (6, .bool ((bts y248) == (bts y265))), (7, undef), (8, undef), (9, .bool false), (10, .bool false), (11, undef), (12, undef)] _ rfl ?_
      refine dEff [0, 1, 4, 5, 6, 7, 8, 9, 10, 11, 12] [13] (by kernel_rfl) ⟨pu rfl rfl [(4, .slice B250 m251 d252)] (fun ac hA => y_move hA rfl rfl) rfl rfl, pu rfl rfl [(34, .slice B250 m251 d252)] (fun ac hA => y_b2s Try.underlying22 Try.underlying5 Try.underlying9 (hS.imm 2 h256 rfl) hA rfl rfl) rfl rfl, pu rfl rfl [(37, .slice B267 m268 d269)] (fun ac hA => y_b2s Try.underlying22 Try.underlying5 Try.underlying9 (hS.rd 0 rfl) hA rfl rfl) rfl rfl, pu rfl rfl [(35, str (bts y248)), (38, str (bts y265))] (fun ac hA => r_eqS rfl (hA.ev rfl) (hA.ev rfl)) rfl rfl, pu rfl rfl [(39, .bool ((bts y248) == (bts y265)))] (fun ac hA => y_move hA rfl rfl) rfl rfl, puOff rfl rfl rfl rfl [(6, .int .i64 y259.2), (40, .bool ((bts y248) == (bts y265)))] rfl hb270 rfl, puOff rfl rfl rfl rfl [(40, .bool ((bts y248) == (bts y265))), (41, undef)] rfl hb270 rfl, pu rfl rfl [(40, .bool ((bts y248) == (bts y265))), (42, undef)] (fun ac hA => y_pickf hb270 hA rfl rfl rfl) rfl rfl, pu rfl rfl [(43, .bool false)] (fun ac hA => y_move hA rfl rfl) rfl rfl, puOff rfl rfl rfl rfl [(5, .slice B261 m262 d263), (44, .bool false)] rfl rfl rfl, puOff rfl rfl rfl rfl [(0, .slice A0 n0 c0), (44, .bool false)] rfl rfl rfl, trivial⟩ (by kernel_rfl) (by kernel_rfl) ⟨?_, trivial⟩
      refine efOff rfl rfl rfl [(44, .bool false), (45, undef), (46, undef)] rfl [(14, .bool false), (15, .bool false)] rfl rfl ?_ rfl
      refine dEnd [14, 15] (by kernel_rfl) ⟨pu rfl rfl [(44, .bool false), (47, undef)] (fun ac hA => y_pickf rfl hA rfl rfl rfl) rfl rfl, pu rfl rfl [(48, .bool false)] (fun ac hA => y_assign hA rfl rfl) rfl rfl, trivial⟩ ⟨by kernel_rfl, by kernel_rfl⟩ [(2, .bool false)] rfl (fun ac hA => ?_)
      refine hK264 _ _ ?_
      refine wp_ret ?_
      replace hS := hS.drop 0
      replace hS := hS.drop 0
      cases hF
      refine hQ _ _ ?_
      refine lv Try.results9 hA rfl ?_
      exact ⟨Z254, wz255, rfl, sb257, hS⟩
    obtain ⟨t302, hl302, hF⟩ := bnd hF
    have hR302 := hF
    have hx302_0 : (.inl ()) = t302 → ∀ (ac : Act) (w : World), FR 49 [] ac [(0, .slice A0 n0 c0)] → SH r (zone Z wz :: L) w → Kx203 ac w := by
      intro ht ac w hA hS
      subst ht
      replace hF : law03_ColumnTexts_x1_0 a0 = some y := hF
      unfold law03_ColumnTexts_x1_0 at hF
      exact hb1 hF ac w (hA.sub _ rfl) hS
    refine wp_loop_fn hl302 (fun s ac w => FR 49 [] ac [(0, .slice A0 n0 c0), (3, .int .i64 s)] ∧ SH r (zone Z wz :: L) w) ⟨hA.sub _ rfl, hS⟩ ?_
    intro N302 s302 o302 hF N302_ T302_ ac w hLab
    obtain ⟨x288, rfl⟩ : ∃ q, q = s302 := ⟨_, rfl⟩
    replace hF : law03_ColumnTexts_l1 a0 x288 = some o302 := hF
    unfold law03_ColumnTexts_l1 at hF
    try dsimp only at hLab
    obtain ⟨hA, hS⟩ := hLab
    refine wp_seq_k fun K304 hK304 => ?_
    refine wp_seq_k fun K305 hK305 => ?_
    refine wp_reg ?_
    refine x_move hA (fun ac hA => ?_) rfl rfl rfl rfl rfl
    refine x_move hA (fun ac hA => ?_) rfl rfl rfl rfl rfl
    refine x_len Try.underlying57 (hS.imm 0 ha0 rfl).2.1 hA (fun ac hA => ?_) rfl rfl rfl rfl rfl
    refine x_val hA (r_ltI rfl (hA.ev rfl) (hA.ev rfl)) (fun ac hA => ?_) rfl rfl rfl
    refine wpList_nil ?_
    refine hK305 _ _ ?_
    refine c_if hA rfl (fun hb306 => ?_) fun hb306 => ?_
    · replace hF := ift hb306 hF
      refine wp_skip ?_
      refine hK304 _ _ ?_
      refine wp_seq_k fun K307 hK307 => ?_
      refine wp_block_k fun Kx308 hKx308 => ?_
      refine wp_seq_k fun K309 hK309 => ?_
      refine wp_reg ?_
      refine x_move hA (fun ac hA => ?_) rfl rfl rfl rfl rfl
      refine x_move hA (fun ac hA => ?_) rfl rfl rfl rfl rfl
      obtain ⟨x310, h311, hF⟩ := bnd hF
      refine x_ia Try.underlying57 sz9 (hS.imm 0 ha0 rfl) h311 hA (fun ac hA => ?_) rfl rfl rfl rfl rfl rfl
      obtain ⟨cs, hV, hc312⟩ := el (hS.imm 0 ha0 rfl) h311
      obtain rfl := hV
      refine x_ld Try.underlying9 (hc312 0 _ rfl) hA (fun ac hA => ?_) rfl rfl rfl rfl rfl rfl
      refine x_val hA (r_lenS Try.underlying9 rfl (hA.ev rfl)) (fun ac hA => ?_) rfl rfl rfl
      refine x_val hA (r_gtI rfl (hA.ev rfl) (hA.ev rfl)) (fun ac hA => ?_) rfl rfl rfl
      refine wpList_nil ?_
      refine hK309 _ _ ?_
      refine c_if hA rfl (fun hb313 => ?_) fun hb313 => ?_
      · replace hF := ift hb313 hF
        refine wp_seq_k fun K314 hK314 => ?_
        refine wp_reg ?_
        refine x_assign hA (fun ac hA => ?_) rfl rfl rfl rfl rfl
        refine wpList_nil ?_
        refine hK314 _ _ ?_
        refine wp_ret ?_
        cases hF
        have ht := T302_ _ rfl
        subst ht
        replace hF := hR302
        replace hF : some true = some y := hF
        cases hF
        refine hQ _ _ ?_
        refine lv Try.results9 hA rfl ?_
        exact ⟨Z, wz, rfl, (Sub.refl _ _), hS⟩
      replace hF := iff' hb313 hF
      refine wp_skip ?_
      refine hKx308 _ _ ?_
      refine hK307 _ _ ?_
      refine wp_reg ?_
      refine x_move hA (fun ac hA => ?_) rfl rfl rfl rfl rfl
      obtain ⟨x315, h316, hF⟩ := ltt_ hF
      refine x_val (v := .int .i64 x315) hA (rv_i h316 (r_add rfl (hA.ev rfl) (hA.ev rfl))) (fun ac hA => ?_) rfl rfl rfl
      refine x_assign hA (fun ac hA => ?_) rfl rfl rfl rfl rfl
      refine wpList_nil ?_
      cases hF
      exact ⟨_, N302_ _ rfl, hA.sub _ rfl, hS⟩
    replace hF := iff' hb306 hF
    refine wp_exit ?_
    cases hF
    exact hx302_0 (T302_ _ rfl) ac w (hA.sub _ rfl) hS
  refine wp_reg ?_
  obtain ⟨y317, h318, hF⟩ := bnd hF
  refine x_call en10 hA (F_law03_awake (L := zone Z wz :: L) h318 hS) (fun v ac w hR hA => ?_) rfl rfl rfl rfl rfl
  obtain ⟨rfl, hS⟩ := hR
  refine x_val hA (r_not rfl (hA.ev rfl)) (fun ac hA => ?_) rfl rfl rfl
  refine x_move hA (fun ac hA => ?_) rfl rfl rfl rfl rfl
  refine bcase (b := !y317) (fun hb319 => ?_) fun hb319 => ?_
  · replace hF := ift hb319 hF
    refine x_off hb319 hA (fun ac hA => ?_) rfl rfl rfl rfl rfl
    refine x_off hb319 hA (fun ac hA => ?_) rfl rfl rfl rfl rfl
    refine x_off hb319 hA (fun ac hA => ?_) rfl rfl rfl rfl rfl
    refine x_pickt hb319 hA (fun ac hA => ?_) rfl rfl rfl rfl rfl rfl
    refine wpList_nil ?_
    exact hj1 true hF ac w (hA.sub _ rfl) hS
  replace hF := iff' hb319 hF
  refine x_on hb319 hA ?_ rfl rfl rfl
  refine x_move hA (fun ac hA => ?_) rfl rfl rfl rfl rfl
  refine x_on hb319 hA ?_ rfl rfl rfl
  refine x_len Try.underlying57 (hS.imm 0 ha0 rfl).2.1 hA (fun ac hA => ?_) rfl rfl rfl rfl rfl
  refine x_on hb319 hA ?_ rfl rfl rfl
  refine x_val hA (r_gtI rfl (hA.ev rfl) (hA.ev rfl)) (fun ac hA => ?_) rfl rfl rfl
  refine x_pickf hb319 hA (fun ac hA => ?_) rfl rfl rfl rfl rfl rfl
  refine wpList_nil ?_
  exact hj1 (decide (100 < (a0.length : Int))) hF ac w (hA.sub _ rfl) hS
end Go.Proofs.Ythokgnonmcgkcaa.M
namespace Go.Proofs.Ythokgnonmcgkcaa.columnTexts
open Go Go.RowKit Go.ChangeShapes Go.WideShapes Go.ChangeAt Go.Proofs.Ythokgnonmcgkcaa.E Go.Proofs.Ythokgnonmcgkcaa.M
set_option linter.unusedVariables false
theorem own : ownKnob Try.prog.godebug = none := by kernel_rfl
theorem laidOut : laidOutB Try.prog = true := by kernel_rfl
def Pure : Prop := ∀ (a0 : (List (List UInt8))), (gL 16 gS) a0 → M.law03_ColumnTexts a0 = some true
set_option maxRecDepth 100000 in
theorem lifted (hP : Pure) (os : Os) (started : os.Started) (H : Type) (enc : TypeId × Value → H) :
    ReturnsInHanded {} Try.checked os 9 .any (Rows.columnTextsSpec.pre6 enc Try.prog Try.f9 Rows.columnTextsRow.domain false) (Rows.columnTextsSpec.post enc Try.prog Try.f9 false true false false) := by
  refine returnsInHanded_of_change_sized (C := Try.checked) own started (by kernel_rfl) Try.func9
    (ChangeSpec.witness6 (enc := enc) (C := Try.checked) false ⟨#[], #[.slice none 0 0], []⟩ 8 (by kernel_rfl) (by kernel_rfl) (by kernel_rfl) (by kernel_rfl)) ?_
  intro W base args ds gs before hval0 hW hcnd hsz0 _
  have hsz : (DataW.weightsEach Try.prog (Try.f9.params.toList ++ Rows.columnTextsSpec.plain.varTypes Try.prog) (ds ++ gs)).all (· ≤ reachBytes) = true := hsz0
  have hval : ∀ (j : Nat) t v, Try.f9.params[j]? = some t → args[j]? = some v → Value.okWide Try.prog W .any base t v := hval0
  have hW' := hW
  obtain ⟨p, q, hA0, hV, rfl, hfz, hnd⟩ := hW
  have hA : DataW.TrodAll enc Try.prog W 0 (fun _ => true) true Try.f9.params.toList args.toList ds p := hA0
  rw [Try.params9] at hA hval hsz
  obtain ⟨v0, vs0, d0, ds0, p0, q0, hargs, rfl, rfl, h0, r0⟩ := trodAll_cons hA
  obtain ⟨rfl, rfl, rfl⟩ := trodAll_nil r0
  obtain rfl : args = #[v0] := by cases args; simp_all
  obtain ⟨rfl, rfl⟩ := trodVars_none hV
  have k0 := h0
  have lt0 : ∀ x ∈ p0, x.block < W.heap.size := by obtain ⟨m, hm⟩ := k0; exact DataW.trod_lt m _ _ _ hm
  obtain ⟨x0, hx0, g0⟩ := Opens.arg (opSl Try.underlying57 ce9 (Nat.succ_pos _) by9 (opS Try.underlying9)) h0 (Wt.of hsz (j := 0) rfl rfl)
  obtain ⟨A0, n0, c0, rfl⟩ := okWide_slice Try.underlying57 (hval 0 57 v0 rfl rfl)
  obtain ⟨A0', n0', c0', he0, i0⟩ := hx0
  cases (show [Value.slice A0 n0 c0] = [Value.slice A0' n0' c0'] from he0)
  clear hA0 hval0 hsz0 hsz
  refine Calls.mono (M.F_law03_ColumnTexts (Z := HeapZ W) (wz := W) x0 A0 n0 c0 (hP x0 g0) i0 (L := []) (SH.start W)) ?_
  rintro e W' ⟨v, rfl, Z', wz', rfl, hs, hS⟩
  have bel := SH.below hS hs
  exact ⟨_, rfl, _, _, _, [], _, [], hW', trodAll_mk1 (shut_bool Try.underlying4 _), (trodAll_cons_mk (Below.trod laidOut (by kernel_rfl) (of_decide_eq_true (by kernel_rfl)) k0 bel lt0) trodAll_mk0), rfl, bel.frame _, fun h => by cases h⟩
theorem over (hP : Pure) : Rows.columnTextsRow.holds Try.pinned (OpenSpec.ofChange Rows.columnTextsSpec) :=
  OpenClaim.holds_of_wide 9 Try.f9 rfl rfl rfl rfl rfl rfl rfl ⟨rfl, rfl, rfl, rfl, rfl⟩ rfl rfl rfl rfl rfl (by kernel_rfl) Try.func9 (by kernel_rfl)
    (of_decide_eq_true (by kernel_rfl)) (by unfold Func.isWrapper; first | (rw [if_pos (by decide +kernel)]; kernel_rfl) | (rw [if_neg (by decide +kernel)]; exact ⟨rfl, rfl⟩))
    (fun os started H enc _ => lifted hP os started H enc)
theorem said (hP : Pure) : Rows.ColumnTextsSaid := over hP
end Go.Proofs.Ythokgnonmcgkcaa.columnTexts
namespace Go.Proofs.Ythokgnonmcgkcaa.P
open Go Go.RowKit Go.Proofs.Ythokgnonmcgkcaa.E Go.Proofs.Ythokgnonmcgkcaa.M
set_option linter.unusedVariables false
set_option linter.unusedSectionVars false
theorem at_nat {α : Type} (xs : List α) (n : Nat) : at_ xs (n : Int) = xs[n]? := by simp [at_]
theorem at_int {α : Type} {xs : List α} {i : Int} {n : Nat} {x : α} (hi : i = n) (h : xs[n]? = some x) : at_ xs i = some x := by subst hi; rw [at_nat, h]
theorem cut_nat {α : Type} {xs : List α} {l u : Nat} (h : l ≤ u) (hu : u ≤ xs.length) : cut_ xs (l : Int) (u : Int) = some ((xs.take u).drop l) := by
  unfold cut_; rw [if_pos (by omega)]; simp
theorem chk_pos {α : Type} {p : Prop} [Decidable p] {x : Option α} (h : p) : chk p x = x := if_pos h
theorem w64 {n : Int} (h : -9223372036854775808 ≤ n) (h' : n ≤ 9223372036854775807) : IntKind.i64.wrap n = n := IntWalk.i64_in n ⟨h, h'⟩
theorem u64w {n : Int} (h : 0 ≤ n) (h' : n < 18446744073709551616) : IntKind.u64.wrap n = n := IntWalk.u64_in n ⟨h, by omega⟩
theorem u8w {n : Int} (h : 0 ≤ n) (h' : n < 256) : IntKind.u8.wrap n = n := IntWalk.u8_in n ⟨h, by omega⟩
theorem lt_ {α β : Type} (e : α) (f : α → Option β) : ltt e f = f e := rfl
theorem loop_at {σ τ : Type} {b : σ → Option (σ ⊕ τ)} (f : Nat → σ) {t : τ} : ∀ (n : Nat) (i : Nat), (∀ k, i ≤ k → k < i + n → b (f k) = some (.inl (f (k + 1)))) → b (f (i + n)) = some (.inr t) → loop b (f i) = some t
  | 0, i, _, he => loop_end he
  | n + 1, i, hs, he => (loop_nxt (hs i (Nat.le_refl _) (by omega))).trans (loop_at f n (i + 1) (fun k h1 h2 => hs k (by omega) (by omega)) (by rw [show i + 1 + n = i + (n + 1) by omega]; exact he))
theorem loop_to {σ τ : Type} {b : σ → Option (σ ⊕ τ)} (f : Nat → σ) {t : τ} (n : Nat) (hs : ∀ k, k < n → b (f k) = some (.inl (f (k + 1)))) (he : b (f n) = some (.inr t)) : loop b (f 0) = some t :=
  loop_at f n 0 (fun k _ h => hs k (by omega)) (by simpa using he)
theorem ofInt_nat (n a : Nat) : BitVec.ofInt n (a : Int) = BitVec.ofNat n a := BitVec.ofInt_natCast n a
theorem u64_nat (a : Nat) : IntKind.u64.wrap (a : Int) = ((a % 18446744073709551616 : Nat) : Int) := by
  rw [IntKind.wrap_u64]; omega
theorem u8_nat (a : Nat) : IntKind.u8.wrap (a : Int) = ((a % 256 : Nat) : Int) := by rw [IntKind.wrap_u8]; omega
theorem iand_u64 {a b : Nat} (ha : a < 18446744073709551616) (hb : b < 18446744073709551616) : iand .u64 (a : Int) (b : Int) = ((a &&& b : Nat) : Int) := by
  unfold iand
  rw [ofInt_nat, ofInt_nat, u64_nat]
  have h : a &&& b < 18446744073709551616 := Nat.lt_of_le_of_lt Nat.and_le_left ha
  simp only [BitVec.toNat_and, BitVec.toNat_ofNat, show IntKind.u64.bits = 64 from rfl]
  rw [Nat.mod_eq_of_lt (show a < 2 ^ 64 by omega), Nat.mod_eq_of_lt (show b < 2 ^ 64 by omega), Nat.mod_eq_of_lt h]
theorem iand_u8 {a b : Nat} (ha : a < 256) (hb : b < 256) : iand .u8 (a : Int) (b : Int) = ((a &&& b : Nat) : Int) := by
  unfold iand
  rw [ofInt_nat, ofInt_nat, u8_nat]
  have h : a &&& b < 256 := Nat.lt_of_le_of_lt Nat.and_le_left ha
  simp only [BitVec.toNat_and, BitVec.toNat_ofNat, show IntKind.u8.bits = 8 from rfl]
  rw [Nat.mod_eq_of_lt (show a < 2 ^ 8 by omega), Nat.mod_eq_of_lt (show b < 2 ^ 8 by omega), Nat.mod_eq_of_lt h]
theorem ior_u64 {a b : Nat} (ha : a < 18446744073709551616) (hb : b < 18446744073709551616) : ior .u64 (a : Int) (b : Int) = ((a ||| b : Nat) : Int) := by
  unfold ior
  rw [ofInt_nat, ofInt_nat, u64_nat]
  have h : a ||| b < 2 ^ 64 := Nat.or_lt_two_pow (show a < 2 ^ 64 by omega) (show b < 2 ^ 64 by omega)
  simp only [BitVec.toNat_or, BitVec.toNat_ofNat, show IntKind.u64.bits = 64 from rfl]
  rw [Nat.mod_eq_of_lt (show a < 2 ^ 64 by omega), Nat.mod_eq_of_lt (show b < 2 ^ 64 by omega), Nat.mod_eq_of_lt (show a ||| b < 18446744073709551616 from h)]
theorem ior_u8 {a b : Nat} (ha : a < 256) (hb : b < 256) : ior .u8 (a : Int) (b : Int) = ((a ||| b : Nat) : Int) := by
  unfold ior
  rw [ofInt_nat, ofInt_nat, u8_nat]
  have h : a ||| b < 2 ^ 8 := Nat.or_lt_two_pow (show a < 2 ^ 8 by omega) (show b < 2 ^ 8 by omega)
  simp only [BitVec.toNat_or, BitVec.toNat_ofNat, show IntKind.u8.bits = 8 from rfl]
  rw [Nat.mod_eq_of_lt (show a < 2 ^ 8 by omega), Nat.mod_eq_of_lt (show b < 2 ^ 8 by omega), Nat.mod_eq_of_lt (show a ||| b < 256 from h)]
theorem ixor_u64 {a b : Nat} (ha : a < 18446744073709551616) (hb : b < 18446744073709551616) : ixor .u64 (a : Int) (b : Int) = ((a ^^^ b : Nat) : Int) := by
  unfold ixor
  rw [ofInt_nat, ofInt_nat, u64_nat]
  have h : a ^^^ b < 2 ^ 64 := Nat.xor_lt_two_pow (show a < 2 ^ 64 by omega) (show b < 2 ^ 64 by omega)
  simp only [BitVec.toNat_xor, BitVec.toNat_ofNat, show IntKind.u64.bits = 64 from rfl]
  rw [Nat.mod_eq_of_lt (show a < 2 ^ 64 by omega), Nat.mod_eq_of_lt (show b < 2 ^ 64 by omega), Nat.mod_eq_of_lt (show a ^^^ b < 18446744073709551616 from h)]
theorem two_pow (n : Nat) : (2 : Int) ^ n = ((2 ^ n : Nat) : Int) := (Int.natCast_pow 2 n).symm
theorem ishr_nat {k : IntKind} (a n : Nat) (h : n ≤ k.bits) : ishr k (a : Int) (n : Int) = ((a / 2 ^ n : Nat) : Int) := by
  unfold ishr
  rw [Int.toNat_natCast, Nat.min_eq_left h, two_pow, Int.fdiv_eq_ediv_of_nonneg _ (Int.natCast_nonneg _)]
  rfl
theorem ishl_u64 (a n : Nat) (h : n ≤ 64) : ishl .u64 (a : Int) (n : Int) = ((a * 2 ^ n % 18446744073709551616 : Nat) : Int) := by
  unfold ishl
  rw [Int.toNat_natCast, show min n IntKind.u64.bits = n from Nat.min_eq_left h, two_pow, ← Int.natCast_mul, u64_nat]
theorem ishl_u8 (a n : Nat) (h : n ≤ 8) : ishl .u8 (a : Int) (n : Int) = ((a * 2 ^ n % 256 : Nat) : Int) := by
  unfold ishl
  rw [Int.toNat_natCast, show min n IntKind.u8.bits = n from Nat.min_eq_left h, two_pow, ← Int.natCast_mul, u8_nat]
theorem or_top {a n : Nat} (h : a < 2 ^ n) (b : Nat) : a ||| (b * 2 ^ n) = a + b * 2 ^ n := by
  rw [Nat.or_comm, Nat.mul_comm, ← Nat.two_pow_add_eq_or_of_lt h, Nat.add_comm]
end Go.Proofs.Ythokgnonmcgkcaa.P
namespace Go.Proofs.Ythokgnonmcgkcaa.P
open Go Go.RowKit Go.Proofs.Ythokgnonmcgkcaa.E Go.Proofs.Ythokgnonmcgkcaa.M
set_option linter.unusedVariables false
set_option linter.unusedSectionVars false
def uv (n : Nat) : List Int := if h : n < 128 then [(n : Int)] else ((n % 128 + 128 : Nat) : Int) :: uv (n / 128)
termination_by n
decreasing_by omega
theorem uv_small {n : Nat} (h : n < 128) : uv n = [(n : Int)] := by rw [uv, dif_pos h]
theorem uv_large {n : Nat} (h : ¬ n < 128) : uv n = ((n % 128 + 128 : Nat) : Int) :: uv (n / 128) := by rw [uv, dif_neg h]
theorem uv_length : ∀ (k n : Nat), n < 128 ^ (k + 1) → (uv n).length ≤ k + 1
  | 0, n, h => by rw [uv_small (by simpa using h)]; simp
  | k + 1, n, h => by
    by_cases hn : n < 128
    · rw [uv_small hn]; simp
    · rw [uv_large hn, List.length_cons]
      have := uv_length k (n / 128) (by rw [Nat.pow_succ] at h; exact Nat.div_lt_of_lt_mul (by rw [Nat.mul_comm]; exact h))
      omega
theorem uv_length64 {n : Nat} (h : n < 18446744073709551616) : (uv n).length ≤ 10 := uv_length 9 n (by omega)
set_option maxRecDepth 100000 in
theorem or_128 : ∀ m : Fin 256, (m.val ||| 128) = m.val % 128 + 128 := by decide
theorem Uint_app (n : Nat) : ∀ (a0 : List Int), n < 18446744073709551616 → a0.length + (uv n).length ≤ 140737488355328 → column_Uint a0 (n : Int) = some (a0 ++ uv n) := by
  induction n using Nat.strongRecOn with
  | _ n ih =>
    intro a0 h hl
    unfold column_Uint
    by_cases hn : n < 128
    · rw [loop_end (t := (a0, (n : Int))) (by
        show column_Uint_l1 a0 (n : Int) = _
        unfold column_Uint_l1
        rw [if_neg (by simp only [decide_eq_true_eq]; omega)])]
      simp only [Option.bind_some]
      unfold column_Uint_x1_0 column_Uint_b1
      rw [uv_small hn] at hl ⊢
      rw [lt_, u8w (by omega) (by omega), chk_pos (by simpa using hl)]
    · have hl' := hl
      rw [uv_large hn, List.length_cons] at hl'
      have e1 : IntKind.u8.wrap (n : Int) = ((n % 256 : Nat) : Int) := u8_nat n
      have e2 : ior .u8 ((n % 256 : Nat) : Int) 128 = ((n % 128 + 128 : Nat) : Int) := by
        have := ior_u8 (a := n % 256) (b := 128) (by omega) (by omega)
        rw [show ((128 : Nat) : Int) = 128 from rfl] at this
        rw [this, or_128 ⟨n % 256, by omega⟩]
        simp only
        omega
      have e3 : ishr .u64 (n : Int) 7 = ((n / 128 : Nat) : Int) := ishr_nat (k := .u64) n 7 (by decide)
      rw [loop_nxt (s' := (a0 ++ [((n % 128 + 128 : Nat) : Int)], ((n / 128 : Nat) : Int))) (by
        show column_Uint_l1 a0 (n : Int) = _
        unfold column_Uint_l1
        rw [if_pos (by simp only [decide_eq_true_eq]; omega), lt_, e1, lt_, e2, chk_pos (by simp; omega), lt_, e3])]
      have := ih (n / 128) (by omega) (a0 ++ [((n % 128 + 128 : Nat) : Int)]) (by omega) (by simp; omega)
      unfold column_Uint at this
      rw [this, uv_large hn]
      simp
theorem rUint_k : ∀ (k n : Nat), n < 128 ^ (k + 1) → n < 18446744073709551616 → r03_Uint_k (k + 1) (n : Int) = some (uv n)
  | k, n, h, h64 => by
    show r03_Uint_s (r03_Uint_k k) (n : Int) = _
    unfold r03_Uint_s
    by_cases hn : n < 128
    · rw [if_pos (by simp only [decide_eq_true_eq]; omega), lt_, u8w (by omega) (by omega), uv_small hn]
    · rw [if_neg (by simp only [decide_eq_true_eq]; omega)]
      match k, h with
      | 0, h => exact absurd (by simpa using h) hn
      | k + 1, h =>
        have e1 : IntKind.u64.wrap ((n : Int).tmod 128 + 128) = ((n % 128 + 128 : Nat) : Int) := by
          rw [show (n : Int).tmod 128 + 128 = ((n % 128 + 128 : Nat) : Int) from rfl, u64w (by omega) (by omega)]
        have e2 : IntKind.u64.wrap ((n : Int).tdiv 128) = ((n / 128 : Nat) : Int) := by
          rw [show (n : Int).tdiv 128 = ((n / 128 : Nat) : Int) from rfl, u64w (by omega) (by omega)]
        rw [lt_, e1, lt_, u8w (by omega) (by omega), lt_, e2, rUint_k k (n / 128) (by rw [Nat.pow_succ] at h; exact Nat.div_lt_of_lt_mul (by rw [Nat.mul_comm]; exact h)) (by omega)]
        simp only [Option.bind_some]
        have := uv_length64 (n := n / 128) (by omega)
        rw [chk_pos (by simp; omega), uv_large hn]
        rfl
theorem rUint_eq (n : Nat) (h : n < 18446744073709551616) : r03_Uint (n : Int) = some (uv n) := rUint_k 11 n (by omega) h
def zz (i : Int) : Nat := if i < 0 then (-(i + 1)).toNat * 2 + 1 else i.toNat * 2
def uz (n : Nat) : Int := if n % 2 = 1 then -((n / 2 : Nat) : Int) - 1 else ((n / 2 : Nat) : Int)
theorem uz_zz (i : Int) : uz (zz i) = i := by unfold uz zz; split <;> split <;> omega
def i64 (i : Int) : Prop := -9223372036854775808 ≤ i ∧ i ≤ 9223372036854775807
theorem zz_lt {i : Int} (h : i64 i) : zz i < 18446744073709551616 := by
  unfold i64 at h
  unfold zz; split <;> omega
theorem i64_wrap (x : Int) : i64 (IntKind.i64.wrap x) := by
  rw [IntWalk.i64_left]; unfold wrap64 i64; omega
theorem xor_ones {a : Nat} (h : a < 18446744073709551616) : ixor .u64 (a : Int) 18446744073709551615 = ((18446744073709551615 - a : Nat) : Int) := by
  show IntKind.u64.wrap (((BitVec.ofInt 64 (a : Int) ^^^ BitVec.allOnes 64).toNat : Nat) : Int) = _
  rw [ofInt_nat, BitVec.xor_allOnes, u64_nat, BitVec.toNat_not, BitVec.toNat_ofNat, Nat.mod_eq_of_lt (show a < 2 ^ 64 by omega)]
  omega
theorem zz_eq {i : Int} (h : i64 i) : ixor .u64 (IntKind.u64.wrap (ishl .i64 i 1)) (IntKind.u64.wrap (ishr .i64 i 63)) = (zz i : Int) := by
  unfold i64 at h
  have e1 : ishl .i64 i 1 = IntKind.i64.wrap (i * 2) := rfl
  have e2 : ishr .i64 i 63 = if i < 0 then -1 else 0 := by
    unfold ishr
    rw [show (63 : Int).toNat = 63 from rfl, show min 63 IntKind.i64.bits = 63 from rfl, Int.fdiv_eq_ediv_of_nonneg _ (by decide)]
    split <;> omega
  rw [e1, e2]
  have e3 : IntKind.u64.wrap (IntKind.i64.wrap (i * 2)) = (i * 2) % 18446744073709551616 := by
    rw [IntKind.wrap_u64, IntWalk.i64_left]; unfold wrap64; omega
  rw [e3]
  unfold zz
  by_cases hi : i < 0
  · rw [if_pos hi, if_pos hi, show IntKind.u64.wrap (-1) = 18446744073709551615 from rfl]
    obtain ⟨m, hm⟩ : ∃ m : Nat, (i * 2) % 18446744073709551616 = (m : Int) := ⟨((i * 2) % 18446744073709551616).toNat, by omega⟩
    rw [hm, xor_ones (by omega)]
    omega
  · rw [if_neg hi, if_neg hi, show IntKind.u64.wrap 0 = ((0 : Nat) : Int) from rfl]
    obtain ⟨m, hm⟩ : ∃ m : Nat, (i * 2) % 18446744073709551616 = (m : Int) := ⟨((i * 2) % 18446744073709551616).toNat, by omega⟩
    rw [hm, ixor_u64 (by omega) (by omega), Nat.xor_zero]
    omega
theorem Int_app {i : Int} (h : i64 i) (a0 : List Int) (hl : a0.length + 10 ≤ 140737488355328) : column_Int a0 i = some (a0 ++ uv (zz i)) := by
  unfold column_Int
  have := uv_length64 (zz_lt h)
  simp only [lt_, zz_eq h, Uint_app _ a0 (zz_lt h) (by omega), Option.bind_some]
theorem rInt_eq {i : Int} (h : i64 i) : r03_Int i = some (uv (zz i)) := by
  have h' := h
  unfold i64 at h'
  unfold r03_Int
  by_cases hi : i < 0
  · rw [if_pos (by simpa using hi)]
    simp only [lt_]
    rw [w64 (n := i + 1) (by omega) (by omega), w64 (n := 0 - (i + 1)) (by omega) (by omega), u64w (n := 0 - (i + 1)) (by omega) (by omega), u64w (n := (0 - (i + 1)) * 2) (by omega) (by omega), u64w (by omega) (by omega),
      show (0 - (i + 1)) * 2 + 1 = (zz i : Int) by unfold zz; rw [if_pos hi]; omega, rUint_eq _ (zz_lt h)]
    rfl
  · rw [if_neg (by simpa using hi)]
    simp only [lt_]
    rw [u64w (n := i) (by omega) (by omega), u64w (by omega) (by omega), show i * 2 = (zz i : Int) by unfold zz; rw [if_neg hi]; omega, rUint_eq _ (zz_lt h)]
    rfl
theorem Text_app (s : List UInt8) (a0 : List Int) (hs : s.length ≤ 9223372036854775807) (hl : a0.length + s.length + 10 ≤ 140737488355328) : column_Text a0 s = some (a0 ++ uv s.length ++ stb s) := by
  unfold column_Text
  have := uv_length64 (n := s.length) (by omega)
  rw [lt_, u64w (by omega) (by omega), Uint_app _ a0 (by omega) (by omega)]
  simp only [Option.bind_some]
  rw [chk_pos (by simp; omega)]
theorem rText_eq (s : List UInt8) (hl : s.length + 10 ≤ 140737488355328) : r03_Text s = some (uv s.length ++ stb s) := by
  unfold r03_Text
  have := uv_length64 (n := s.length) (by omega)
  have hst : (stb s).length = s.length := by simp [stb]
  rw [lt_, u64w (by omega) (by omega), rUint_eq _ (by omega)]
  simp only [Option.bind_some]
  rw [chk_pos (by simp only [maxLen]; omega), chk_pos (by omega)]
def Bs (xs : List Int) : Prop := ∀ b ∈ xs, 0 ≤ b ∧ b < 256
theorem Bs.nil : Bs [] := fun _ h => by cases h
theorem Bs.cons {b : Int} {xs : List Int} (h : Bs (b :: xs)) : (0 ≤ b ∧ b < 256) ∧ Bs xs := ⟨h b List.mem_cons_self, fun c hc => h c (List.mem_cons_of_mem _ hc)⟩
theorem Bs.mk {b : Int} {xs : List Int} (hb : 0 ≤ b ∧ b < 256) (h : Bs xs) : Bs (b :: xs) := fun c hc => by
  rcases List.mem_cons.1 hc with rfl | hc
  · exact hb
  · exact h c hc
theorem Bs.app {xs ys : List Int} (h : Bs xs) (h' : Bs ys) : Bs (xs ++ ys) := fun c hc => (List.mem_append.1 hc).elim (h c) (h' c)
theorem Bs.l {xs ys : List Int} (h : Bs (xs ++ ys)) : Bs xs := fun c hc => h c (List.mem_append.2 (.inl hc))
theorem Bs.r {xs ys : List Int} (h : Bs (xs ++ ys)) : Bs ys := fun c hc => h c (List.mem_append.2 (.inr hc))
theorem Bs.drop {xs : List Int} (h : Bs xs) (n : Nat) : Bs (xs.drop n) := fun c hc => h c (List.mem_of_mem_drop hc)
theorem Bs.take {xs : List Int} (h : Bs xs) (n : Nat) : Bs (xs.take n) := fun c hc => h c (List.mem_of_mem_take hc)
theorem Bs.uv (n : Nat) : Bs (uv n) := by
  induction n using Nat.strongRecOn with
  | _ n ih =>
    by_cases hn : n < 128
    · rw [uv_small hn]; exact Bs.mk (by omega) Bs.nil
    · rw [uv_large hn]; exact Bs.mk (by omega) (ih _ (by omega))
theorem Bs.stb (s : List UInt8) : Bs (stb s) := by
  intro c hc
  unfold E.stb at hc
  obtain ⟨b, _, rfl⟩ := List.mem_map.1 hc
  have := b.toNat_lt
  omega
end Go.Proofs.Ythokgnonmcgkcaa.P
namespace Go.Proofs.Ythokgnonmcgkcaa.P
open Go Go.RowKit Go.Proofs.Ythokgnonmcgkcaa.E Go.Proofs.Ythokgnonmcgkcaa.M
set_option linter.unusedVariables false
set_option linter.unusedSectionVars false
def pB : List Int → Option (Int × List Int)
  | [] => none
  | b :: r => some (b, r)
def pV (i n : Nat) : List Int → Option (Nat × List Int)
  | [] => none
  | b :: r => if i < 9 ∨ (i = 9 ∧ b < 2) then
      (if b < 128 then (if i = 0 ∨ 0 < b then some (n + b.toNat % 128 * 2 ^ (7 * i), r) else none) else pV (i + 1) (n + b.toNat % 128 * 2 ^ (7 * i)) r)
    else none
def pU (most : Int) (xs : List Int) : Option (Int × List Int) := match pV 0 0 xs with
  | some (n, r) => if (n : Int) ≤ most then some ((n : Int), r) else none
  | none => none
def pI (xs : List Int) : Option (Int × List Int) := match pU 18446744073709551615 xs with
  | some (n, r) => some (uz n.toNat, r)
  | none => none
def pT (most : Int) (xs : List Int) : Option (List UInt8 × List Int) := match pU (IntKind.u64.wrap most) xs with
  | some (n, r) => if n ≤ (r.length : Int) then some (bts (r.take n.toNat), r.drop n.toNat) else none
  | none => none
def IsR {ρ : Type} (o : Option ((ρ × S72) ⊕ S72)) (p : Option (ρ × List Int)) : Prop :=
  match p with
  | some (a, r) => o = some (.inl (a, ⟨r⟩))
  | none => ∃ s, o = some (.inr s)
theorem IsR.cases {ρ : Type} {o : Option ((ρ × S72) ⊕ S72)} {p : Option (ρ × List Int)} (h : IsR o p) : (∃ a r, p = some (a, r) ∧ o = some (.inl (a, ⟨r⟩))) ∨ (p = none ∧ ∃ s, o = some (.inr s)) := by
  unfold IsR at h
  split at h
  · exact .inl ⟨_, _, rfl, h⟩
  · exact .inr ⟨rfl, h⟩
theorem s_inl {α β γ : Type} (a : α) (f : α → Option γ) (g : β → Option γ) : sum_ (.inl a) f g = f a := rfl
theorem Check_t (s : S72) : column_Reader_Check s true = some (.inl s) := rfl
theorem Check_f (s : S72) : column_Reader_Check s false = some (.inr s) := rfl
theorem Byte_is (xs : List Int) : IsR (column_Reader_Byte ⟨xs⟩) (pB xs) := by
  unfold column_Reader_Byte
  cases xs with
  | nil => exact ⟨_, rfl⟩
  | cons b r =>
    rw [show decide (0 < (((⟨b :: r⟩ : S72).f0.length : Nat) : Int)) = true by simp, Check_t]
    simp only [Option.bind_some, s_inl]
    have h1 : at_ (b :: r) 0 = some b := rfl
    have h2 : cut_ (b :: r) 1 ((b :: r).length : Int) = some r := by
      have := cut_nat (xs := b :: r) (l := 1) (u := (b :: r).length) (by simp) (Nat.le_refl _)
      rw [show ((1 : Nat) : Int) = 1 from rfl, List.take_length] at this
      exact this
    rw [h1]
    simp only [Option.bind_some]
    rw [h2]
    rfl
theorem and_127 (a : Nat) : a &&& 127 = a % 128 := Nat.and_two_pow_sub_one_eq_mod a 7
theorem pV_lt : ∀ (xs : List Int) (i n m : Nat) (r : List Int), n < 2 ^ (7 * i) → n < 18446744073709551616 → pV i n xs = some (m, r) → m < 18446744073709551616 ∧ ∃ p, xs = p ++ r ∧ 0 < p.length
  | [], i, n, m, r, _, _, h => by cases h
  | b :: xs, i, n, m, r, h1, h2, h => by
    unfold pV at h
    split at h
    · rename_i hc
      have hlt : n + b.toNat % 128 * 2 ^ (7 * i) < 18446744073709551616 ∧ n + b.toNat % 128 * 2 ^ (7 * i) < 2 ^ (7 * (i + 1)) := by
        have hp : 2 ^ (7 * (i + 1)) = 128 * 2 ^ (7 * i) := by rw [show 7 * (i + 1) = 7 + 7 * i by omega, Nat.pow_add]
        have hm : b.toNat % 128 * 2 ^ (7 * i) ≤ 127 * 2 ^ (7 * i) := Nat.mul_le_mul_right _ (by omega)
        refine ⟨?_, by rw [hp]; omega⟩
        rcases hc with hc | ⟨hc, hb⟩
        · have : 2 ^ (7 * i) ≤ 2 ^ 56 := Nat.pow_le_pow_right (by decide) (by omega)
          omega
        · subst hc
          have : b.toNat % 128 * 2 ^ (7 * 9) ≤ 1 * 2 ^ (7 * 9) := Nat.mul_le_mul_right _ (by omega)
          omega
      split at h
      · split at h
        · cases h
          exact ⟨hlt.1, [b], rfl, by simp⟩
        · cases h
      · obtain ⟨q1, p, rfl, q3⟩ := pV_lt xs (i + 1) _ m r hlt.2 hlt.1 h
        exact ⟨q1, b :: p, rfl, by simp⟩
    · cases h
theorem Uloop (most : Int) : ∀ (xs : List Int) (i n : Nat), Bs xs → i ≤ 10 → n < 2 ^ (7 * i) → n < 18446744073709551616 →
    IsR (loop (fun s : List Int × Int × Int => column_Reader_Uint_l1 most s.1 s.2.1 s.2.2) (xs, (n : Int), (i : Int))) (match pV i n xs with | some (m, r) => if (m : Int) ≤ most then some ((m : Int), r) else none | none => none)
  | [], i, n, hB, hi, h1, h2 => ⟨⟨[]⟩, loop_end rfl⟩
  | b :: xs, i, n, hB, hi, h1, h2 => by
    obtain ⟨hb, hB'⟩ := hB.cons
    generalize hpv : pV i n (b :: xs) = pv
    have hby : column_Reader_Byte ⟨b :: xs⟩ = some (.inl (b, ⟨xs⟩)) := Byte_is (b :: xs)
    obtain ⟨c, rfl⟩ : ∃ c : Nat, b = (c : Int) := ⟨b.toNat, by omega⟩
    have hcase : (c : Int) < 128 ∨ 128 ≤ (c : Int) := by omega
    by_cases hc : i < 9 ∨ (i = 9 ∧ (c : Int) < 2)
    · -- the byte is taken
      have hp : 2 ^ (7 * (i + 1)) = 128 * 2 ^ (7 * i) := by rw [show 7 * (i + 1) = 7 + 7 * i by omega, Nat.pow_add]
      have hm : c % 128 * 2 ^ (7 * i) ≤ 127 * 2 ^ (7 * i) := Nat.mul_le_mul_right _ (by omega)
      have hlt : c % 128 * 2 ^ (7 * i) < 18446744073709551616 ∧ n + c % 128 * 2 ^ (7 * i) < 18446744073709551616 := by
        rcases hc with hc | ⟨hc, hb⟩
        · have : 2 ^ (7 * i) ≤ 2 ^ 56 := Nat.pow_le_pow_right (by decide) (by omega)
          omega
        · subst hc
          have : c % 128 * 2 ^ (7 * 9) ≤ 1 * 2 ^ (7 * 9) := Nat.mul_le_mul_right _ (by omega)
          omega
      have hlt2 : n + c % 128 * 2 ^ (7 * i) < 2 ^ (7 * (i + 1)) := by rw [hp]; omega
      obtain ⟨m, hm'⟩ : ∃ m, m = n + c % 128 * 2 ^ (7 * i) := ⟨_, rfl⟩
      have e1 : iand .u8 (c : Int) 127 = ((c % 128 : Nat) : Int) := by
        have := iand_u8 (a := c) (b := 127) (by omega) (by omega)
        rw [show ((127 : Nat) : Int) = 127 from rfl] at this
        rw [this, and_127]
      have e2 : IntKind.i64.wrap (7 * (i : Int)) = ((7 * i : Nat) : Int) := by rw [w64 (by omega) (by omega)]; omega
      have e3 : ishl .u64 ((c % 128 : Nat) : Int) ((7 * i : Nat) : Int) = ((c % 128 * 2 ^ (7 * i) : Nat) : Int) := by
        rw [ishl_u64 _ _ (by omega), Nat.mod_eq_of_lt hlt.1]
      have e4 : ior .u64 (n : Int) ((c % 128 * 2 ^ (7 * i) : Nat) : Int) = (m : Int) := by rw [ior_u64 h2 hlt.1, or_top h1, hm']
      have hl1 : column_Reader_Uint_l1 most ((c : Int) :: xs) (n : Int) (i : Int) = column_Reader_Uint_j1 most (n : Int) (i : Int) ((c : Int), ⟨xs⟩) xs := by
        unfold column_Reader_Uint_l1
        rw [hby]
        simp only [Option.bind_some, s_inl]
        rcases hc with hc | ⟨hc, hc2⟩
        · rw [if_pos (by simp only [decide_eq_true_eq]; omega), Check_t]; rfl
        · rw [if_neg (by simp only [decide_eq_true_eq]; omega), if_pos (by subst hc; rfl), show decide ((c : Int) < 2) = true by simpa using hc2, Check_t]; rfl
      have hj : column_Reader_Uint_j1 most (n : Int) (i : Int) ((c : Int), ⟨xs⟩) xs = if (c : Int) < 128 then (if (m : Int) ≤ most ∧ (i = 0 ∨ 0 < (c : Int)) then some (.inr (.inl ((m : Int), ⟨xs⟩))) else some (.inr (.inr ⟨xs⟩))) else some (.inl (xs, (m : Int), ((i + 1 : Nat) : Int))) := by
        unfold column_Reader_Uint_j1
        simp only [lt_]
        rw [e1, u64w (by omega) (by omega), e2, chk_pos (by omega), e3, e4]
        by_cases hc1 : (c : Int) < 128
        · rw [if_pos (by simpa using hc1), if_pos hc1]
          by_cases hmo : (m : Int) ≤ most
          · rw [if_pos (by simpa using hmo)]
            by_cases hi0 : i = 0
            · subst hi0
              rw [if_pos (by rfl), Check_t, if_pos ⟨hmo, .inl rfl⟩]
              rfl
            · rw [if_neg (by simpa using hi0)]
              by_cases hc0 : 0 < (c : Int)
              · rw [show decide (0 < (c : Int)) = true by simpa using hc0, Check_t, if_pos ⟨hmo, .inr hc0⟩]; rfl
              · rw [show decide (0 < (c : Int)) = false by simpa using hc0, Check_f, if_neg (by rintro ⟨_, q | q⟩; exact hi0 q; exact hc0 q)]; rfl
          · rw [if_neg (by simpa using hmo), Check_f, if_neg (fun q => hmo q.1)]; rfl
        · rw [if_neg (by simpa using hc1), if_neg hc1, w64 (by omega) (by omega)]; rfl
      rw [pV, if_pos hc, Int.toNat_natCast, ← hm'] at hpv
      rcases hcase with hc1 | hc1
      · rw [if_pos hc1] at hj hpv
        by_cases h0 : i = 0 ∨ 0 < (c : Int)
        · rw [if_pos h0] at hpv
          subst hpv
          simp only
          by_cases hmo : (m : Int) ≤ most
          · rw [if_pos ⟨hmo, h0⟩] at hj
            rw [if_pos hmo]
            exact loop_end (hl1.trans hj)
          · rw [if_neg (fun q => hmo q.1)] at hj
            rw [if_neg hmo]
            exact ⟨_, loop_end (hl1.trans hj)⟩
        · rw [if_neg h0] at hpv
          subst hpv
          rw [if_neg (fun q => h0 q.2)] at hj
          exact ⟨_, loop_end (hl1.trans hj)⟩
      · rw [if_neg (Int.not_lt.2 hc1)] at hj hpv
        rw [loop_nxt (hl1.trans hj)]
        subst hpv
        exact Uloop most xs (i + 1) m hB' (by omega) (by rw [hm']; exact hlt2) (by rw [hm']; exact hlt.2)
    · rw [pV, if_neg hc] at hpv
      subst hpv
      refine ⟨_, loop_end (t := Sum.inr ⟨xs⟩) ?_⟩
      show column_Reader_Uint_l1 most ((c : Int) :: xs) (n : Int) (i : Int) = _
      unfold column_Reader_Uint_l1
      rw [hby]
      simp only [Option.bind_some, s_inl]
      rw [if_neg (by simp only [decide_eq_true_eq]; omega)]
      by_cases hi9 : i = 9
      · rw [if_pos (by subst hi9; rfl), show decide ((c : Int) < 2) = false by simp; omega, Check_f]; rfl
      · rw [if_neg (by simp; omega), Check_f]; rfl
theorem Uint_is (most : Int) {xs : List Int} (hB : Bs xs) : IsR (column_Reader_Uint ⟨xs⟩ most) (pU most xs) := by
  unfold column_Reader_Uint pU
  have := Uloop most xs 0 0 hB (by omega) (by simp) (by omega)
  simp only [Int.natCast_zero] at this
  rcases this.cases with ⟨a, r, h1, h2⟩ | ⟨h1, s, h2⟩
  · rw [h1]; show _ = _; rw [h2]; rfl
  · rw [h1]; exact ⟨s, by rw [h2]; rfl⟩
theorem pU_some {most : Int} {xs r : List Int} {n : Int} (h : pU most xs = some (n, r)) : (0 ≤ n ∧ n < 18446744073709551616 ∧ n ≤ most) ∧ ∃ p, xs = p ++ r ∧ 0 < p.length := by
  unfold pU at h
  split at h
  · rename_i m r' he
    split at h
    · cases h
      obtain ⟨h1, h2⟩ := pV_lt _ _ _ _ _ (by simp) (by omega) he
      exact ⟨⟨by omega, by omega, by assumption⟩, h2⟩
    · cases h
  · cases h
theorem pU_bs {most : Int} {xs r : List Int} {n : Int} (hB : Bs xs) (h : pU most xs = some (n, r)) : Bs r := by
  obtain ⟨_, p, rfl, _⟩ := pU_some h
  exact hB.r
theorem and_1 (a : Nat) : a &&& 1 = a % 2 := Nat.and_two_pow_sub_one_eq_mod a 1
theorem xor_m1 {a : Nat} (h : a < 9223372036854775808) : ixor .i64 (a : Int) (-1) = -(a : Int) - 1 := by
  show IntKind.i64.wrap (((BitVec.ofInt 64 (a : Int) ^^^ BitVec.allOnes 64).toNat : Nat) : Int) = _
  rw [ofInt_nat, BitVec.xor_allOnes, BitVec.toNat_not, BitVec.toNat_ofNat, Nat.mod_eq_of_lt (show a < 2 ^ 64 by omega), IntWalk.i64_left]
  unfold wrap64
  omega
theorem xor_0 {a : Nat} (h : a < 9223372036854775808) : ixor .i64 (a : Int) 0 = (a : Int) := by
  show IntKind.i64.wrap (((BitVec.ofInt 64 (a : Int) ^^^ 0#64).toNat : Nat) : Int) = _
  rw [ofInt_nat, BitVec.xor_zero, BitVec.toNat_ofNat, Nat.mod_eq_of_lt (show a < 2 ^ 64 by omega), w64 (by omega) (by omega)]
theorem uz_eq {n : Nat} (h : n < 18446744073709551616) : ixor .i64 (IntKind.i64.wrap (ishr .u64 (n : Int) 1)) (IntKind.i64.wrap (0 - IntKind.i64.wrap (iand .u64 (n : Int) 1))) = uz n := by
  have e1 : ishr .u64 (n : Int) 1 = ((n / 2 : Nat) : Int) := ishr_nat (k := .u64) n 1 (by decide)
  have e2 : iand .u64 (n : Int) 1 = ((n % 2 : Nat) : Int) := by
    have := iand_u64 (a := n) (b := 1) h (by omega)
    rw [show ((1 : Nat) : Int) = 1 from rfl] at this
    rw [this, and_1]
  rw [e1, e2, w64 (n := ((n / 2 : Nat) : Int)) (by omega) (by omega), w64 (n := ((n % 2 : Nat) : Int)) (by omega) (by omega), w64 (by omega) (by omega)]
  unfold uz
  by_cases ho : n % 2 = 1
  · rw [if_pos ho, ho, show (0 : Int) - ((1 : Nat) : Int) = -1 from rfl, xor_m1 (by omega)]
  · rw [if_neg ho, show n % 2 = 0 by omega, show (0 : Int) - ((0 : Nat) : Int) = 0 from rfl, xor_0 (by omega)]
theorem Int_is {xs : List Int} (hB : Bs xs) : IsR (column_Reader_Int ⟨xs⟩) (pI xs) := by
  unfold column_Reader_Int pI
  rcases (Uint_is 18446744073709551615 hB).cases with ⟨a, r, h1, h2⟩ | ⟨h1, s, h2⟩
  · rw [h1, h2]
    obtain ⟨⟨q1, q2, _⟩, _⟩ := pU_some h1
    simp only [Option.bind_some, s_inl, lt_]
    have := uz_eq (n := a.toNat) (by omega)
    rw [show ((a.toNat : Nat) : Int) = a by omega] at this
    show _ = _
    rw [this]
  · rw [h1, h2]
    exact ⟨s, rfl⟩
theorem pI_bs {xs r : List Int} {n : Int} (hB : Bs xs) (h : pI xs = some (n, r)) : Bs r ∧ i64 n ∧ ∃ p, xs = p ++ r ∧ 0 < p.length := by
  unfold pI at h
  split at h
  · rename_i m r' he
    cases h
    refine ⟨pU_bs hB he, ?_, (pU_some he).2⟩
    have := (pU_some he).1
    unfold i64 uz
    split <;> omega
  · cases h
theorem Text_is (most : Int) {xs : List Int} (hB : Bs xs) (hl : xs.length < 9223372036854775808) : IsR (column_Reader_Text ⟨xs⟩ most) (pT most xs) := by
  unfold column_Reader_Text pT
  rw [lt_]
  rcases (Uint_is (IntKind.u64.wrap most) hB).cases with ⟨a, r, h1, h2⟩ | ⟨h1, s, h2⟩
  · rw [h1, h2]
    obtain ⟨⟨q1, q2, _⟩, p, hp, _⟩ := pU_some h1
    have hr : r.length ≤ xs.length := by rw [hp]; simp
    simp only [Option.bind_some, s_inl, lt_]
    rw [u64w (by omega) (by omega)]
    obtain ⟨n, rfl⟩ : ∃ n : Nat, a = (n : Int) := ⟨a.toNat, by omega⟩
    by_cases hn : (n : Int) ≤ (r.length : Int)
    · rw [show decide ((n : Int) ≤ (r.length : Int)) = true by simpa using hn, Check_t, if_pos hn]
      simp only [Option.bind_some, s_inl]
      have c1 := cut_nat (xs := r) (l := 0) (u := n) (by omega) (by omega)
      have c2 := cut_nat (xs := r) (l := n) (u := r.length) (by omega) (by omega)
      rw [show ((0 : Nat) : Int) = 0 from rfl, List.drop_zero] at c1
      rw [List.take_length] at c2
      rw [c1]
      simp only [Option.bind_some]
      rw [c2]
      rfl
    · rw [show decide ((n : Int) ≤ (r.length : Int)) = false by simpa using hn, Check_f, if_neg hn]
      exact ⟨_, rfl⟩
  · rw [h1, h2]
    exact ⟨s, rfl⟩
theorem pV_uv : ∀ (k : Nat) (m i n : Nat) (r : List Int), m < 128 ^ (k + 1) → k + i ≤ 9 → m * 2 ^ (7 * i) + n < 18446744073709551616 → (0 < i → 0 < m) → pV i n (uv m ++ r) = some (n + m * 2 ^ (7 * i), r)
  | k, m, i, n, r, h, hi, hlt, h0 => by
    by_cases hm : m < 128
    · rw [uv_small hm, List.singleton_append, pV]
      have h9 : i < 9 ∨ (i = 9 ∧ (m : Int) < 2) := by
        rcases Nat.lt_or_ge i 9 with q | q
        · exact .inl q
        · have : i = 9 := by omega
          subst this
          refine .inr ⟨rfl, ?_⟩
          rcases Nat.lt_or_ge m 2 with q2 | q2
          · omega
          · have : 2 * 2 ^ (7 * 9) ≤ m * 2 ^ (7 * 9) := Nat.mul_le_mul_right _ q2
            omega
      rw [if_pos h9, if_pos (by omega), if_pos (by rcases Nat.eq_zero_or_pos i with q | q; exact .inl q; have := h0 q; exact .inr (by omega)), Int.toNat_natCast, Nat.mod_eq_of_lt hm]
    · rw [uv_large hm, List.cons_append, pV]
      match k, h, hi with
      | 0, h, _ => exact absurd (by simpa using h) hm
      | k + 1, h, hi =>
        rw [if_pos (.inl (by omega)), if_neg (by omega), Int.toNat_natCast, show (m % 128 + 128) % 128 = m % 128 by omega]
        have hp : 2 ^ (7 * (i + 1)) = 128 * 2 ^ (7 * i) := by rw [show 7 * (i + 1) = 7 + 7 * i by omega, Nat.pow_add]
        have hdiv : m / 128 * (128 * 2 ^ (7 * i)) + m % 128 * 2 ^ (7 * i) = m * 2 ^ (7 * i) := by
          rw [← Nat.mul_assoc, ← Nat.add_mul]
          congr 1
          omega
        rw [pV_uv k (m / 128) (i + 1) _ r (by rw [Nat.pow_succ] at h; exact Nat.div_lt_of_lt_mul (by rw [Nat.mul_comm]; exact h)) (by omega) (by rw [hp]; omega) (fun _ => by omega), hp]
        congr 2
        omega
theorem pU_uv {m : Nat} (h : m < 18446744073709551616) (r : List Int) {most : Int} (hm : (m : Int) ≤ most) : pU most (uv m ++ r) = some ((m : Int), r) := by
  unfold pU
  rw [pV_uv 9 m 0 0 r (by omega) (by omega) (by simp; omega) (fun q => absurd q (by omega))]
  simp only [Nat.mul_zero, Nat.pow_zero, Nat.mul_one, Nat.zero_add]
  rw [if_pos hm]
theorem pI_uv {x : Int} (h : i64 x) (r : List Int) : pI (uv (zz x) ++ r) = some (x, r) := by
  unfold pI
  have := zz_lt h
  rw [pU_uv this r (by omega)]
  simp only [Int.toNat_natCast, uz_zz]
end Go.Proofs.Ythokgnonmcgkcaa.P
