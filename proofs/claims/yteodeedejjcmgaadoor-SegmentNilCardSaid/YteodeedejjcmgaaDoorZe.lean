/- Texts of the claim, joined: what it uses of Va, Dst0, Vb, Dst, Mst, Dev, Mev, Del. -/
import Derived.Test.YteodeedejjcmgaaDoorZd
import Derived.Test.YteodeedejjcmgaaDoorProg
import Derived.Shelf.SlIter.Sorted
import Derived.Shelf.Sort.Plain
import Derived.Shelf.Slices.In.SortNone
import Derived.Shelf.Slices.CompactS
import Derived.KernelRfl
namespace Go.Proofs
open Go.RowKit Go.Maps Go.Sort Go.Shelf
def Tryd.sortL_ren : Go.Shelf.Ren := ⟨fun | 190 => 85 | 125 => 100 | 258 => 99 | 128 => 111 | 129 => 97 | 302 => 103 | 303 => 104 | 304 => 105 | 305 => 106 | 306 => 107 | 307 => 108 | 308 => 87 | 309 => 109 | 310 => 110 | 333 => 112 | 329 => 113 | 330 => 114 | 334 => 115 | 335 => 116 | 336 => 101 | 344 => 117 | n => n, fun | 31 => 91 | 9 => 9 | 3 => 3 | 46 => 73 | 0 => 0 | 51 => 48 | 53 => 31 | 4 => 4 | 183 => 153 | 182 => 152 | 131 => 127 | 5 => 5 | 218 => 159 | 222 => 163 | 228 => 165 | 229 => 166 | n => n, fun | n => n⟩
theorem Tryd.sortL : Go.Proofs.Lays.n190 Tryd.prog Tryd.sortL_ren := {
  mixed := by kernel_rfl
  f125 := Tryd.func100.trans (congrArg some (by kernel_rfl))
  f128 := Tryd.func111.trans (congrArg some (by kernel_rfl))
  f129 := Tryd.func97.trans (congrArg some (by kernel_rfl))
  f190 := Tryd.func85.trans (congrArg some (by kernel_rfl))
  f258 := Tryd.func99.trans (congrArg some (by kernel_rfl))
  f302 := Tryd.func103.trans (congrArg some (by kernel_rfl))
  f303 := Tryd.func104.trans (congrArg some (by kernel_rfl))
  f304 := Tryd.func105.trans (congrArg some (by kernel_rfl))
  f305 := Tryd.func106.trans (congrArg some (by kernel_rfl))
  f306 := Tryd.func107.trans (congrArg some (by kernel_rfl))
  f307 := Tryd.func108.trans (congrArg some (by kernel_rfl))
  f308 := Tryd.func87.trans (congrArg some (by kernel_rfl))
  f309 := Tryd.func109.trans (congrArg some (by kernel_rfl))
  f310 := Tryd.func110.trans (congrArg some (by kernel_rfl))
  f329 := Tryd.func113.trans (congrArg some (by kernel_rfl))
  f330 := Tryd.func114.trans (congrArg some (by kernel_rfl))
  f333 := Tryd.func112.trans (congrArg some (by kernel_rfl))
  f334 := Tryd.func115.trans (congrArg some (by kernel_rfl))
  f335 := Tryd.func116.trans (congrArg some (by kernel_rfl))
  f336 := Tryd.func101.trans (congrArg some (by kernel_rfl))
  f344 := Tryd.func117.trans (congrArg some (by kernel_rfl))
  t0 := Tryd.underlying0
  a0 := Tryd.isAgg0
  z0 := Tryd.sizeOf0
  v0 := Tryd.zeroValue0
  t3 := Tryd.underlying3
  a3 := Tryd.isAgg3
  z3 := Tryd.sizeOf3
  v3 := Tryd.zeroValue3
  t4 := Tryd.underlying4
  a4 := Tryd.isAgg4
  z4 := Tryd.sizeOf4
  v4 := Tryd.zeroValue4
  t5 := Tryd.underlying5
  a5 := Tryd.isAgg5
  z5 := Tryd.sizeOf5
  v5 := Tryd.zeroValue5
  t9 := Tryd.underlying9
  a9 := Tryd.isAgg9
  z9 := Tryd.sizeOf9
  v9 := Tryd.zeroValue9
  t31 := Tryd.underlying91
  a31 := Tryd.isAgg91
  z31 := Tryd.sizeOf91
  v31 := Tryd.zeroValue91
  t46 := Tryd.underlying73
  a46 := Tryd.isAgg73
  z46 := Tryd.sizeOf73
  v46 := Tryd.zeroValue73
  t51 := Tryd.underlying48
  a51 := Tryd.isAgg48
  z51 := Tryd.sizeOf48
  v51 := Tryd.zeroValue48
  t53 := Tryd.underlying31
  a53 := Tryd.isAgg31
  z53 := Tryd.sizeOf31
  v53 := Tryd.zeroValue31
  t131 := Tryd.underlying127
  a131 := Tryd.isAgg127
  z131 := Tryd.sizeOf127
  v131 := Tryd.zeroValue127
  t182 := Tryd.underlying152
  a182 := Tryd.isAgg152
  z182 := Tryd.sizeOf152
  v182 := Tryd.zeroValue152
  t183 := Tryd.underlying153
  a183 := Tryd.isAgg153
  z183 := Tryd.sizeOf153
  v183 := Tryd.zeroValue153
  t218 := Tryd.underlying159
  a218 := Tryd.isAgg159
  z218 := Tryd.sizeOf159
  v218 := Tryd.zeroValue159
  t222 := Tryd.underlying163
  a222 := Tryd.isAgg163
  z222 := Tryd.sizeOf163
  v222 := Tryd.zeroValue163
  t228 := Tryd.underlying165
  a228 := Tryd.isAgg165
  z228 := Tryd.sizeOf165
  v228 := Tryd.zeroValue165
  t229 := Tryd.underlying166
  a229 := Tryd.isAgg166
  z229 := Tryd.sizeOf166
  v229 := Tryd.zeroValue166 }
def Tryd.compactL_ren : Go.Shelf.Ren := ⟨fun | 194 => 69 | n => n, fun | 31 => 91 | 9 => 9 | 3 => 3 | 4 => 4 | 0 => 0 | n => n, fun | n => n⟩
theorem Tryd.compactL : Go.Proofs.Lays.n194 Tryd.prog Tryd.compactL_ren := {
  mixed := by kernel_rfl
  f194 := Tryd.func69.trans (congrArg some (by kernel_rfl))
  t0 := Tryd.underlying0
  a0 := Tryd.isAgg0
  z0 := Tryd.sizeOf0
  v0 := Tryd.zeroValue0
  t3 := Tryd.underlying3
  a3 := Tryd.isAgg3
  z3 := Tryd.sizeOf3
  v3 := Tryd.zeroValue3
  t4 := Tryd.underlying4
  a4 := Tryd.isAgg4
  z4 := Tryd.sizeOf4
  v4 := Tryd.zeroValue4
  t9 := Tryd.underlying9
  a9 := Tryd.isAgg9
  z9 := Tryd.sizeOf9
  v9 := Tryd.zeroValue9
  t31 := Tryd.underlying91
  a31 := Tryd.isAgg91
  z31 := Tryd.sizeOf91
  v31 := Tryd.zeroValue91 }
def Tryd.sortedL_ren : Go.Shelf.Ren := ⟨fun | 6 => 70 | 8 => 84 | 9 => 85 | 11 => 98 | 13 => 100 | 12 => 99 | 23 => 111 | 24 => 97 | 14 => 103 | 15 => 104 | 16 => 105 | 17 => 106 | 18 => 107 | 19 => 108 | 20 => 87 | 21 => 109 | 22 => 110 | 25 => 112 | 26 => 113 | 27 => 114 | 28 => 115 | 29 => 116 | 30 => 101 | 31 => 117 | n => n, fun | 26 => 9 | 28 => 125 | 24 => 91 | 0 => 0 | 3 => 3 | 37 => 73 | 48 => 48 | 50 => 31 | 4 => 4 | 40 => 153 | 39 => 152 | 45 => 127 | 5 => 5 | 9 => 9 | 51 => 159 | 55 => 163 | 57 => 165 | 58 => 166 | 33 => 139 | n => n, fun | n => n⟩
theorem Tryd.sortedL : Go.Proofs.SlLaysZ.n6 Tryd.prog Tryd.sortedL_ren := {
  mixed := by kernel_rfl
  f6 := ⟨ "slices.Sorted[string]", by decide, Tryd.func70.trans (congrArg some (by kernel_rfl))⟩
  f8 := ⟨ "slices.Collect[string]", by decide, Tryd.func84.trans (congrArg some (by kernel_rfl))⟩
  f11 := ⟨ "slices.AppendSeq[[]string,string]", by decide, Tryd.func98.trans (congrArg some (by kernel_rfl))⟩
  t0 := Tryd.underlying0
  a0 := Tryd.isAgg0
  z0 := Tryd.sizeOf0
  v0 := Tryd.zeroValue0
  t24 := Tryd.underlying91
  a24 := Tryd.isAgg91
  z24 := Tryd.sizeOf91
  v24 := Tryd.zeroValue91
  t26 := Tryd.underlying9
  a26 := Tryd.isAgg9
  z26 := Tryd.sizeOf9
  v26 := Tryd.zeroValue9
  t28 := Tryd.underlying125
  a28 := Tryd.isAgg125
  z28 := Tryd.sizeOf125
  v28 := Tryd.zeroValue125
  i26 := by kernel_rfl }
set_option maxRecDepth 100000 in
set_option maxHeartbeats 2000000 in
theorem values_gives (n : Nat) (hn : 1 ≤ n) (l Bx B : Nat) (W0 : World) (A : Option Addr) (c : Nat) (xs : List (List UInt8)) (hl : xs.length ≤ 4611686018427387904) (J : List (List UInt8) → World → Prop)
    (hJB : ∀ ss W1, J ss W1 → Below B W0 W1) (hBx : Bx < B) (hbox : W0.cell? ⟨Bx, 0, none⟩ = some (.slice A xs.length c))
    (hrow : 0 < xs.length → ∃ b off, A = some ⟨b, off, none⟩ ∧ b < B ∧ ∀ j x, xs[j]? = some x → W0.cell? ⟨b, off + j, none⟩ = some (encStr x))
    (hY : ∀ pre x W1, J pre W1 → pre.length < xs.length → YieldAt Fence.wide (n - 1) Tryd.prog l #[encStr x] W1 fun e W' => e = .returned (.bool true) ∧ J (pre ++ [x]) W' ∧ KeepsWalks W1 W')
    (W : World) (h0 : J [] W) :
    CallsIn Fence.wide n Tryd.prog 86 #[.func (.yield l) #[] #[], .pointer (some ⟨Bx, 0, none⟩)] W fun e W' => (∃ v, e = .returned v) ∧ J xs W' := by
  have hb1 := (hJB _ _ h0)
  have hx0 : W.cell? ⟨Bx, 0, none⟩ = some (.slice A xs.length c) := (hb1.cell (p := ⟨Bx, 0, none⟩) hBx).trans hbox
  refine callsIn_of_wp Tryd.func86 rfl trivial ?_ rfl
  simp only [Tryd.ntmps86, List.size_toArray, List.length_cons, List.length_nil, Nat.reduceAdd, Nat.reduceSub, Array.replicate_succ, Array.replicate_zero, List.push_toArray, List.append_toArray, List.nil_append, List.cons_append]
  gi_wp2
  gi_loopw [7] (fun s7 wr => ∃ k : Nat, s7 = .int .i64 k ∧ k ≤ xs.length ∧ J (xs.take k) wr) (fun s7 _ => match s7 with | .int .i64 k => (xs.length : Int).toNat - k.toNat | _ => 0)
  case atStart => exact ⟨0, rfl, Nat.zero_le _, by simpa using h0⟩
  case round =>
    obtain ⟨k, rfl, hk, hJk⟩ := hrel
    by_cases hlt : k < xs.length
    · obtain ⟨b, off, rfl, hb, hcell⟩ := hrow (by omega)
      have hx := List.getElem?_eq_getElem hlt
      have hc := ((hJB _ _ hJk).cell (p := ⟨b, off + k, none⟩) hb).trans (hcell k _ hx)
      obtain ⟨x, hxx⟩ : ∃ x, x = xs[k] := ⟨_, rfl⟩
      rw [← hxx] at hc hx
      have hkl : (xs.take k).length = k := by simp; omega
      obtain ⟨fn, tmps, assign, body, hy, hR⟩ := hY (xs.take k) x wr hJk (by omega)
      clear hrow hcell hxx
      gi_wp2
      refine hR.mono ?_
      rintro e W3 ⟨rfl, hJ3, hk3⟩
      gi_wp2
      go_roundw
      case rel => exact ⟨k + 1, by simp, by omega, by rw [List.take_add_one, hx]; exact hJ3⟩
      case measure => simp; omega
    · have : k = xs.length := by omega
      subst this
      gi_wp2
      go_end0
      exact ⟨⟨_, rfl⟩, by simpa using hJk⟩
set_option maxRecDepth 100000 in
set_option maxHeartbeats 2000000 in
theorem appendSeq_values (Bx : Nat) (w : World) (A : Option Addr) (c : Nat) (xs : List (List UInt8)) (hl : xs.length * 16 ≤ 140737488355328) (hBx : Bx < w.heap.size) (hbox : w.cell? ⟨Bx, 0, none⟩ = some (.slice A xs.length c))
    (hrow : 0 < xs.length → ∃ b off, A = some ⟨b, off, none⟩ ∧ b < w.heap.size ∧ ∀ j x, xs[j]? = some x → w.cell? ⟨b, off + j, none⟩ = some (encStr x)) :
    Calls Tryd.prog 98 #[.slice none 0 0, .func (.func 86) #[] #[.pointer (some ⟨Bx, 0, none⟩)]] w fun e w' => ∃ v, e = .returned v ∧ w'.ownsRow w.heap.size 9 1 v xs.length (xs.map encStr) ∧ (v = .slice none 0 0 ↔ xs = []) ∧ Below w.heap.size w w' := by
  refine (callsIn_wide (n := 5)).1 ?_
  obtain ⟨sv, hsv⟩ : ∃ sv : Value, sv = .func (.func 86) #[] #[.pointer (some ⟨Bx, 0, none⟩)] := ⟨_, rfl⟩
  have hsv' := hsv
  refine callsIn_of_wp_marks Tryd.func98 rfl trivial ?_ rfl
  simp only [Tryd.ntmps98, List.size_toArray, List.length_cons, List.length_nil, Nat.reduceAdd, Nat.reduceSub, Array.replicate_succ, Array.replicate_zero, List.push_toArray, List.append_toArray, List.nil_append, List.cons_append]
  gi_wp2
  refine wpIn_rangeFunc ?_
  intro fn hfn
  rw [show Fence.wide.round = none from rfl]
  let ρ := Tryd.sortedL_ren
  obtain ⟨W0, hW0⟩ : ∃ W0, w.alloc (.cells #[.slice none 0 0] 91) = W0 := ⟨_, rfl⟩
  have hs0 : W0.heap.size = w.heap.size + 1 := by rw [← hW0]; simp
  have hv0 : W0.heap[w.heap.size]? = some (.cells #[.slice none 0 0] 91 (0, 0)) := by rw [← hW0]; exact World.alloc_heap_new w _
  have hb0 : Below w.heap.size w W0 := by rw [← hW0]; exact (Below.refl _ w).alloc (Nat.le_refl _) _
  rw [hW0]
  obtain ⟨W1, hW1⟩ : ∃ W1, (W0.alloc (.deferred (some []))).alloc (.loop (AnyZ.apRec ρ fn sv w.heap.size W0.heap.size .ready none)) = W1 := ⟨_, rfl⟩
  have hold : ∀ k, k < W0.heap.size → W1.heap[k]? = W0.heap[k]? := fun k hk => by
    rw [← hW1]; exact (Below.heap_alloc _ _ k (by simp; omega)).trans (Below.heap_alloc _ _ k hk)
  have hb1 : Below w.heap.size w W1 := by rw [← hW1]; exact (hb0.alloc hb0.size _).alloc (by have := hb0.size; simp; omega) _
  have hM : AnyZ.ApAt ρ w fn sv w.heap.size (W0.heap.size + 1) W0.heap.size [] W1 :=
    ⟨⟨_, (hold w.heap.size (by omega)).trans hv0, ⟨rfl, .inl ⟨rfl, rfl⟩⟩, by simp⟩,
     by rw [← hW1]; have := World.alloc_heap_new (W0.alloc (.deferred (some []))) (.loop (AnyZ.apRec ρ fn sv w.heap.size W0.heap.size .ready none)); rwa [World.size_alloc] at this,
     by rw [← hW1]; exact (Below.heap_alloc _ _ _ (by simp)).trans (World.alloc_heap_new W0 _), hb1⟩
  refine ⟨W0.heap.size + 1, [{ target := .collected W0.heap.size, args := #[] }], W1, { target := .fn (.func 86) #[.pointer (some ⟨Bx, 0, none⟩)], args := #[.func (.yield (W0.heap.size + 1)) #[] #[]] }, W1, 86,
    #[.func (.yield (W0.heap.size + 1)) #[] #[]] ++ #[.pointer (some ⟨Bx, 0, none⟩)], W1, ?_, ?_, ?_, ?_, fun _ => by omega, ?_⟩
  · rw [← hW1, hsv]; exact run_enterLoop_outer _ _ _ _ _
  · simp [resolve, go_sem]
  · intro f' hf'; trivial
  · simp [invoke, go_sem]
  · have hcur := AnyZ.apYield (ρ := ρ) (P := Tryd.prog) { Tryd.sortedL with } Fence.wide 3 w fn hfn sv w.heap.size (W0.heap.size + 1) W0.heap.size (by omega) (by omega) (by omega) (Nat.le_refl _) (by omega) xs.length (by unfold maxLen; omega) hl
    refine (values_gives 4 (by omega) (W0.heap.size + 1) Bx w.heap.size w A c xs (by omega) (AnyZ.ApAt ρ w fn sv w.heap.size (W0.heap.size + 1) W0.heap.size) (fun ss W1 h => h.below) hBx hbox hrow
      (fun pre x W hJ hlt => hcur pre x W hJ hlt) W1 hM).mono ?_
    rintro e W2 ⟨⟨v0, rfl⟩, h2⟩
    obtain ⟨v, hv, hr, hnil⟩ := h2.box
    have hend := run_endLoop (P := Tryd.prog) h2.L (by simp [AnyZ.apRec])
    obtain ⟨W3, hW3⟩ : ∃ W3, W2.putObj (W0.heap.size + 1) (.loop { AnyZ.apRec ρ fn sv w.heap.size W0.heap.size .ready none with state := .exhausted }) = W3 := ⟨_, rfl⟩
    rw [hW3] at hend
    have hg3 : W2.grownBy W3 (some (W0.heap.size + 1)) := by rw [← hW3]; exact grownBy_putObj_a _ _ _
    have hv3 : W3.heap[w.heap.size]? = some (.cells #[v] 91 (0, 0)) := by rw [← hW3]; exact (World.putObj_heap_other (by omega)).trans hv
    have hK3 : W3.heap[W0.heap.size]? = some (.deferred (some [])) := by rw [← hW3]; exact (World.putObj_heap_other (by omega)).trans h2.K
    have hr3 := hr.kept hg3 (ownsRow_ne_a hr h2.L (fun cur e => by cases e))
    have hb3 : Below w.heap.size w W3 := h2.below.grown hg3 h2.below.size (fun k e => by cases e; omega)
    obtain ⟨hc3, hf3⟩ := cell_of_box_a hv3
    clear hW3
    refine ⟨none, W3, hend, ?_⟩
    gi_wp2
    rw [← hs0]
    refine ⟨by simp, .inl ⟨_, _, rfl, run_takeDeferred hK3, ?_⟩⟩
    exact ⟨_, results_tmp rfl _ _ _, v, rfl, hr3.kept (grownBy_putObj_a _ _ _) (ownsRow_ne_a hr3 hK3 (fun cur e => by cases e)), hnil, hb3.grown (grownBy_putObj_a _ _ _) hb3.size (fun k e => by cases e; omega)⟩
set_option maxRecDepth 100000 in
set_option maxHeartbeats 2000000 in
theorem collect_values (Bx : Nat) (w : World) (A : Option Addr) (c : Nat) (xs : List (List UInt8)) (hl : xs.length * 16 ≤ 140737488355328) (hBx : Bx < w.heap.size) (hbox : w.cell? ⟨Bx, 0, none⟩ = some (.slice A xs.length c))
    (hrow : 0 < xs.length → ∃ b off, A = some ⟨b, off, none⟩ ∧ b < w.heap.size ∧ ∀ j x, xs[j]? = some x → w.cell? ⟨b, off + j, none⟩ = some (encStr x)) :
    Calls Tryd.prog 84 #[.func (.func 86) #[] #[.pointer (some ⟨Bx, 0, none⟩)]] w fun e w' => ∃ v, e = .returned v ∧ w'.ownsRow w.heap.size 9 1 v xs.length (xs.map encStr) ∧ (v = .slice none 0 0 ↔ xs = []) ∧ Below w.heap.size w w' := by
  refine (callsIn_wide (n := 6)).1 ?_
  have cS := (callsIn_wide (n := 5)).2 (appendSeq_values Bx w A c xs hl hBx hbox hrow)
  refine callsIn_of_wp Tryd.func84 rfl trivial ?_ rfl
  simp only [Tryd.ntmps84, List.size_toArray, List.length_cons, List.length_nil, Nat.reduceAdd, Nat.reduceSub, Array.replicate_succ, Array.replicate_zero, List.push_toArray, List.append_toArray, List.nil_append, List.cons_append]
  have hfS : Fence.wide.fn 98 := trivial
  gi_wp2_with (gi_at_call 98; refine cS.mono ?_; rintro e w' ⟨v, rfl, hr, hnil, hb⟩)
  go_ret
  exact ⟨v, rfl, hr, hnil, hb⟩
set_option maxRecDepth 100000 in
set_option maxHeartbeats 2000000 in
theorem sorted_values (Bx : Nat) (w : World) (A : Option Addr) (c : Nat) (xs : List (List UInt8)) (hl : xs.length * 16 ≤ 140737488355328) (hBx : Bx < w.heap.size) (hbox : w.cell? ⟨Bx, 0, none⟩ = some (.slice A xs.length c))
    (hrow : 0 < xs.length → ∃ b off, A = some ⟨b, off, none⟩ ∧ b < w.heap.size ∧ ∀ j x, xs[j]? = some x → w.cell? ⟨b, off + j, none⟩ = some (encStr x)) :
    Calls Tryd.prog 70 #[.func (.func 86) #[] #[.pointer (some ⟨Bx, 0, none⟩)]] w fun e w' => ∃ v, e = .returned v ∧ w'.ownsRow w.heap.size 9 1 v xs.length ((xs.mergeSort fun x y => decide (x ≤ y)).map encStr) ∧ (v = .slice none 0 0 ↔ xs = []) ∧ Below w.heap.size w w' := by
  refine (callsIn_wide (n := 7)).1 ?_
  have cS := (callsIn_wide (n := 6)).2 (collect_values Bx w A c xs hl hBx hbox hrow)
  refine callsIn_of_wp Tryd.func70 rfl trivial ?_ rfl
  simp only [Tryd.ntmps70, List.size_toArray, List.length_cons, List.length_nil, Nat.reduceAdd, Nat.reduceSub, Array.replicate_succ, Array.replicate_zero, List.push_toArray, List.append_toArray, List.nil_append, List.cons_append]
  have hfS : Fence.wide.fn 84 := trivial
  have hfT : Fence.wide.fn 85 := trivial
  gi_wp2_with (gi_at_call 84; refine cS.mono ?_; rintro e W ⟨v, rfl, hr, hnil, hb⟩)
  rcases hr.2 with ⟨rfl, hz⟩ | ⟨gb, cap, cur, rfl, hbase, hgb, r1, r2, r3, r4⟩
  · have hss : xs = [] := List.eq_nil_of_length_eq_zero hz
    subst hss
    have cT := (callsIn_wide (n := 6)).2 (Any.slices_Sort_string_none Tryd.sortL none 0 W)
    change CallsIn _ _ Tryd.prog 85 _ _ _ at cT
    gi_wp2_with (gi_at_call 85; refine cT.mono ?_; rintro e w' ⟨rfl, rfl⟩)
    go_ret
    exact ⟨_, rfl, by simpa using hr, by simp, hb⟩
  · have hH : Holds encStr W gb 0 xs.toArray := holds_of_block hgb (by simpa using r4)
    have hgl : gb < W.heap.size := (Array.getElem?_eq_some_iff.1 hgb).1
    have cT := (callsIn_wide (n := 6)).2 (Any.slices_Sort_string Tryd.sortL gb 0 cap xs W hH hgl (by omega))
    change CallsIn _ _ Tryd.prog 85 _ _ _ at cT
    gi_wp2_with (gi_at_call 85; refine cT.mono ?_; rintro e w' ⟨rfl, nn, os, rfl⟩)
    go_ret
    exact ⟨_, rfl, ownsRow_sorted (by simp) hbase hgb r1 r2 r3, hnil, hb.grown (grownBy_sorted _) hb.size (fun j hj => by cases hj; exact hbase)⟩
end Go.Proofs
namespace Go.Proofs.YteodeedejjcmgaaDoor.M
open Go Go.RowKit Go.Proofs.YteodeedejjcmgaaDoor.E
noncomputable def slices_Sorted_string (a0 : List (List UInt8)) : Option (List (List UInt8)) := chk (a0.length * 16 ≤ 140737488355328) (some (a0.mergeSort fun x y => decide (x ≤ y)))
noncomputable def slices_Compact_string (a0 : List (List UInt8)) : Option (List (List UInt8)) := some (Lib.compact a0)
end Go.Proofs.YteodeedejjcmgaaDoor.M
namespace Go.Proofs.YteodeedejjcmgaaDoor.M
open Go Go.RowKit Go.Proofs.YteodeedejjcmgaaDoor.E
set_option linter.unusedVariables false
theorem F_slices_Values {r w : World} {L : List HP} {A : Option Addr} {n c : Nat} (hS : SH r L w) :
    Ret Tryd.prog 71 #[.slice A n c] w fun v w' => ∃ g, v = .func (.func 86) #[] #[.pointer (some ⟨g, 0, none⟩)] ∧ SH r (blk g 91 [.slice A n c] :: L) w' := by
  refine enter Tryd.func71 rfl Tryd.ntmps71 [(0, .slice A n c)] rfl (by simp) ?_
  intro ac hA Qf hQ hQn
  refine wp_seq_k fun K1 hK1 => ?_
  refine wp_reg ?_
  refine x_box hA hS (fun g ac w hS hA => ?_) rfl rfl rfl rfl rfl rfl
  refine x_assign hA (fun ac hA => ?_) rfl rfl rfl rfl rfl
  refine wpList_nil ?_
  refine hK1 _ _ ?_
  refine wp_seq_k fun K2 hK2 => ?_
  refine wp_reg ?_
  refine x_val hA (r_makeFunc rfl (mapev (vals := #[]) hA rfl) (mapev (vals := #[.pointer (some ⟨g, 0, none⟩)]) hA rfl)) (fun ac hA => ?_) rfl rfl rfl
  refine x_assign hA (fun ac hA => ?_) rfl rfl rfl rfl rfl
  refine wpList_nil ?_
  refine hK2 _ _ ?_
  refine wp_ret ?_
  refine hQ _ _ ?_
  refine lv Tryd.results71 hA rfl ?_
  exact ⟨g, rfl, hS⟩
theorem F_slices_Sorted {r w : World} {L : List HP} (xs : List (List UInt8)) {g : Nat} {A : Option Addr} {n c : Nat} {y : List (List UInt8)} (hF : slices_Sorted_string xs = some y) (ha : RdL L kS A n c xs) (hS : SH r (blk g 91 [.slice A n c] :: L) w) :
    Ret Tryd.prog 70 #[.func (.func 86) #[] #[.pointer (some ⟨g, 0, none⟩)]] w fun v w' => ∃ (A' : Option Addr) (n' c' : Nat), v = .slice A' n' c' ∧ SH r (own kS 9 A' n' c' y :: L) w' := by
  obtain ⟨hsz, hF⟩ := chk_some hF
  cases hF
  obtain ⟨S1, S2, h1, h2, hd, hA, hL⟩ := hS.head
  have hg := hA.2
  have hgl : g < w.heap.size := (Array.getElem?_eq_some_iff.1 hg).1
  have hln := ha.ln
  subst hln
  refine Calls.mono (sorted_values g w A c xs hsz hgl (by simp [World.cell?, hg]) fun hpos => ?_) ?_
  · obtain ⟨ad, e, hr⟩ := ha.rd w S2 hL hpos
    have hc : ∀ j x, xs[j]? = some x → w.cell? (ad.add j) = some (encStr x) := fun j x hx => by
      obtain ⟨cs, hV, h3⟩ := hr j x hx
      have hV' : cs = [str x] := hV
      subst hV'
      have := h3 0 (str x) rfl
      rw [show j * kS.sz + 0 = j from by show j * 1 + 0 = j; omega] at this
      exact this
    obtain ⟨x, hx⟩ : ∃ x, xs[0]? = some x := ⟨_, List.getElem?_eq_getElem hpos⟩
    have h0 := hc 0 x hx
    obtain ⟨b, off, sp⟩ := ad
    have hsp : sp = none := by simpa [Addr.add] using World.cell?_spot h0
    subst hsp
    refine ⟨b, off, e, ?_, fun j x hx => ?_⟩
    · have : w.cell? ⟨b, off, none⟩ = some (encStr x) := by simpa [Addr.add] using h0
      unfold World.cell? at this
      split at this
      · rename_i hq; exact (Array.getElem?_eq_some_iff.1 hq).1
      · cases this
    · have := hc j x hx
      unfold Addr.add at this
      split at this
      · rename_i hj; subst hj; exact this
      · exact this
  · rintro ev w' ⟨v, rfl, hr, _, hb⟩
    obtain ⟨A', n', c', rfl, hS'⟩ := hS.tail.newrow (d := kS) (xs := xs.mergeSort fun x y => decide (x ≤ y)) hb (by rw [List.length_mergeSort]; exact hr) (lay_kS _)
    exact ⟨_, rfl, A', n', c', rfl, hS'⟩
theorem F_slices_Compact {r w : World} {L : List HP} (xs : List (List UInt8)) {A : Option Addr} {n c : Nat} {y : List (List UInt8)} (hF : slices_Compact_string xs = some y) (hS : SH r (own kS 9 A n c xs :: L) w) :
    Ret Tryd.prog 69 #[.slice A n c] w fun v w' => ∃ (A' : Option Addr) (n' c' : Nat), v = .slice A' n' c' ∧ SH r (own kS 9 A' n' c' y :: L) w' := by
  cases hF
  obtain ⟨S1, S2, h1, h2, hd, hA, hL⟩ := hS.head
  obtain ⟨hn, ⟨inner, hLy, ho⟩, hg⟩ := hA
  subst hn
  have hle := own_le (d := kS) (e := 9) ⟨rfl, ⟨inner, hLy, ho⟩, hg⟩
  obtain rfl := lay_kS_eq hLy
  rcases ho.2 with ⟨hv, h0⟩ | ⟨g, cap, cur, hv, hg0, hh, hnc, hcm, hs, ht⟩
  · injection hv with e1 e2 e3
    subst e1; subst e3
    have hx : xs = [] := List.eq_nil_of_length_eq_zero h0
    subst hx
    have cC := Any.slices_Compact_string_empty Tryd.compactL none 0 w
    change Calls Tryd.prog 69 _ _ _ at cC
    refine cC.mono ?_
    rintro ev w' ⟨rfl, rfl⟩
    exact ⟨_, rfl, none, 0, 0, rfl, hS⟩
  · injection hv with e1 e2 e3
    subst e1; subst e3
    have hH : Go.Sort.Holds encStr w g 0 xs.toArray := holds_of_block hh (by rw [show xs.length * kS.sz = xs.length from by show _ * 1 = _; omega] at ht; exact ht)
    have cC := Any.slices_Compact_string Tryd.compactL g 0 c xs w hH (by unfold maxLen at hcm; omega) hnc
    change Calls Tryd.prog 69 _ _ _ at cC
    refine cC.mono ?_
    rintro ev w' ⟨rfl, q, rfl⟩
    have hcl : (Lib.compact xs).length ≤ xs.length := compact_len xs
    refine ⟨_, rfl, some ⟨g, 0, none⟩, (Lib.compact xs).length, c, rfl, ?_⟩
    have hr := ownsRow_sorted (w := w) (base := 0) (n := q) (os := #[]) (ss := xs) (ts := Lib.compact xs ++ List.replicate (xs.length - (Lib.compact xs).length) []) (by simp; omega) (Nat.zero_le _) hh hnc hcm hs
    rw [Go.Sort.grow_empty] at hr
    have hgb := grownBy_sorted (w := w) (g := g) (n := q) (os := #[]) (Lib.compact xs ++ List.replicate (xs.length - (Lib.compact xs).length) ([] : List UInt8)).toArray
    rw [Go.Sort.grow_empty] at hgb
    obtain ⟨q1, q2, q3, q4, q5⟩ := hgb
    refine hS.upd (Ls := [own kS 9 (some ⟨g, 0, none⟩) (Lib.compact xs).length c (Lib.compact xs)]) h1 h2 hd hL q1 q2 q3 q4 (fun k hk hnk => q5 k hk fun e => hnk (by cases e; exact hg g rfl)) fun S hSS _ _ => ?_
    refine ⟨S, fun _ => False, fun k hk => hk, fun k hk => hk.elim, fun k _ hk => hk, ⟨rfl, ⟨_, lay_kS _, ?_⟩, fun k hk => by cases hk; exact hSS g (hg g rfl)⟩, trivial⟩
    refine ⟨by simp [kS], ?_⟩
    rcases hr.2 with ⟨hv2, _⟩ | ⟨g2, cap2, cur2, hv2, _, hh2, hnc2, hcm2, hs2, ht2⟩
    · cases hv2
    · injection hv2 with e1 e2 e3
      injection e1 with e1
      injection e1 with e1
      subst e1; subst e3
      refine .inr ⟨g, c, cur2, rfl, Nat.zero_le _, hh2, by omega, hcm2, hs2, ?_⟩
      have h5 := congrArg (List.take (Lib.compact xs).length) ht2
      rw [List.take_take, Nat.min_eq_left (by omega), List.map_append, List.take_left' (by simp)] at h5
      rw [show (Lib.compact xs).length * kS.sz = (Lib.compact xs).length from by show _ * 1 = _; omega]
      exact h5
end Go.Proofs.YteodeedejjcmgaaDoor.M
namespace Go.Proofs.YteodeedejjcmgaaDoor.M
open Go Go.RowKit Go.Proofs.YteodeedejjcmgaaDoor.E
set_option linter.unusedVariables false
set_option linter.unusedSimpArgs false
noncomputable def cmp_isNaN_string (a0 : (List UInt8)) : Option (Bool) :=
  some (!(a0 == a0))
noncomputable def slices_isNaN_string (a0 : (List UInt8)) : Option (Bool) :=
  some (!(a0 == a0))
noncomputable def cmp_Less_string (a0 : (List UInt8)) (a1 : (List UInt8)) : Option (Bool) :=
  (cmp_isNaN_string a0).bind fun y103 => (if y103 = true then ((cmp_isNaN_string a1).bind fun y106 => (if (!y106) = true then (some true) else (some (Op.bytesLess a0 a1)))) else (some (Op.bytesLess a0 a1)))
noncomputable def slices_BinarySearch_string_string_b1 (a0 : (List (List UInt8))) (a1 : (List UInt8)) (x520 : Int) : Option (Int × Bool) :=
  if (decide (x520 < (a0.length : Int))) = true then ((at_ a0 x520).bind fun x523 => (if (x523 == a1) = true then (some (x520, true)) else ((slices_isNaN_string x523).bind fun y528 => (if y528 = true then ((slices_isNaN_string a1).bind fun y531 => (some (x520, y531))) else (some (x520, false)))))) else (some (x520, false))
noncomputable def slices_BinarySearch_string_string_x1_0 (a0 : (List (List UInt8))) (a1 : (List UInt8)) (x625 : Int) : Option (Int × Bool) :=
  slices_BinarySearch_string_string_b1 a0 a1 x625
noncomputable def slices_BinarySearch_string_string_b2 (x649 : Int) (x650 : Int) : Option ((Int × Int) ⊕ ((Int))) :=
  some (.inl (x649, x650))
noncomputable def slices_BinarySearch_string_string_l1 (a0 : (List (List UInt8))) (a1 : (List UInt8)) (x578 : Int) (x579 : Int) : Option ((Int × Int) ⊕ ((Int))) :=
  if (decide (x578 < x579)) = true then (ltt (IntKind.i64.wrap (x578 + x579)) fun x652 => (ltt (IntKind.u64.wrap x652) fun x654 => (ltt (ishr .u64 x654 1) fun x656 => (ltt (IntKind.i64.wrap x656) fun x658 => ((at_ a0 x658).bind fun x661 => ((cmp_Less_string x661 a1).bind fun y664 => (if y664 = true then (ltt (IntKind.i64.wrap (x658 + 1)) fun x667 => (slices_BinarySearch_string_string_b2 x667 x579)) else (slices_BinarySearch_string_string_b2 x578 x658)))))))) else (some (.inr (x578)))
noncomputable def slices_BinarySearch_string_string (a0 : (List (List UInt8))) (a1 : (List UInt8)) : Option (Int × Bool) :=
  (loop (fun s => slices_BinarySearch_string_string_l1 a0 a1 s.1 s.2) (0, (a0.length : Int))).bind fun t => slices_BinarySearch_string_string_x1_0 a0 a1 t
noncomputable def column_Texts_b2 (l336 : (List Int)) (l606 : (List Int)) : Option ((List Int)) :=
  (column_Ints l606).bind fun y611 => (chk (l336.length + y611.length ≤ 140737488355328 / 1) (some (l336 ++ y611)))
noncomputable def column_Texts_x1_2 (l336 : (List Int)) (l681 : (List Int)) : Option ((List Int)) :=
  column_Texts_b2 l336 l681
noncomputable def column_Texts_l1 (a0 : (List (List UInt8))) (y109 : (List (List UInt8))) (l652 : (List Int)) (x656 : Int) : Option (((List Int) × Int) ⊕ (((List Int)))) :=
  if (decide (x656 < (a0.length : Int))) = true then ((at_ a0 x656).bind fun x692 => ((slices_BinarySearch_string_string y109 x692).bind fun y696 => (chk (l652.length + [y696.1].length ≤ 140737488355328 / 8) (ltt (IntKind.i64.wrap (x656 + 1)) fun x703 => (some (.inl (l652 ++ [y696.1], x703))))))) else (some (.inr (l652)))
noncomputable def column_Texts_b1 (a0 : (List (List UInt8))) (y109 : (List (List UInt8))) (l336 : (List Int)) : Option ((List Int)) :=
  (loop (fun s => column_Texts_l1 a0 y109 s.1 s.2) ([], 0)).bind fun t => column_Texts_x1_2 l336 t
noncomputable def column_Texts_x2_0 (a0 : (List (List UInt8))) (y109 : (List (List UInt8))) (l752 : (List Int)) : Option ((List Int)) :=
  column_Texts_b1 a0 y109 l752
noncomputable def column_Texts_l2 (y109 : (List (List UInt8))) (l726 : (List Int)) (x730 : Int) : Option (((List Int) × Int) ⊕ (((List Int)))) :=
  if (decide (x730 < (y109.length : Int))) = true then ((at_ y109 x730).bind fun x763 => ((column_Text l726 x763).bind fun y766 => (ltt (IntKind.i64.wrap (x730 + 1)) fun x771 => (some (.inl (y766, x771)))))) else (some (.inr (l726)))
noncomputable def column_Texts (a0 : (List (List UInt8))) : Option ((List Int)) :=
  (slices_Sorted_string a0).bind fun y104 => ((slices_Compact_string y104).bind fun y109 => (ltt (IntKind.u64.wrap (y109.length : Int)) fun x115 => ((column_Uint [] x115).bind fun y117 => ((loop (fun s => column_Texts_l2 y109 s.1 s.2) (y117, 0)).bind fun t => column_Texts_x2_0 a0 y109 t))))
end Go.Proofs.YteodeedejjcmgaaDoor.M
namespace Go.Proofs.YteodeedejjcmgaaDoor.M
open Go Go.RowKit Go.Proofs.YteodeedejjcmgaaDoor.E
set_option linter.unusedVariables false
set_option maxRecDepth 100000
set_option maxHeartbeats 4000000
set_option linter.unusedSimpArgs false
theorem F_cmp_isNaN_string {r : World} {L : List HP} {w : World} (a0 : (List UInt8)) {y : (Bool)} (hF : cmp_isNaN_string a0 = some y) (hS : SH r (L) w) :
  Ret Tryd.prog 101 #[str a0] w fun v w' => v = .bool y ∧ SH r (L) w' := by
 refine enter Tryd.func101 rfl Tryd.ntmps101 [(0, str a0)] rfl (by simp) ?_
 intro ac hA Qf hQ hQn
 unfold cmp_isNaN_string at hF
 refine ws fun K101 hK101 => ?_
 refine x_m hA rfl fun ac hA => ?_
 refine wn (hK101 _ _ ?_)
 refine ws fun K102 hK102 => ?_
 refine x_m hA rfl fun ac hA => ?_
 refine x_m hA rfl fun ac hA => ?_
 refine x_v hA (r_neS rfl (hA.ev rfl) (hA.ev rfl)) rfl fun ac hA => ?_
 refine x_m hA rfl fun ac hA => ?_
 refine wn (hK102 _ _ ?_)
 refine wp_ret ?_
 cases hF
 refine hQ _ _ ?_
 refine lv Tryd.results101 hA rfl ?_
 exact ⟨rfl, hS⟩
theorem F_slices_isNaN_string {r : World} {L : List HP} {w : World} (a0 : (List UInt8)) {y : (Bool)} (hF : slices_isNaN_string a0 = some y) (hS : SH r (L) w) :
  Ret Tryd.prog 88 #[str a0] w fun v w' => v = .bool y ∧ SH r (L) w' := by
 refine enter Tryd.func88 rfl Tryd.ntmps88 [(0, str a0)] rfl (by simp) ?_
 intro ac hA Qf hQ hQn
 unfold slices_isNaN_string at hF
 refine ws fun K101 hK101 => ?_
 refine x_m hA rfl fun ac hA => ?_
 refine wn (hK101 _ _ ?_)
 refine ws fun K102 hK102 => ?_
 refine x_m hA rfl fun ac hA => ?_
 refine x_m hA rfl fun ac hA => ?_
 refine x_v hA (r_neS rfl (hA.ev rfl) (hA.ev rfl)) rfl fun ac hA => ?_
 refine x_m hA rfl fun ac hA => ?_
 refine wn (hK102 _ _ ?_)
 refine wp_ret ?_
 cases hF
 refine hQ _ _ ?_
 refine lv Tryd.results88 hA rfl ?_
 exact ⟨rfl, hS⟩
theorem F_cmp_Less_string {r : World} {L : List HP} {w : World} (a0 : (List UInt8)) (a1 : (List UInt8)) {y : (Bool)} (hF : cmp_Less_string a0 a1 = some y) (hS : SH r (L) w) :
  Ret Tryd.prog 87 #[str a0, str a1] w fun v w' => v = .bool y ∧ SH r (L) w' := by
 refine enter Tryd.func87 rfl Tryd.ntmps87 [(0, str a0), (1, str a1)] rfl (by simp) ?_
 intro ac hA Qf hQ hQn
 unfold cmp_Less_string at hF
 refine ws fun K101 hK101 => ?_
 refine x_m hA rfl fun ac hA => ?_
 refine wn (hK101 _ _ ?_)
 refine ws fun K102 hK102 => ?_
 refine x_m hA rfl fun ac hA => ?_
 obtain ⟨y103, h104, hF⟩ := bnd hF
 refine x_call en101 hA (F_cmp_isNaN_string (L := L) a0 h104 hS) (fun v ac w hR hA => ?_) rfl rfl rfl rfl rfl
 obtain ⟨rfl, hS⟩ := hR
 refine x_m hA rfl fun ac hA => ?_
 refine bcase (b := y103) (fun hb105 => ?_) fun hb105 => ?_
 ·replace hF := ift hb105 hF
  refine x_on hb105 hA ?_ rfl rfl rfl
  refine x_m hA rfl fun ac hA => ?_
  refine x_on hb105 hA ?_ rfl rfl rfl
  obtain ⟨y106, h107, hF⟩ := bnd hF
  refine x_call en101 hA (F_cmp_isNaN_string (L := L) a1 h107 hS) (fun v ac w hR hA => ?_) rfl rfl rfl rfl rfl
  obtain ⟨rfl, hS⟩ := hR
  refine x_on hb105 hA ?_ rfl rfl rfl
  refine x_v hA (r_not rfl (hA.ev rfl)) rfl fun ac hA => ?_
  refine x_pickt hb105 hA (fun ac hA => ?_) rfl rfl rfl rfl rfl rfl
  refine x_m hA rfl fun ac hA => ?_
  refine bcase (b := !y106) (fun hb108 => ?_) fun hb108 => ?_
  ·replace hF := ift hb108 hF
   refine x_off hb108 hA (fun ac hA => ?_) rfl rfl rfl rfl rfl
   refine x_off hb108 hA (fun ac hA => ?_) rfl rfl rfl rfl rfl
   refine x_off hb108 hA (fun ac hA => ?_) rfl rfl rfl rfl rfl
   refine x_pickt hb108 hA (fun ac hA => ?_) rfl rfl rfl rfl rfl rfl
   refine x_m hA rfl fun ac hA => ?_
   refine wn (hK102 _ _ ?_)
   refine wp_ret ?_
   cases hF
   refine hQ _ _ ?_
   refine lv Tryd.results87 hA rfl ?_
   exact ⟨rfl, hS⟩
  replace hF := iff' hb108 hF
  refine x_on hb108 hA ?_ rfl rfl rfl
  refine x_m hA rfl fun ac hA => ?_
  refine x_on hb108 hA ?_ rfl rfl rfl
  refine x_m hA rfl fun ac hA => ?_
  refine x_on hb108 hA ?_ rfl rfl rfl
  refine x_v hA (r_ltS rfl (hA.ev rfl) (hA.ev rfl)) rfl fun ac hA => ?_
  refine x_pickf hb108 hA (fun ac hA => ?_) rfl rfl rfl rfl rfl rfl
  refine x_m hA rfl fun ac hA => ?_
  refine wn (hK102 _ _ ?_)
  refine wp_ret ?_
  cases hF
  refine hQ _ _ ?_
  refine lv Tryd.results87 hA rfl ?_
  exact ⟨rfl, hS⟩
 replace hF := iff' hb105 hF
 refine x_off hb105 hA (fun ac hA => ?_) rfl rfl rfl rfl rfl
 refine x_off hb105 hA (fun ac hA => ?_) rfl rfl rfl rfl rfl
 refine x_off hb105 hA (fun ac hA => ?_) rfl rfl rfl rfl rfl
 refine x_pickf hb105 hA (fun ac hA => ?_) rfl rfl rfl rfl rfl rfl
 refine x_m hA rfl fun ac hA => ?_
 refine x_on rfl hA ?_ rfl rfl rfl
 refine x_m hA rfl fun ac hA => ?_
 refine x_on rfl hA ?_ rfl rfl rfl
 refine x_m hA rfl fun ac hA => ?_
 refine x_on rfl hA ?_ rfl rfl rfl
 refine x_v hA (r_ltS rfl (hA.ev rfl) (hA.ev rfl)) rfl fun ac hA => ?_
 refine x_pickf rfl hA (fun ac hA => ?_) rfl rfl rfl rfl rfl rfl
 refine x_m hA rfl fun ac hA => ?_
 refine wn (hK102 _ _ ?_)
 refine wp_ret ?_
 cases hF
 refine hQ _ _ ?_
 refine lv Tryd.results87 hA rfl ?_
 exact ⟨rfl, hS⟩
theorem F_slices_BinarySearch_string_string {r : World} {L : List HP} {w : World} (a0 : (List (List UInt8))) (a1 : (List UInt8)) (A0 : Option Addr) (n0 : Nat) (c0 : Nat) {y : (Int × Bool)} (hF : slices_BinarySearch_string_string a0 a1 = some y) (ha0 : RdL L kS A0 n0 c0 a0) (hS : SH r (L) w) :
  Ret Tryd.prog 72 #[.slice A0 n0 c0, str a1] w fun v w' => v = .tuple #[(.int .i64 y.1), (.bool y.2)] ∧ SH r (L) w' := by
 refine enter Tryd.func72 rfl Tryd.ntmps72 [(0, .slice A0 n0 c0), (1, str a1)] rfl (by simp) ?_
 intro ac hA Qf hQ hQn
 unfold slices_BinarySearch_string_string at hF
 refine ws fun K101 hK101 => ?_
 refine x_m hA rfl fun ac hA => ?_
 refine x_m hA rfl fun ac hA => ?_
 refine wn (hK101 _ _ ?_)
 refine ws fun K102 hK102 => ?_
 refine x_m hA rfl fun ac hA => ?_
 refine x_len Tryd.underlying91 (hS.rdl 0 ha0 rfl).2.1 hA (fun ac hA => ?_) rfl rfl rfl rfl rfl
 refine x_m hA rfl fun ac hA => ?_
 refine wn (hK102 _ _ ?_)
 refine ws fun K103 hK103 => ?_
 refine x_m hA rfl fun ac hA => ?_
 refine x_m hA rfl fun ac hA => ?_
 refine x_m hA rfl fun ac hA => ?_
 refine wn (hK103 _ _ ?_)
 refine wp_seq_k fun K104 hK104 => ?_
 refine wp_block_k fun Kx382 hKx382 => ?_
 have hb1 : ∀ (x520 : Int), slices_BinarySearch_string_string_b1 a0 a1 x520 = some y → ∀ (ac : Act) (w : World), FR 54 [] ac [(0, .slice A0 n0 c0), (1, str a1), (6, .int .i64 (a0.length : Int)), (7, .int .i64 x520)] → SH r (L) w → Kx382 ac w := by
  intro x520 hF ac w hA hS
  unfold slices_BinarySearch_string_string_b1 at hF
  refine hKx382 _ _ ?_
  refine hK104 _ _ ?_
  refine ws fun K521 hK521 => ?_
  refine x_m hA rfl fun ac hA => ?_
  refine x_m hA rfl fun ac hA => ?_
  refine x_m hA rfl fun ac hA => ?_
  refine x_v hA (r_ltI rfl (hA.ev rfl) (hA.ev rfl)) rfl fun ac hA => ?_
  refine x_m hA rfl fun ac hA => ?_
  refine bcase (b := decide (x520 < (a0.length : Int))) (fun hb522 => ?_) fun hb522 => ?_
  ·replace hF := ift hb522 hF
   refine x_on hb522 hA ?_ rfl rfl rfl
   refine x_m hA rfl fun ac hA => ?_
   refine x_on hb522 hA ?_ rfl rfl rfl
   refine x_m hA rfl fun ac hA => ?_
   refine x_on hb522 hA ?_ rfl rfl rfl
   obtain ⟨x523, h524, hF⟩ := bnd hF
   refine x_ia Tryd.underlying91 sz9 (hS.rdl 0 ha0 rfl) h524 hA (fun ac hA => ?_) rfl rfl rfl rfl rfl rfl
   refine x_on hb522 hA ?_ rfl rfl rfl
   obtain ⟨cs, hV, hc525⟩ := el (hS.rdl 0 ha0 rfl) h524
   obtain rfl := hV
   refine x_ld Tryd.underlying9 (hc525 0 _ rfl) hA (fun ac hA => ?_) rfl rfl rfl rfl rfl rfl
   refine x_on hb522 hA ?_ rfl rfl rfl
   refine x_m hA rfl fun ac hA => ?_
   refine x_on hb522 hA ?_ rfl rfl rfl
   refine x_v hA (r_eqS rfl (hA.ev rfl) (hA.ev rfl)) rfl fun ac hA => ?_
   refine x_on hb522 hA ?_ rfl rfl rfl
   refine x_m hA rfl fun ac hA => ?_
   refine bcase (b := x523 == a1) (fun hb526 => ?_) fun hb526 => ?_
   ·replace hF := ift hb526 hF
    refine x_off hb526 hA (fun ac hA => ?_) rfl rfl rfl rfl rfl
    refine x_off hb526 hA (fun ac hA => ?_) rfl rfl rfl rfl rfl
    refine x_off hb526 hA (fun ac hA => ?_) rfl rfl rfl rfl rfl
    refine x_off hb526 hA (fun ac hA => ?_) rfl rfl rfl rfl rfl
    refine x_off hb526 hA (fun ac hA => ?_) rfl rfl rfl rfl rfl
    refine x_off hb526 hA (fun ac hA => ?_) rfl rfl rfl rfl rfl
    refine x_offU hA (fun ac hA => ?_) rfl rfl rfl rfl rfl
    refine x_offU hA (fun ac hA => ?_) rfl rfl rfl rfl rfl
    refine x_off hb526 hA (fun ac hA => ?_) rfl rfl rfl rfl rfl
    refine x_on hb522 hA ?_ rfl rfl rfl
    refine x_pickt hb526 hA (fun ac hA => ?_) rfl rfl rfl rfl rfl rfl
    refine x_pickt hb522 hA (fun ac hA => ?_) rfl rfl rfl rfl rfl rfl
    refine x_m hA rfl fun ac hA => ?_
    refine x_m hA rfl fun ac hA => ?_
    refine wn (hK521 _ _ ?_)
    refine wp_ret ?_
    cases hF
    refine hQ _ _ ?_
    refine lv2 Tryd.results72 hA rfl rfl ?_
    exact ⟨rfl, hS⟩
   replace hF := iff' hb526 hF
   refine x_on hb526 hA ?_ rfl rfl rfl
   refine x_m hA rfl fun ac hA => ?_
   refine x_on hb526 hA ?_ rfl rfl rfl
   refine x_m hA rfl fun ac hA => ?_
   refine x_on hb526 hA ?_ rfl rfl rfl
   refine x_ia Tryd.underlying91 sz9 (hS.rdl 0 ha0 rfl) h524 hA (fun ac hA => ?_) rfl rfl rfl rfl rfl rfl
   refine x_on hb526 hA ?_ rfl rfl rfl
   obtain ⟨cs, hV, hc527⟩ := el (hS.rdl 0 ha0 rfl) h524
   obtain rfl := hV
   refine x_ld Tryd.underlying9 (hc527 0 _ rfl) hA (fun ac hA => ?_) rfl rfl rfl rfl rfl rfl
   refine x_on hb526 hA ?_ rfl rfl rfl
   obtain ⟨y528, h529, hF⟩ := bnd hF
   refine x_call en88 hA (F_slices_isNaN_string (L := L) x523 h529 hS) (fun v ac w hR hA => ?_) rfl rfl rfl rfl rfl
   obtain ⟨rfl, hS⟩ := hR
   refine x_on hb526 hA ?_ rfl rfl rfl
   refine x_m hA rfl fun ac hA => ?_
   refine bcase (b := y528) (fun hb530 => ?_) fun hb530 => ?_
   ·replace hF := ift hb530 hF
    refine x_on hb530 hA ?_ rfl rfl rfl
    refine x_m hA rfl fun ac hA => ?_
    refine x_on hb530 hA ?_ rfl rfl rfl
    obtain ⟨y531, h532, hF⟩ := bnd hF
    refine x_call en88 hA (F_slices_isNaN_string (L := L) a1 h532 hS) (fun v ac w hR hA => ?_) rfl rfl rfl rfl rfl
    obtain ⟨rfl, hS⟩ := hR
    refine x_on hb526 hA ?_ rfl rfl rfl
    refine x_pickt hb530 hA (fun ac hA => ?_) rfl rfl rfl rfl rfl rfl
    refine x_on hb522 hA ?_ rfl rfl rfl
    refine x_pickf hb526 hA (fun ac hA => ?_) rfl rfl rfl rfl rfl rfl
    refine x_pickt hb522 hA (fun ac hA => ?_) rfl rfl rfl rfl rfl rfl
    refine x_m hA rfl fun ac hA => ?_
    refine x_m hA rfl fun ac hA => ?_
    refine wn (hK521 _ _ ?_)
    refine wp_ret ?_
    cases hF
    refine hQ _ _ ?_
    refine lv2 Tryd.results72 hA rfl rfl ?_
    exact ⟨rfl, hS⟩
   replace hF := iff' hb530 hF
   refine x_off hb530 hA (fun ac hA => ?_) rfl rfl rfl rfl rfl
   refine x_off hb530 hA (fun ac hA => ?_) rfl rfl rfl rfl rfl
   refine x_on hb526 hA ?_ rfl rfl rfl
   refine x_pickf hb530 hA (fun ac hA => ?_) rfl rfl rfl rfl rfl rfl
   refine x_on hb522 hA ?_ rfl rfl rfl
   refine x_pickf hb526 hA (fun ac hA => ?_) rfl rfl rfl rfl rfl rfl
   refine x_pickt hb522 hA (fun ac hA => ?_) rfl rfl rfl rfl rfl rfl
   refine x_m hA rfl fun ac hA => ?_
   refine x_m hA rfl fun ac hA => ?_
   refine wn (hK521 _ _ ?_)
   refine wp_ret ?_
   cases hF
   refine hQ _ _ ?_
   refine lv2 Tryd.results72 hA rfl rfl ?_
   exact ⟨rfl, hS⟩
  replace hF := iff' hb522 hF
  refine x_off hb522 hA (fun ac hA => ?_) rfl rfl rfl rfl rfl
  refine x_off hb522 hA (fun ac hA => ?_) rfl rfl rfl rfl rfl
  refine x_off hb522 hA (fun ac hA => ?_) rfl rfl rfl rfl rfl
  refine x_off hb522 hA (fun ac hA => ?_) rfl rfl rfl rfl rfl
  refine x_off hb522 hA (fun ac hA => ?_) rfl rfl rfl rfl rfl
  refine x_off hb522 hA (fun ac hA => ?_) rfl rfl rfl rfl rfl
  refine x_off hb522 hA (fun ac hA => ?_) rfl rfl rfl rfl rfl
  refine x_offU hA (fun ac hA => ?_) rfl rfl rfl rfl rfl
  refine x_offU hA (fun ac hA => ?_) rfl rfl rfl rfl rfl
  refine x_offU hA (fun ac hA => ?_) rfl rfl rfl rfl rfl
  refine x_offU hA (fun ac hA => ?_) rfl rfl rfl rfl rfl
  refine x_offU hA (fun ac hA => ?_) rfl rfl rfl rfl rfl
  refine x_offU hA (fun ac hA => ?_) rfl rfl rfl rfl rfl
  refine x_offU hA (fun ac hA => ?_) rfl rfl rfl rfl rfl
  refine x_offU hA (fun ac hA => ?_) rfl rfl rfl rfl rfl
  refine x_offU hA (fun ac hA => ?_) rfl rfl rfl rfl rfl
  refine x_off hb522 hA (fun ac hA => ?_) rfl rfl rfl rfl rfl
  refine x_pickf hb522 hA (fun ac hA => ?_) rfl rfl rfl rfl rfl rfl
  refine x_m hA rfl fun ac hA => ?_
  refine x_m hA rfl fun ac hA => ?_
  refine wn (hK521 _ _ ?_)
  refine wp_ret ?_
  cases hF
  refine hQ _ _ ?_
  refine lv2 Tryd.results72 hA rfl rfl ?_
  exact ⟨rfl, hS⟩
 obtain ⟨t625, hl625, hF⟩ := bnd hF
 have hx625_0 : ∀ (x625 : Int), (x625) = t625 → ∀ (ac : Act) (w : World), FR 54 [] ac [(0, .slice A0 n0 c0), (1, str a1), (6, .int .i64 (a0.length : Int)), (7, .int .i64 x625)] → SH r (L) w → Kx382 ac w := by
  intro x625 ht ac w hA hS
  subst ht
  replace hF : slices_BinarySearch_string_string_x1_0 a0 a1 x625 = some y := hF
  unfold slices_BinarySearch_string_string_x1_0 at hF
  exact hb1 x625 hF ac w (hA.sub _ rfl) hS
 refine wp_loop_fn hl625 (fun s ac w => FR 54 [] ac [(0, .slice A0 n0 c0), (1, str a1), (6, .int .i64 (a0.length : Int)), (7, .int .i64 s.1), (8, .int .i64 s.2)] ∧ SH r (L) w) ⟨hA.sub _ rfl, hS⟩ ?_
 intro N625 s625 o625 hF N625_ T625_ ac w hLab
 obtain ⟨x578, x579⟩ := s625
 replace hF : slices_BinarySearch_string_string_l1 a0 a1 x578 x579 = some o625 := hF
 unfold slices_BinarySearch_string_string_l1 at hF
 try dsimp only at hLab
 obtain ⟨hA, hS⟩ := hLab
 refine wp_seq_k fun K627 hK627 => ?_
 refine ws fun K628 hK628 => ?_
 refine x_m hA rfl fun ac hA => ?_
 refine x_m hA rfl fun ac hA => ?_
 refine x_v hA (r_ltI rfl (hA.ev rfl) (hA.ev rfl)) rfl fun ac hA => ?_
 refine wn (hK628 _ _ ?_)
 refine c_if hA rfl (fun hb629 => ?_) fun hb629 => ?_
 ·replace hF := ift hb629 hF
  refine wp_skip ?_
  refine hK627 _ _ ?_
  refine wp_block_k fun Kx630 hKx630 => ?_
  have hb2 : ∀ (x649 : Int) (x650 : Int), slices_BinarySearch_string_string_b2 x649 x650 = some o625 → ∀ (ac : Act) (w : World), FR 54 [] ac [(0, .slice A0 n0 c0), (1, str a1), (6, .int .i64 (a0.length : Int)), (7, .int .i64 x649), (8, .int .i64 x650)] → SH r (L) w → Kx630 ac w := by
   intro x649 x650 hF ac w hA hS
   unfold slices_BinarySearch_string_string_b2 at hF
   refine hKx630 _ _ ?_
   cases hF
   exact ⟨_, N625_ _ rfl, hA.sub _ rfl, hS⟩
  refine ws fun K651 hK651 => ?_
  refine x_m hA rfl fun ac hA => ?_
  refine x_m hA rfl fun ac hA => ?_
  obtain ⟨x652, h653, hF⟩ := ltt_ hF
  refine x_v (v := .int .i64 x652) hA (rv_i h653 (r_add rfl (hA.ev rfl) (hA.ev rfl))) rfl fun ac hA => ?_
  obtain ⟨x654, h655, hF⟩ := ltt_ hF
  refine x_v (v := .int .u64 x654) hA (rv_i h655 (r_convI Tryd.underlying3 Tryd.underlying73 rfl (hA.ev rfl))) rfl fun ac hA => ?_
  obtain ⟨x656, h657, hF⟩ := ltt_ hF
  refine x_v (v := .int .u64 x656) hA (rv_i h657 (r_shr rfl (hA.ev rfl) (hA.ev rfl) (by decide))) rfl fun ac hA => ?_
  obtain ⟨x658, h659, hF⟩ := ltt_ hF
  refine x_v (v := .int .i64 x658) hA (rv_i h659 (r_convI Tryd.underlying73 Tryd.underlying3 rfl (hA.ev rfl))) rfl fun ac hA => ?_
  refine x_m hA rfl fun ac hA => ?_
  refine wn (hK651 _ _ ?_)
  refine ws fun K660 hK660 => ?_
  refine x_m hA rfl fun ac hA => ?_
  refine x_m hA rfl fun ac hA => ?_
  obtain ⟨x661, h662, hF⟩ := bnd hF
  refine x_ia Tryd.underlying91 sz9 (hS.rdl 0 ha0 rfl) h662 hA (fun ac hA => ?_) rfl rfl rfl rfl rfl rfl
  obtain ⟨cs, hV, hc663⟩ := el (hS.rdl 0 ha0 rfl) h662
  obtain rfl := hV
  refine x_ld Tryd.underlying9 (hc663 0 _ rfl) hA (fun ac hA => ?_) rfl rfl rfl rfl rfl rfl
  refine x_m hA rfl fun ac hA => ?_
  obtain ⟨y664, h665, hF⟩ := bnd hF
  refine x_call en87 hA (F_cmp_Less_string (L := L) x661 a1 h665 hS) (fun v ac w hR hA => ?_) rfl rfl rfl rfl rfl
  obtain ⟨rfl, hS⟩ := hR
  refine wn (hK660 _ _ ?_)
  refine c_if hA rfl (fun hb666 => ?_) fun hb666 => ?_
  ·replace hF := ift hb666 hF
   refine wp_reg ?_
   refine x_m hA rfl fun ac hA => ?_
   obtain ⟨x667, h668, hF⟩ := ltt_ hF
   refine x_v (v := .int .i64 x667) hA (rv_i h668 (r_add rfl (hA.ev rfl) (hA.ev rfl))) rfl fun ac hA => ?_
   refine x_m hA rfl fun ac hA => ?_
   refine wpList_nil ?_
   exact hb2 x667 x579 hF ac w (hA.sub _ rfl) hS
  replace hF := iff' hb666 hF
  refine wp_reg ?_
  refine x_m hA rfl fun ac hA => ?_
  refine x_m hA rfl fun ac hA => ?_
  refine wpList_nil ?_
  exact hb2 x578 x658 hF ac w (hA.sub _ rfl) hS
 replace hF := iff' hb629 hF
 refine wp_exit ?_
 cases hF
 exact hx625_0 x578 (T625_ _ rfl) ac w (hA.sub _ rfl) hS
theorem F_column_Texts {r : World} {L : List HP} {w : World} (a0 : (List (List UInt8))) (A0 : Option Addr) (n0 : Nat) (c0 : Nat) {y : ((List Int))} (hF : column_Texts a0 = some y) (ha0 : RdL L kS A0 n0 c0 a0) (hS : SH r (L) w) :
  Ret Tryd.prog 46 #[.slice A0 n0 c0] w fun v w' => ∃ (B0 : Option Addr) (m0 : Nat) (d0 : Nat), v = .slice B0 m0 d0 ∧ SH r (own (kI .u8) 5 B0 m0 d0 y :: L) w' := by
 refine enter Tryd.func46 rfl Tryd.ntmps46 [(0, .slice A0 n0 c0)] rfl (by simp) ?_
 intro ac hA Qf hQ hQn
 unfold column_Texts at hF
 refine ws fun K101 hK101 => ?_
 refine x_m hA rfl fun ac hA => ?_
 refine wn (hK101 _ _ ?_)
 refine ws fun K102 hK102 => ?_
 refine x_m hA rfl fun ac hA => ?_
 refine x_call en71 hA (F_slices_Values (L := L) (A := A0) (n := n0) (c := c0) hS) (fun v ac w hR hA => ?_) rfl rfl rfl rfl rfl
 obtain ⟨g103, rfl, hS⟩ := hR
 obtain ⟨y104, h105, hF⟩ := bnd hF
 refine x_call en70 hA (F_slices_Sorted (L := L) a0 h105 (RdL.sfx 0 rfl ha0) hS) (fun v ac w hR hA => ?_) rfl rfl rfl rfl rfl
 obtain ⟨A106, n107, c108, rfl, hS⟩ := hR
 obtain ⟨y109, h110, hF⟩ := bnd hF
 refine x_call en69 hA (F_slices_Compact (L := L) y104 h110 hS) (fun v ac w hR hA => ?_) rfl rfl rfl rfl rfl
 obtain ⟨A111, n112, c113, rfl, hS⟩ := hR
 refine x_m hA rfl fun ac hA => ?_
 refine wn (hK102 _ _ ?_)
 refine ws fun K114 hK114 => ?_
 refine x_m hA rfl fun ac hA => ?_
 refine x_len Tryd.underlying91 (hS.rd 0 rfl).2.1 hA (fun ac hA => ?_) rfl rfl rfl rfl rfl
 obtain ⟨x115, h116, hF⟩ := ltt_ hF
 refine x_v (v := .int .u64 x115) hA (rv_i h116 (r_convI Tryd.underlying3 Tryd.underlying31 rfl (hA.ev rfl))) rfl fun ac hA => ?_
 replace hS := SH.nil_own (d := (kI .u8)) (e := 5) hS
 obtain ⟨y117, h118, hF⟩ := bnd hF
 refine x_call en48 hA (F_column_Uint (L := own kS 9 A111 n112 c113 y109 :: L) [] x115 none 0 0 h118 hS) (fun v ac w hR hA => ?_) rfl rfl rfl rfl rfl
 obtain ⟨B119, m120, d121, rfl, hS⟩ := hR
 refine x_m hA rfl fun ac hA => ?_
 refine wn (hK114 _ _ ?_)
 refine wp_seq_k fun K122 hK122 => ?_
 refine ws fun K266 hK266 => ?_
 refine x_m hA rfl fun ac hA => ?_
 refine x_len Tryd.underlying91 (hS.rd 1 rfl).2.1 hA (fun ac hA => ?_) rfl rfl rfl rfl rfl
 refine x_m hA rfl fun ac hA => ?_
 refine wn (hK266 _ _ ?_)
 refine wp_block_k fun Kx267 hKx267 => ?_
 have hb1 : ∀ (l336 : (List Int)), column_Texts_b1 a0 y109 l336 = some y → ∀ (A337 : Option Addr) (n338 : Nat) (c339 : Nat) (ac : Act) (w : World), FR 51 [] ac [(0, .slice A0 n0 c0), (3, .slice A111 n112 c113), (4, .slice A337 n338 c339)] → SH r (own kS 9 A111 n112 c113 y109 :: own (kI .u8) 5 A337 n338 c339 l336 :: L) w → Kx267 ac w := by
  intro l336 hF A337 n338 c339 ac w hA hS
  unfold column_Texts_b1 at hF
  refine hKx267 _ _ ?_
  refine hK122 _ _ ?_
  refine ws fun K340 hK340 => ?_
  refine x_m hA rfl fun ac hA => ?_
  refine wn (hK340 _ _ ?_)
  refine wp_seq_k fun K341 hK341 => ?_
  refine ws fun K519 hK519 => ?_
  refine x_m hA rfl fun ac hA => ?_
  refine x_len Tryd.underlying91 (hS.rdl 2 ha0 rfl).2.1 hA (fun ac hA => ?_) rfl rfl rfl rfl rfl
  refine x_m hA rfl fun ac hA => ?_
  refine wn (hK519 _ _ ?_)
  refine wp_block_k fun Kx520 hKx520 => ?_
  have hb2 : ∀ (l606 : (List Int)), column_Texts_b2 l336 l606 = some y → ∀ (A607 : Option Addr) (n608 : Nat) (c609 : Nat) (ac : Act) (w : World), FR 51 [] ac [(4, .slice A337 n338 c339), (7, .slice A607 n608 c609)] → SH r (own (kI .u8) 5 A337 n338 c339 l336 :: own (kI .i64) 2 A607 n608 c609 l606 :: L) w → Kx520 ac w := by
   intro l606 hF A607 n608 c609 ac w hA hS
   unfold column_Texts_b2 at hF
   refine hKx520 _ _ ?_
   refine hK341 _ _ ?_
   refine ws fun K610 hK610 => ?_
   refine x_m hA rfl fun ac hA => ?_
   refine x_m hA rfl fun ac hA => ?_
   obtain ⟨y611, h612, hF⟩ := bnd hF
   refine x_call en45 hA (F_column_Ints (L := own (kI .u8) 5 A337 n338 c339 l336 :: own (kI .i64) 2 A607 n608 c609 l606 :: L) l606 A607 n608 c609 h612 (RdL.own 1 rfl (hS.dropN 0)) hS) (fun v ac w hR hA => ?_) rfl rfl rfl rfl rfl
   obtain ⟨B613, m614, d615, rfl, hS⟩ := hR
   obtain ⟨h616, hF⟩ := chk_some hF
   have hr := hS.rd 0 rfl
   refine x_app 1 inf5 Tryd.underlying24 hA hS hr.1 hr.2.1 h616 rfl (fun A617 n618 c619 ac w hS hA => ?_) rfl rfl rfl rfl rfl rfl rfl rfl rfl
   refine x_m hA rfl fun ac hA => ?_
   refine wn (hK610 _ _ ?_)
   refine wp_ret ?_
   replace hS := hS.drop 1
   replace hS := hS.drop 1
   cases hF
   refine hQ _ _ ?_
   refine lv Tryd.results46 hA rfl ?_
   exact ⟨A617, n618, c619, rfl, hS⟩
  obtain ⟨t684, hl684, hF⟩ := bnd hF
  have hx684_2 : ∀ (l681 : (List Int)), (l681) = t684 → ∀ (A682 : Option Addr) (n683 : Nat) (c684 : Nat) (ac : Act) (w : World), FR 51 [] ac [(4, .slice A337 n338 c339), (7, .slice A682 n683 c684)] → SH r (own (kI .u8) 5 A337 n338 c339 l336 :: own (kI .i64) 2 A682 n683 c684 l681 :: L) w → Kx520 ac w := by
   intro l681 ht A682 n683 c684 ac w hA hS
   subst ht
   replace hF : column_Texts_x1_2 l336 l681 = some y := hF
   unfold column_Texts_x1_2 at hF
   exact hb2 l681 hF A682 n683 c684 ac w (hA.sub _ rfl) hS
  replace hS := SH.nil_own (d := (kI .i64)) (e := 2) hS
  replace hS := hS.pk 2
  replace hS := hS.pk 2
  refine wp_loop_fn hl684 (fun s ac w => ∃ (A653 : Option Addr) (n654 : Nat) (c655 : Nat), FR 51 [] ac [(3, .slice A111 n112 c113), (4, .slice A337 n338 c339), (7, .slice A653 n654 c655), (30, .slice A0 n0 c0), (31, .int .i64 (a0.length : Int)), (32, .int .i64 s.2)] ∧ SH r (own kS 9 A111 n112 c113 y109 :: own (kI .u8) 5 A337 n338 c339 l336 :: own (kI .i64) 2 A653 n654 c655 s.1 :: L) w) ⟨none, 0, 0, hA.sub _ rfl, hS⟩ ?_
  intro N684 s684 o684 hF N684_ T684_ ac w hLab
  obtain ⟨l652, x656⟩ := s684
  replace hF : column_Texts_l1 a0 y109 l652 x656 = some o684 := hF
  unfold column_Texts_l1 at hF
  try dsimp only at hLab
  obtain ⟨A653, n654, c655, hA, hS⟩ := hLab
  refine ws fun K686 hK686 => ?_
  refine x_v hA (r_ltI rfl (hA.ev rfl) (hA.ev rfl)) rfl fun ac hA => ?_
  refine wn (hK686 _ _ ?_)
  refine wp_seq_k fun K687 hK687 => ?_
  refine c_if hA rfl (fun hb688 => ?_) fun hb688 => ?_
  ·replace hF := ift hb688 hF
   refine wp_skip ?_
   refine hK687 _ _ ?_
   refine wp_seq_k fun K689 hK689 => ?_
   refine wp_block_k fun Kx690 hKx690 => ?_
   refine ws fun K691 hK691 => ?_
   obtain ⟨x692, h693, hF⟩ := bnd hF
   refine x_ia Tryd.underlying91 sz9 (hS.rdl 3 ha0 rfl) h693 hA (fun ac hA => ?_) rfl rfl rfl rfl rfl rfl
   obtain ⟨cs, hV, hc694⟩ := el (hS.rdl 3 ha0 rfl) h693
   obtain rfl := hV
   refine x_ld Tryd.underlying9 (hc694 0 _ rfl) hA (fun ac hA => ?_) rfl rfl rfl rfl rfl rfl
   refine x_m hA rfl fun ac hA => ?_
   refine wn (hK691 _ _ ?_)
   refine ws fun K695 hK695 => ?_
   refine x_m hA rfl fun ac hA => ?_
   refine x_m hA rfl fun ac hA => ?_
   obtain ⟨y696, h697, hF⟩ := bnd hF
   refine x_call en72 hA (F_slices_BinarySearch_string_string (L := own kS 9 A111 n112 c113 y109 :: own (kI .u8) 5 A337 n338 c339 l336 :: own (kI .i64) 2 A653 n654 c655 l652 :: L) y109 x692 A111 n112 c113 h697 (RdL.own 0 rfl (hS.dropN 0)) hS) (fun v ac w hR hA => ?_) rfl rfl rfl rfl rfl
   obtain ⟨rfl, hS⟩ := hR
   refine x_m hA rfl fun ac hA => ?_
   refine x_v hA (r_extract rfl (hA.ev rfl) rfl) rfl fun ac hA => ?_
   refine x_v hA (r_extract rfl (hA.ev rfl) rfl) rfl fun ac hA => ?_
   refine x_m hA rfl fun ac hA => ?_
   refine x_m hA rfl fun ac hA => ?_
   refine wn (hK695 _ _ ?_)
   refine wp_reg ?_
   refine x_m hA rfl fun ac hA => ?_
   refine x_m hA rfl fun ac hA => ?_
   refine x_bsl (d := (kI .i64)) (e := 2) (ps := #[(0, .int .i64 y696.1)]) (cells := [.int .i64 y696.1]) (xs := [y696.1]) (fun w => by kernel_rfl) rfl ⟨[.int .i64 y696.1], _, rfl, rfl, rfl⟩ hA hS (fun g698 ac w hS hA => ?_) rfl rfl rfl rfl rfl rfl
   obtain ⟨h699, hF⟩ := chk_some hF
   have hr := hS.rd 0 rfl
   refine x_app 3 inf2 Tryd.underlying90 hA hS hr.1 hr.2.1 h699 rfl (fun A700 n701 c702 ac w hS hA => ?_) rfl rfl rfl rfl rfl rfl rfl rfl rfl
   refine x_m hA rfl fun ac hA => ?_
   refine wpList_nil ?_
   refine hKx690 _ _ ?_
   refine hK689 _ _ ?_
   refine wp_reg ?_
   obtain ⟨x703, h704, hF⟩ := ltt_ hF
   refine x_v (v := .int .i64 x703) hA (rv_i h704 (r_add rfl (hA.ev rfl) (hA.ev rfl))) rfl fun ac hA => ?_
   refine x_m hA rfl fun ac hA => ?_
   refine wpList_nil ?_
   replace hS := hS.drop 1
   replace hS := hS.pk 2
   replace hS := hS.pk 2
   cases hF
   exact ⟨_, N684_ _ rfl, A700, n701, c702, hA.sub _ rfl, hS⟩
  replace hF := iff' hb688 hF
  refine wp_exit ?_
  replace hS := hS.drop 0
  cases hF
  exact hx684_2 l652 (T684_ _ rfl) A653 n654 c655 ac w (hA.sub _ rfl) hS
 obtain ⟨t755, hl755, hF⟩ := bnd hF
 have hx755_0 : ∀ (l752 : (List Int)), (l752) = t755 → ∀ (A753 : Option Addr) (n754 : Nat) (c755 : Nat) (ac : Act) (w : World), FR 51 [] ac [(0, .slice A0 n0 c0), (3, .slice A111 n112 c113), (4, .slice A753 n754 c755)] → SH r (own kS 9 A111 n112 c113 y109 :: own (kI .u8) 5 A753 n754 c755 l752 :: L) w → Kx267 ac w := by
  intro l752 ht A753 n754 c755 ac w hA hS
  subst ht
  replace hF : column_Texts_x2_0 a0 y109 l752 = some y := hF
  unfold column_Texts_x2_0 at hF
  exact hb1 l752 hF A753 n754 c755 ac w (hA.sub _ rfl) hS
 replace hS := hS.pk 1
 refine wp_loop_fn hl755 (fun s ac w => ∃ (A727 : Option Addr) (n728 : Nat) (c729 : Nat), FR 51 [] ac [(0, .slice A0 n0 c0), (3, .slice A111 n112 c113), (4, .slice A727 n728 c729), (20, .slice A111 n112 c113), (21, .int .i64 (y109.length : Int)), (22, .int .i64 s.2)] ∧ SH r (own kS 9 A111 n112 c113 y109 :: own (kI .u8) 5 A727 n728 c729 s.1 :: L) w) ⟨B119, m120, d121, hA.sub _ rfl, hS⟩ ?_
 intro N755 s755 o755 hF N755_ T755_ ac w hLab
 obtain ⟨l726, x730⟩ := s755
 replace hF : column_Texts_l2 y109 l726 x730 = some o755 := hF
 unfold column_Texts_l2 at hF
 try dsimp only at hLab
 obtain ⟨A727, n728, c729, hA, hS⟩ := hLab
 refine ws fun K757 hK757 => ?_
 refine x_v hA (r_ltI rfl (hA.ev rfl) (hA.ev rfl)) rfl fun ac hA => ?_
 refine wn (hK757 _ _ ?_)
 refine wp_seq_k fun K758 hK758 => ?_
 refine c_if hA rfl (fun hb759 => ?_) fun hb759 => ?_
 ·replace hF := ift hb759 hF
  refine wp_skip ?_
  refine hK758 _ _ ?_
  refine wp_seq_k fun K760 hK760 => ?_
  refine wp_block_k fun Kx761 hKx761 => ?_
  refine ws fun K762 hK762 => ?_
  obtain ⟨x763, h764, hF⟩ := bnd hF
  refine x_ia Tryd.underlying91 sz9 (hS.rd 0 rfl) h764 hA (fun ac hA => ?_) rfl rfl rfl rfl rfl rfl
  obtain ⟨cs, hV, hc765⟩ := el (hS.rd 0 rfl) h764
  obtain rfl := hV
  refine x_ld Tryd.underlying9 (hc765 0 _ rfl) hA (fun ac hA => ?_) rfl rfl rfl rfl rfl rfl
  refine x_m hA rfl fun ac hA => ?_
  refine wn (hK762 _ _ ?_)
  refine wp_reg ?_
  refine x_m hA rfl fun ac hA => ?_
  refine x_m hA rfl fun ac hA => ?_
  replace hS := hS.pk 1
  obtain ⟨y766, h767, hF⟩ := bnd hF
  refine x_call en29 hA (F_column_Text (L := own kS 9 A111 n112 c113 y109 :: L) l726 x763 A727 n728 c729 h767 hS) (fun v ac w hR hA => ?_) rfl rfl rfl rfl rfl
  obtain ⟨B768, m769, d770, rfl, hS⟩ := hR
  refine x_m hA rfl fun ac hA => ?_
  refine wpList_nil ?_
  refine hKx761 _ _ ?_
  refine hK760 _ _ ?_
  refine wp_reg ?_
  obtain ⟨x771, h772, hF⟩ := ltt_ hF
  refine x_v (v := .int .i64 x771) hA (rv_i h772 (r_add rfl (hA.ev rfl) (hA.ev rfl))) rfl fun ac hA => ?_
  refine x_m hA rfl fun ac hA => ?_
  refine wpList_nil ?_
  replace hS := hS.pk 1
  cases hF
  exact ⟨_, N755_ _ rfl, B768, m769, d770, hA.sub _ rfl, hS⟩
 replace hF := iff' hb759 hF
 refine wp_exit ?_
 cases hF
 exact hx755_0 l726 (T755_ _ rfl) A727 n728 c729 ac w (hA.sub _ rfl) hS
end Go.Proofs.YteodeedejjcmgaaDoor.M
namespace Go.Proofs.YteodeedejjcmgaaDoor.M
open Go Go.RowKit Go.Proofs.YteodeedejjcmgaaDoor.E
set_option linter.unusedVariables false
set_option linter.unusedSimpArgs false
noncomputable def slices_Index_api_Errno_api_Errno_b1 : Option (Int) :=
  some (-1)
noncomputable def slices_Index_api_Errno_api_Errno_x1_0 : Option (Int) :=
  slices_Index_api_Errno_api_Errno_b1
noncomputable def slices_Index_api_Errno_api_Errno_l1 (a0 : (List Int)) (a1 : Int) (x262 : Int) : Option ((Int) ⊕ ((Unit) ⊕ (Int))) :=
  if (decide (x262 < (a0.length : Int))) = true then ((at_ a0 x262).bind fun x286 => (if (a1 == x286) = true then (some (.inr (.inr x262))) else (ltt (IntKind.i64.wrap (x262 + 1)) fun x291 => (some (.inl (x291)))))) else (some (.inr (.inl ())))
noncomputable def slices_Index_api_Errno_api_Errno (a0 : (List Int)) (a1 : Int) : Option (Int) :=
  (loop (fun s => slices_Index_api_Errno_api_Errno_l1 a0 a1 s) (0)).bind fun t => match t with | (.inl t) => slices_Index_api_Errno_api_Errno_x1_0 | (.inr t) => some t
noncomputable def slices_Contains_api_Errno_api_Errno (a0 : (List Int)) (a1 : Int) : Option (Bool) :=
  (slices_Index_api_Errno_api_Errno a0 a1).bind fun y103 => (some (decide (0 ≤ y103)))
noncomputable def event_Form (a0 : S44) (a1 : Int) : Option (Bool) :=
  if (decide (0 ≤ a0.f1)) = true then (if (decide (a0.f1 < a1)) = true then (if (decide (-1099511627776 ≤ a0.f2)) = true then (if (decide (a0.f2 ≤ 1099511627776)) = true then (if (decide ((a0.f3.length : Int) ≤ 32)) = true then (some (decide (a0.f0 < 1099511627776))) else (some false)) else (some false)) else (some false)) else (some false)) else (some false)
noncomputable def event_Read_1_b1 (l237 : (List Int)) (l242 : (List (List Int))) : Option ((S106 × (List (List Int))) ⊕ (S106 × (List (List Int)))) :=
  some (.inl ((⟨l237⟩ : S106), l242))
noncomputable def event_Read_1_x1_0 (l334 : (List Int)) (l339 : (List (List Int))) : Option ((S106 × (List (List Int))) ⊕ (S106 × (List (List Int)))) :=
  event_Read_1_b1 l334 l339
noncomputable def event_Read_1_l1 (l285 : (List Int)) (l290 : (List (List Int))) (x291 : Int) : Option (((List Int) × (List (List Int)) × Int) ⊕ (((List Int) × (List (List Int))) ⊕ ((S106 × (List (List Int))) ⊕ (S106 × (List (List Int)))))) :=
  if (decide (x291 < 5)) = true then ((column_Reader_Text (⟨l285⟩ : S106) 1048576).bind fun y347 => (sum_ y347 (fun y347 => (chk (y347.1.length ≤ maxLen) ((at_ l290 x291).bind fun x361 => (ltt (IntKind.i64.wrap (x291 + 1)) fun x368 => (some (.inl (y347.2.f0, l290.set x291.toNat (stb y347.1), x368))))))) (fun y347 => (some (.inr (.inr (.inr (y347, l290)))))))) else (some (.inr (.inl (l285, l290))))
noncomputable def event_Read_1 (a0 : S106) (a1 : (List (List Int))) : Option ((S106 × (List (List Int))) ⊕ (S106 × (List (List Int)))) :=
  (loop (fun s => event_Read_1_l1 s.1 s.2.1 s.2.2) (a0.f0, a1, 0)).bind fun t => match t with | (.inl t) => event_Read_1_x1_0 t.1 t.2 | (.inr t) => some t
noncomputable def Try_event_Read_1 (a0 : (List Int)) (a60 : (List (List Int))) : Option (Bool × (List (List Int))) :=
  (event_Read_1 (⟨a0⟩ : S106) a60).bind fun y => (sum_ y (fun y => some ((((y.1.f0.length : Int) == 0), y.2))) (fun y => some ((false, y.2))))
noncomputable def event_Read_b1 (y103 : (Int × (List Int) × Int × Int)) (l697 : (List S44)) : Option ((List S44) × Int × Int) :=
  some (l697, y103.2.2.1, 0)
noncomputable def event_Read_x1_0 (y103 : (Int × (List Int) × Int × Int)) (l811 : (List S44)) : Option ((List S44) × Int × Int) :=
  event_Read_b1 y103 l811
noncomputable def event_Read_l1 (a2 : Int) (y145 : ((List Int) × Int)) (y158 : ((List Int) × Int)) (y171 : ((List Int) × Int)) (y184 : ((List (List UInt8)) × Int)) (y197 : ((List Nat) × Int)) (l758 : (List S44)) (x762 : Int) : Option (((List S44) × Int) ⊕ (((List S44)) ⊕ ((List S44) × Int × Int))) :=
  if (decide (x762 < (y145.1.length : Int))) = true then ((at_ y145.1 x762).bind fun x823 => (ltt (IntKind.u64.wrap x823) fun x826 => ((at_ y158.1 x762).bind fun x828 => ((at_ y171.1 x762).bind fun x831 => ((at_ y184.1 x762).bind fun x834 => ((at_ y197.1 x762).bind fun x837 => ((event_Form (⟨x826, x828, x831, x834, x837⟩ : S44) a2).bind fun y848 => (if (!y848) = true then (some (.inr (.inr ([], 0, 3)))) else (chk (l758.length + [(⟨x826, x828, x831, x834, x837⟩ : S44)].length ≤ 140737488355328 / 48) (ltt (IntKind.i64.wrap (x762 + 1)) fun x857 => (some (.inl (l758 ++ [(⟨x826, x828, x831, x834, x837⟩ : S44)], x857))))))))))))) else (some (.inr (.inl (l758))))
noncomputable def event_Read_j2 (a2 : Int) (y103 : (Int × (List Int) × Int × Int)) (y145 : ((List Int) × Int)) (y158 : ((List Int) × Int)) (y171 : ((List Int) × Int)) (y184 : ((List (List UInt8)) × Int)) (y197 : ((List Nat) × Int)) (b212 : Bool) : Option ((List S44) × Int × Int) :=
  if b212 = true then (some ([], 0, 3)) else ((loop (fun s => event_Read_l1 a2 y145 y158 y171 y184 y197 s.1 s.2) ([], 0)).bind fun t => match t with | (.inl t) => event_Read_x1_0 y103 t | (.inr t) => some t)
noncomputable def event_Read_j1 (a2 : Int) (y103 : (Int × (List Int) × Int × Int)) (l131 : (List (List Int))) (b132 : Bool) : Option ((List S44) × Int × Int) :=
  if (!b132) = true then (some ([], 0, 3)) else ((at_ l131 0).bind fun x138 => ((column_ReadInts x138).bind fun y145 => ((at_ l131 1).bind fun x151 => ((column_ReadInts x151).bind fun y158 => ((at_ l131 2).bind fun x164 => ((column_ReadInts x164).bind fun y171 => ((at_ l131 3).bind fun x177 => ((column_ReadTexts x177).bind fun y184 => ((at_ l131 4).bind fun x190 => ((column_ReadReals x190).bind fun y197 => ((slices_Contains_api_Errno_api_Errno [y145.2, y158.2, y171.2, y184.2, y197.2] 3).bind fun y860 => (if y860 = true then (event_Read_j2 a2 y103 y145 y158 y171 y184 y197 true) else (if ((y158.1.length : Int) != (y145.1.length : Int)) = true then (event_Read_j2 a2 y103 y145 y158 y171 y184 y197 true) else (if ((y171.1.length : Int) != (y145.1.length : Int)) = true then (event_Read_j2 a2 y103 y145 y158 y171 y184 y197 true) else (if ((y184.1.length : Int) != (y145.1.length : Int)) = true then (event_Read_j2 a2 y103 y145 y158 y171 y184 y197 true) else (event_Read_j2 a2 y103 y145 y158 y171 y184 y197 ((y197.1.length : Int) != (y145.1.length : Int))))))))))))))))))
noncomputable def event_Read (a0 : (List Int)) (a1 : Int) (a2 : Int) : Option ((List S44) × Int × Int) :=
  (page_Read a0 a1).bind fun y103 => (if (y103.2.2.2 != 0) = true then (some ([], 0, y103.2.2.2)) else (if (y103.1 == 101) = true then ((Try_event_Read_1 y103.2.1 ([[], [], [], [], []] : List (List Int))).bind fun y872 => (event_Read_j1 a2 y103 y872.2 y872.1)) else (event_Read_j1 a2 y103 ([[], [], [], [], []] : List (List Int)) false)))
end Go.Proofs.YteodeedejjcmgaaDoor.M
namespace Go.Proofs.YteodeedejjcmgaaDoor.M
open Go Go.RowKit Go.Proofs.YteodeedejjcmgaaDoor.E
set_option linter.unusedVariables false
set_option maxRecDepth 100000
set_option maxHeartbeats 4000000
set_option linter.unusedSimpArgs false
theorem F_slices_Index_api_Errno_api_Errno {r : World} {L : List HP} {w : World} (a0 : (List Int)) (a1 : Int) (A0 : Option Addr) (n0 : Nat) (c0 : Nat) {y : (Int)} (hF : slices_Index_api_Errno_api_Errno a0 a1 = some y) (ha0 : RdL L (kI .i64) A0 n0 c0 a0) (hS : SH r (L) w) :
  Ret Tryd.prog 82 #[.slice A0 n0 c0, .int .i64 a1] w fun v w' => v = .int .i64 y ∧ SH r (L) w' := by
 refine enter Tryd.func82 rfl Tryd.ntmps82 [(0, .slice A0 n0 c0), (1, .int .i64 a1)] rfl (by simp) ?_
 intro ac hA Qf hQ hQn
 unfold slices_Index_api_Errno_api_Errno at hF
 refine ws fun K101 hK101 => ?_
 refine x_m hA rfl fun ac hA => ?_
 refine wn (hK101 _ _ ?_)
 refine wp_seq_k fun K102 hK102 => ?_
 refine ws fun K198 hK198 => ?_
 refine x_m hA rfl fun ac hA => ?_
 refine x_len Tryd.underlying119 (hS.rdl 0 ha0 rfl).2.1 hA (fun ac hA => ?_) rfl rfl rfl rfl rfl
 refine x_m hA rfl fun ac hA => ?_
 refine wn (hK198 _ _ ?_)
 refine wp_block_k fun Kx199 hKx199 => ?_
 have hb1 : slices_Index_api_Errno_api_Errno_b1 = some y → ∀ (ac : Act) (w : World), FR 19 [] ac [] → SH r (L) w → Kx199 ac w := by
  intro hF ac w hA hS
  unfold slices_Index_api_Errno_api_Errno_b1 at hF
  refine hKx199 _ _ ?_
  refine hK102 _ _ ?_
  refine ws fun K246 hK246 => ?_
  refine x_m hA rfl fun ac hA => ?_
  refine wn (hK246 _ _ ?_)
  refine wp_ret ?_
  cases hF
  refine hQ _ _ ?_
  refine lv Tryd.results82 hA rfl ?_
  exact ⟨rfl, hS⟩
 obtain ⟨t277, hl277, hF⟩ := bnd hF
 have hR277 := hF
 have hx277_0 : (.inl ()) = t277 → ∀ (ac : Act) (w : World), FR 19 [] ac [] → SH r (L) w → Kx199 ac w := by
  intro ht ac w hA hS
  subst ht
  replace hF : slices_Index_api_Errno_api_Errno_x1_0 = some y := hF
  unfold slices_Index_api_Errno_api_Errno_x1_0 at hF
  exact hb1 hF ac w (hA.sub _ rfl) hS
 refine wp_loop_fn hl277 (fun s ac w => FR 19 [] ac [(0, .slice A0 n0 c0), (1, .int .i64 a1), (7, .int .i64 (a0.length : Int)), (8, .int .i64 s)] ∧ SH r (L) w) ⟨hA.sub _ rfl, hS⟩ ?_
 intro N277 s277 o277 hF N277_ T277_ ac w hLab
 obtain ⟨x262, rfl⟩ : ∃ q, q = s277 := ⟨_, rfl⟩
 replace hF : slices_Index_api_Errno_api_Errno_l1 a0 a1 x262 = some o277 := hF
 unfold slices_Index_api_Errno_api_Errno_l1 at hF
 try dsimp only at hLab
 obtain ⟨hA, hS⟩ := hLab
 refine ws fun K279 hK279 => ?_
 refine x_v hA (r_ltI rfl (hA.ev rfl) (hA.ev rfl)) rfl fun ac hA => ?_
 refine wn (hK279 _ _ ?_)
 refine wp_seq_k fun K280 hK280 => ?_
 refine c_if hA rfl (fun hb281 => ?_) fun hb281 => ?_
 ·replace hF := ift hb281 hF
  refine wp_skip ?_
  refine hK280 _ _ ?_
  refine wp_seq_k fun K282 hK282 => ?_
  refine wp_block_k fun Kx283 hKx283 => ?_
  refine ws fun K284 hK284 => ?_
  refine x_m hA rfl fun ac hA => ?_
  refine x_m hA rfl fun ac hA => ?_
  refine wn (hK284 _ _ ?_)
  refine ws fun K285 hK285 => ?_
  refine x_m hA rfl fun ac hA => ?_
  refine x_m hA rfl fun ac hA => ?_
  refine x_m hA rfl fun ac hA => ?_
  obtain ⟨x286, h287, hF⟩ := bnd hF
  refine x_ia Tryd.underlying119 sz25 (hS.rdl 0 ha0 rfl) h287 hA (fun ac hA => ?_) rfl rfl rfl rfl rfl rfl
  obtain ⟨cs, hV, hc288⟩ := el (hS.rdl 0 ha0 rfl) h287
  obtain rfl := hV
  refine x_ld Tryd.underlying25 (hc288 0 _ rfl) hA (fun ac hA => ?_) rfl rfl rfl rfl rfl rfl
  refine x_v hA (r_eqI rfl (hA.ev rfl) (hA.ev rfl)) rfl fun ac hA => ?_
  refine wn (hK285 _ _ ?_)
  refine c_if hA rfl (fun hb289 => ?_) fun hb289 => ?_
  ·replace hF := ift hb289 hF
   refine ws fun K290 hK290 => ?_
   refine x_m hA rfl fun ac hA => ?_
   refine x_m hA rfl fun ac hA => ?_
   refine wn (hK290 _ _ ?_)
   refine wp_ret ?_
   cases hF
   have ht := T277_ _ rfl
   subst ht
   replace hF := hR277
   replace hF : some x262 = some y := hF
   cases hF
   refine hQ _ _ ?_
   refine lv Tryd.results82 hA rfl ?_
   exact ⟨rfl, hS⟩
  replace hF := iff' hb289 hF
  refine wp_skip ?_
  refine hKx283 _ _ ?_
  refine hK282 _ _ ?_
  refine wp_reg ?_
  obtain ⟨x291, h292, hF⟩ := ltt_ hF
  refine x_v (v := .int .i64 x291) hA (rv_i h292 (r_add rfl (hA.ev rfl) (hA.ev rfl))) rfl fun ac hA => ?_
  refine x_m hA rfl fun ac hA => ?_
  refine wpList_nil ?_
  cases hF
  exact ⟨_, N277_ _ rfl, hA.sub _ rfl, hS⟩
 replace hF := iff' hb281 hF
 refine wp_exit ?_
 cases hF
 exact hx277_0 (T277_ _ rfl) ac w (hA.sub _ rfl) hS
theorem F_slices_Contains_api_Errno_api_Errno {r : World} {L : List HP} {w : World} (a0 : (List Int)) (a1 : Int) (A0 : Option Addr) (n0 : Nat) (c0 : Nat) {y : (Bool)} (hF : slices_Contains_api_Errno_api_Errno a0 a1 = some y) (ha0 : RdL L (kI .i64) A0 n0 c0 a0) (hS : SH r (L) w) :
  Ret Tryd.prog 66 #[.slice A0 n0 c0, .int .i64 a1] w fun v w' => v = .bool y ∧ SH r (L) w' := by
 refine enter Tryd.func66 rfl Tryd.ntmps66 [(0, .slice A0 n0 c0), (1, .int .i64 a1)] rfl (by simp) ?_
 intro ac hA Qf hQ hQn
 unfold slices_Contains_api_Errno_api_Errno at hF
 refine ws fun K101 hK101 => ?_
 refine x_m hA rfl fun ac hA => ?_
 refine wn (hK101 _ _ ?_)
 refine ws fun K102 hK102 => ?_
 refine x_m hA rfl fun ac hA => ?_
 refine x_m hA rfl fun ac hA => ?_
 obtain ⟨y103, h104, hF⟩ := bnd hF
 refine x_call en82 hA (F_slices_Index_api_Errno_api_Errno (L := L) a0 a1 A0 n0 c0 h104 (RdL.sfx 0 rfl ha0) hS) (fun v ac w hR hA => ?_) rfl rfl rfl rfl rfl
 obtain ⟨rfl, hS⟩ := hR
 refine x_v hA (r_geI rfl (hA.ev rfl) (hA.ev rfl)) rfl fun ac hA => ?_
 refine x_m hA rfl fun ac hA => ?_
 refine wn (hK102 _ _ ?_)
 refine wp_ret ?_
 cases hF
 refine hQ _ _ ?_
 refine lv Tryd.results66 hA rfl ?_
 exact ⟨rfl, hS⟩
theorem F_event_Form {r : World} {L : List HP} {w : World} (a0 : S44) (a1 : Int) {y : (Bool)} (hF : event_Form a0 a1 = some y) (hS : SH r (L) w) :
  Ret Tryd.prog 23 #[.agg #[.int .u64 a0.f0, .int .i64 a0.f1, .int .i64 a0.f2, str a0.f3, .float .f64 a0.f4], .int .i64 a1] w fun v w' => v = .bool y ∧ SH r (L) w' := by
 refine enter Tryd.func23 rfl Tryd.ntmps23 [(0, .agg #[.int .u64 a0.f0, .int .i64 a0.f1, .int .i64 a0.f2, str a0.f3, .float .f64 a0.f4]), (1, .int .i64 a1)] rfl (by simp) ?_
 intro ac hA Qf hQ hQn
 unfold event_Form at hF
 refine ws fun K101 hK101 => ?_
 refine x_box hA hS (fun g102 ac w hS hA => ?_) rfl rfl rfl rfl rfl rfl
 refine x_m hA rfl fun ac hA => ?_
 refine wn (hK101 _ _ ?_)
 refine ws fun K103 hK103 => ?_
 refine x_fab fa44_1 hA (fun ac hA => ?_) rfl rfl rfl rfl rfl
 refine x_ld Tryd.underlying3 (hS.cell 0 rfl 1 _ rfl) hA (fun ac hA => ?_) rfl rfl rfl rfl rfl rfl
 refine x_v hA (r_geI rfl (hA.ev rfl) (hA.ev rfl)) rfl fun ac hA => ?_
 refine x_m hA rfl fun ac hA => ?_
 refine bcase (b := decide (0 ≤ a0.f1)) (fun hb104 => ?_) fun hb104 => ?_
 ·replace hF := ift hb104 hF
  refine x_on hb104 hA ?_ rfl rfl rfl
  refine x_fab fa44_1 hA (fun ac hA => ?_) rfl rfl rfl rfl rfl
  refine x_on hb104 hA ?_ rfl rfl rfl
  refine x_ld Tryd.underlying3 (hS.cell 0 rfl 1 _ rfl) hA (fun ac hA => ?_) rfl rfl rfl rfl rfl rfl
  refine x_on hb104 hA ?_ rfl rfl rfl
  refine x_m hA rfl fun ac hA => ?_
  refine x_on hb104 hA ?_ rfl rfl rfl
  refine x_v hA (r_ltI rfl (hA.ev rfl) (hA.ev rfl)) rfl fun ac hA => ?_
  refine x_pickt hb104 hA (fun ac hA => ?_) rfl rfl rfl rfl rfl rfl
  refine x_m hA rfl fun ac hA => ?_
  refine bcase (b := decide (a0.f1 < a1)) (fun hb105 => ?_) fun hb105 => ?_
  ·replace hF := ift hb105 hF
   refine x_on hb105 hA ?_ rfl rfl rfl
   refine x_fab fa44_2 hA (fun ac hA => ?_) rfl rfl rfl rfl rfl
   refine x_on hb105 hA ?_ rfl rfl rfl
   refine x_ld Tryd.underlying2 (hS.cell 0 rfl 2 _ rfl) hA (fun ac hA => ?_) rfl rfl rfl rfl rfl rfl
   refine x_on hb105 hA ?_ rfl rfl rfl
   refine x_v hA (r_geI rfl (hA.ev rfl) (hA.ev rfl)) rfl fun ac hA => ?_
   refine x_pickt hb105 hA (fun ac hA => ?_) rfl rfl rfl rfl rfl rfl
   refine x_m hA rfl fun ac hA => ?_
   refine bcase (b := decide (-1099511627776 ≤ a0.f2)) (fun hb106 => ?_) fun hb106 => ?_
   ·replace hF := ift hb106 hF
    refine x_on hb106 hA ?_ rfl rfl rfl
    refine x_fab fa44_2 hA (fun ac hA => ?_) rfl rfl rfl rfl rfl
    refine x_on hb106 hA ?_ rfl rfl rfl
    refine x_ld Tryd.underlying2 (hS.cell 0 rfl 2 _ rfl) hA (fun ac hA => ?_) rfl rfl rfl rfl rfl rfl
    refine x_on hb106 hA ?_ rfl rfl rfl
    refine x_v hA (r_leI rfl (hA.ev rfl) (hA.ev rfl)) rfl fun ac hA => ?_
    refine x_pickt hb106 hA (fun ac hA => ?_) rfl rfl rfl rfl rfl rfl
    refine x_m hA rfl fun ac hA => ?_
    refine bcase (b := decide (a0.f2 ≤ 1099511627776)) (fun hb107 => ?_) fun hb107 => ?_
    ·replace hF := ift hb107 hF
     refine x_on hb107 hA ?_ rfl rfl rfl
     refine x_fab fa44_3 hA (fun ac hA => ?_) rfl rfl rfl rfl rfl
     refine x_on hb107 hA ?_ rfl rfl rfl
     refine x_ld Tryd.underlying9 (hS.cell 0 rfl 3 _ rfl) hA (fun ac hA => ?_) rfl rfl rfl rfl rfl rfl
     refine x_on hb107 hA ?_ rfl rfl rfl
     refine x_v hA (r_lenS Tryd.underlying9 rfl (hA.ev rfl)) rfl fun ac hA => ?_
     refine x_on hb107 hA ?_ rfl rfl rfl
     refine x_v hA (r_leI rfl (hA.ev rfl) (hA.ev rfl)) rfl fun ac hA => ?_
     refine x_pickt hb107 hA (fun ac hA => ?_) rfl rfl rfl rfl rfl rfl
     refine x_m hA rfl fun ac hA => ?_
     refine bcase (b := decide ((a0.f3.length : Int) ≤ 32)) (fun hb108 => ?_) fun hb108 => ?_
     ·replace hF := ift hb108 hF
      refine x_on hb108 hA ?_ rfl rfl rfl
      refine x_fab fa44_0 hA (fun ac hA => ?_) rfl rfl rfl rfl rfl
      refine x_on hb108 hA ?_ rfl rfl rfl
      refine x_ld Tryd.underlying31 (hS.cell 0 rfl 0 _ rfl) hA (fun ac hA => ?_) rfl rfl rfl rfl rfl rfl
      refine x_on hb108 hA ?_ rfl rfl rfl
      refine x_v hA (r_ltI rfl (hA.ev rfl) (hA.ev rfl)) rfl fun ac hA => ?_
      refine x_pickt hb108 hA (fun ac hA => ?_) rfl rfl rfl rfl rfl rfl
      refine x_m hA rfl fun ac hA => ?_
      refine wn (hK103 _ _ ?_)
      refine wp_ret ?_
      replace hS := hS.drop 0
      cases hF
      refine hQ _ _ ?_
      refine lv Tryd.results23 hA rfl ?_
      exact ⟨rfl, hS⟩
     replace hF := iff' hb108 hF
     refine x_off hb108 hA (fun ac hA => ?_) rfl rfl rfl rfl rfl
     refine x_off hb108 hA (fun ac hA => ?_) rfl rfl rfl rfl rfl
     refine x_off hb108 hA (fun ac hA => ?_) rfl rfl rfl rfl rfl
     refine x_pickf hb108 hA (fun ac hA => ?_) rfl rfl rfl rfl rfl rfl
     refine x_m hA rfl fun ac hA => ?_
     refine wn (hK103 _ _ ?_)
     refine wp_ret ?_
     replace hS := hS.drop 0
     cases hF
     refine hQ _ _ ?_
     refine lv Tryd.results23 hA rfl ?_
     exact ⟨rfl, hS⟩
    replace hF := iff' hb107 hF
    refine x_off hb107 hA (fun ac hA => ?_) rfl rfl rfl rfl rfl
    refine x_off hb107 hA (fun ac hA => ?_) rfl rfl rfl rfl rfl
    refine x_off hb107 hA (fun ac hA => ?_) rfl rfl rfl rfl rfl
    refine x_off hb107 hA (fun ac hA => ?_) rfl rfl rfl rfl rfl
    refine x_pickf hb107 hA (fun ac hA => ?_) rfl rfl rfl rfl rfl rfl
    refine x_m hA rfl fun ac hA => ?_
    refine x_off rfl hA (fun ac hA => ?_) rfl rfl rfl rfl rfl
    refine x_off rfl hA (fun ac hA => ?_) rfl rfl rfl rfl rfl
    refine x_off rfl hA (fun ac hA => ?_) rfl rfl rfl rfl rfl
    refine x_pickf rfl hA (fun ac hA => ?_) rfl rfl rfl rfl rfl rfl
    refine x_m hA rfl fun ac hA => ?_
    refine wn (hK103 _ _ ?_)
    refine wp_ret ?_
    replace hS := hS.drop 0
    cases hF
    refine hQ _ _ ?_
    refine lv Tryd.results23 hA rfl ?_
    exact ⟨rfl, hS⟩
   replace hF := iff' hb106 hF
   refine x_off hb106 hA (fun ac hA => ?_) rfl rfl rfl rfl rfl
   refine x_off hb106 hA (fun ac hA => ?_) rfl rfl rfl rfl rfl
   refine x_off hb106 hA (fun ac hA => ?_) rfl rfl rfl rfl rfl
   refine x_pickf hb106 hA (fun ac hA => ?_) rfl rfl rfl rfl rfl rfl
   refine x_m hA rfl fun ac hA => ?_
   refine x_off rfl hA (fun ac hA => ?_) rfl rfl rfl rfl rfl
   refine x_off rfl hA (fun ac hA => ?_) rfl rfl rfl rfl rfl
   refine x_off rfl hA (fun ac hA => ?_) rfl rfl rfl rfl rfl
   refine x_off rfl hA (fun ac hA => ?_) rfl rfl rfl rfl rfl
   refine x_pickf rfl hA (fun ac hA => ?_) rfl rfl rfl rfl rfl rfl
   refine x_m hA rfl fun ac hA => ?_
   refine x_off rfl hA (fun ac hA => ?_) rfl rfl rfl rfl rfl
   refine x_off rfl hA (fun ac hA => ?_) rfl rfl rfl rfl rfl
   refine x_off rfl hA (fun ac hA => ?_) rfl rfl rfl rfl rfl
   refine x_pickf rfl hA (fun ac hA => ?_) rfl rfl rfl rfl rfl rfl
   refine x_m hA rfl fun ac hA => ?_
   refine wn (hK103 _ _ ?_)
   refine wp_ret ?_
   replace hS := hS.drop 0
   cases hF
   refine hQ _ _ ?_
   refine lv Tryd.results23 hA rfl ?_
   exact ⟨rfl, hS⟩
  replace hF := iff' hb105 hF
  refine x_off hb105 hA (fun ac hA => ?_) rfl rfl rfl rfl rfl
  refine x_off hb105 hA (fun ac hA => ?_) rfl rfl rfl rfl rfl
  refine x_off hb105 hA (fun ac hA => ?_) rfl rfl rfl rfl rfl
  refine x_pickf hb105 hA (fun ac hA => ?_) rfl rfl rfl rfl rfl rfl
  refine x_m hA rfl fun ac hA => ?_
  refine x_off rfl hA (fun ac hA => ?_) rfl rfl rfl rfl rfl
  refine x_off rfl hA (fun ac hA => ?_) rfl rfl rfl rfl rfl
  refine x_off rfl hA (fun ac hA => ?_) rfl rfl rfl rfl rfl
  refine x_pickf rfl hA (fun ac hA => ?_) rfl rfl rfl rfl rfl rfl
  refine x_m hA rfl fun ac hA => ?_
  refine x_off rfl hA (fun ac hA => ?_) rfl rfl rfl rfl rfl
  refine x_off rfl hA (fun ac hA => ?_) rfl rfl rfl rfl rfl
  refine x_off rfl hA (fun ac hA => ?_) rfl rfl rfl rfl rfl
  refine x_off rfl hA (fun ac hA => ?_) rfl rfl rfl rfl rfl
  refine x_pickf rfl hA (fun ac hA => ?_) rfl rfl rfl rfl rfl rfl
  refine x_m hA rfl fun ac hA => ?_
  refine x_off rfl hA (fun ac hA => ?_) rfl rfl rfl rfl rfl
  refine x_off rfl hA (fun ac hA => ?_) rfl rfl rfl rfl rfl
  refine x_off rfl hA (fun ac hA => ?_) rfl rfl rfl rfl rfl
  refine x_pickf rfl hA (fun ac hA => ?_) rfl rfl rfl rfl rfl rfl
  refine x_m hA rfl fun ac hA => ?_
  refine wn (hK103 _ _ ?_)
  refine wp_ret ?_
  replace hS := hS.drop 0
  cases hF
  refine hQ _ _ ?_
  refine lv Tryd.results23 hA rfl ?_
  exact ⟨rfl, hS⟩
 replace hF := iff' hb104 hF
 refine x_off hb104 hA (fun ac hA => ?_) rfl rfl rfl rfl rfl
 refine x_off hb104 hA (fun ac hA => ?_) rfl rfl rfl rfl rfl
 refine x_off hb104 hA (fun ac hA => ?_) rfl rfl rfl rfl rfl
 refine x_off hb104 hA (fun ac hA => ?_) rfl rfl rfl rfl rfl
 refine x_pickf hb104 hA (fun ac hA => ?_) rfl rfl rfl rfl rfl rfl
 refine x_m hA rfl fun ac hA => ?_
 refine x_off rfl hA (fun ac hA => ?_) rfl rfl rfl rfl rfl
 refine x_off rfl hA (fun ac hA => ?_) rfl rfl rfl rfl rfl
 refine x_off rfl hA (fun ac hA => ?_) rfl rfl rfl rfl rfl
 refine x_pickf rfl hA (fun ac hA => ?_) rfl rfl rfl rfl rfl rfl
 refine x_m hA rfl fun ac hA => ?_
 refine x_off rfl hA (fun ac hA => ?_) rfl rfl rfl rfl rfl
 refine x_off rfl hA (fun ac hA => ?_) rfl rfl rfl rfl rfl
 refine x_off rfl hA (fun ac hA => ?_) rfl rfl rfl rfl rfl
 refine x_pickf rfl hA (fun ac hA => ?_) rfl rfl rfl rfl rfl rfl
 refine x_m hA rfl fun ac hA => ?_
 refine x_off rfl hA (fun ac hA => ?_) rfl rfl rfl rfl rfl
 refine x_off rfl hA (fun ac hA => ?_) rfl rfl rfl rfl rfl
 refine x_off rfl hA (fun ac hA => ?_) rfl rfl rfl rfl rfl
 refine x_off rfl hA (fun ac hA => ?_) rfl rfl rfl rfl rfl
 refine x_pickf rfl hA (fun ac hA => ?_) rfl rfl rfl rfl rfl rfl
 refine x_m hA rfl fun ac hA => ?_
 refine x_off rfl hA (fun ac hA => ?_) rfl rfl rfl rfl rfl
 refine x_off rfl hA (fun ac hA => ?_) rfl rfl rfl rfl rfl
 refine x_off rfl hA (fun ac hA => ?_) rfl rfl rfl rfl rfl
 refine x_pickf rfl hA (fun ac hA => ?_) rfl rfl rfl rfl rfl rfl
 refine x_m hA rfl fun ac hA => ?_
 refine wn (hK103 _ _ ?_)
 refine wp_ret ?_
 replace hS := hS.drop 0
 cases hF
 refine hQ _ _ ?_
 refine lv Tryd.results23 hA rfl ?_
 exact ⟨rfl, hS⟩
theorem F_event_Read_1 {r : World} {L : List HP} {w : World} {Z : Nat → Prop} {wz : World} (a0 : S106) (a1 : (List (List Int))) (g0 : Nat) (g1 : Nat) {y : ((S106 × (List (List Int))) ⊕ (S106 × (List (List Int))))} (hF : event_Read_1 a0 a1 = some y) (hS : SH r (obj106 Z wz g0 a0 :: own (kM Z wz (kI .u8)) 111 (some ⟨g1, 0, none⟩) 5 5 a1 :: zone Z wz :: L) w) :
  RetS Tryd.prog 62 #[.pointer (some ⟨g0, 0, none⟩), .pointer (some ⟨g1, 0, none⟩)] w badC y (fun y v w' => ∃ (Z' : Nat → Prop) (wz' : World), v = .tuple #[] ∧ Sub Z wz Z' wz' ∧ SH r (obj106 Z' wz' g0 y.1 :: own (kM Z' wz' (kI .u8)) 111 (some ⟨g1, 0, none⟩) 5 5 y.2 :: zone Z' wz' :: L) w') (fun y w' => ∃ (Z' : Nat → Prop) (wz' : World), Sub Z wz Z' wz' ∧ SH r (obj106 Z' wz' g0 y.1 :: own (kM Z' wz' (kI .u8)) 111 (some ⟨g1, 0, none⟩) 5 5 y.2 :: zone Z' wz' :: L) w') := by
 refine enterS Tryd.func62 rfl Tryd.ntmps62 [(0, .pointer (some ⟨g0, 0, none⟩)), (1, .pointer (some ⟨g1, 0, none⟩))] rfl (by simp) ?_
 intro ac hA Qf hQ hQn hQp
 unfold event_Read_1 at hF
 obtain ⟨A101, n102, c103, hS⟩ := obj106_open hS
 replace hS := hS.pk 1
 have hQ0 := SH.unpure hS
 clear hS
 obtain ⟨h104, hS⟩ := hQ0
 refine ws fun K105 hK105 => ?_
 refine x_m hA rfl fun ac hA => ?_
 refine wn (hK105 _ _ ?_)
 refine wp_block_k fun Kx106 hKx106 => ?_
 have hb1 : ∀ (l237 : (List Int)) (l242 : (List (List Int))), event_Read_1_b1 l237 l242 = some y → ∀ (Z234 : Nat → Prop) (wz235 : World) (A238 : Option Addr) (n239 : Nat) (c240 : Nat) (h236 : Sub Z wz Z234 wz235) (h241 : Imm Z234 wz235 (kI .u8) A238 n239 c240 l237) (ac : Act) (w : World), FR 13 [] ac [(0, .pointer (some ⟨g0, 0, none⟩)), (1, .pointer (some ⟨g1, 0, none⟩))] → SH r (blk g0 106 [.slice A238 n239 c240] :: own (kM Z234 wz235 (kI .u8)) 111 (some ⟨g1, 0, none⟩) 5 5 l242 :: zone Z234 wz235 :: L) w → Kx106 ac w := by
  intro l237 l242 hF Z234 wz235 A238 n239 c240 h236 h241 ac w hA hS
  unfold event_Read_1_b1 at hF
  refine hKx106 _ _ ?_
  replace hS := SH.pure_ h241 hS
  replace hS := hS.pk 1
  replace hS := obj106_mk (x := (⟨l237⟩ : S106)) hS
  replace hS := hS.pk 2
  replace hS := hS.pk 2
  replace hS := hS.pk 2
  cases hF
  refine hQn _ rfl _ _ ?_
  refine lv0n Tryd.results62 hA ?_
  exact ⟨Z234, wz235, rfl, h236, hS⟩
 obtain ⟨t339, hl339, hF⟩ := bnd hF
 have hR339 := hF
 have hx339_0 : ∀ (l334 : (List Int)) (l339 : (List (List Int))), (.inl (l334, l339)) = t339 → ∀ (Z331 : Nat → Prop) (wz332 : World) (A335 : Option Addr) (n336 : Nat) (c337 : Nat) (h333 : Sub Z wz Z331 wz332) (h338 : Imm Z331 wz332 (kI .u8) A335 n336 c337 l334) (ac : Act) (w : World), FR 13 [] ac [(0, .pointer (some ⟨g0, 0, none⟩)), (1, .pointer (some ⟨g1, 0, none⟩))] → SH r (blk g0 106 [.slice A335 n336 c337] :: own (kM Z331 wz332 (kI .u8)) 111 (some ⟨g1, 0, none⟩) 5 5 l339 :: zone Z331 wz332 :: L) w → Kx106 ac w := by
  intro l334 l339 ht Z331 wz332 A335 n336 c337 h333 h338 ac w hA hS
  subst ht
  replace hF : event_Read_1_x1_0 l334 l339 = some y := hF
  unfold event_Read_1_x1_0 at hF
  exact hb1 l334 l339 hF Z331 wz332 A335 n336 c337 h333 h338 ac w (hA.sub _ rfl) hS
 refine wp_loop_fn hl339 (fun s ac w => ∃ (Z282 : Nat → Prop) (wz283 : World) (A286 : Option Addr) (n287 : Nat) (c288 : Nat), Sub Z wz Z282 wz283 ∧ Imm Z282 wz283 (kI .u8) A286 n287 c288 s.1 ∧ FR 13 [] ac [(0, .pointer (some ⟨g0, 0, none⟩)), (1, .pointer (some ⟨g1, 0, none⟩)), (4, .int .i64 s.2.2)] ∧ SH r (blk g0 106 [.slice A286 n287 c288] :: own (kM Z282 wz283 (kI .u8)) 111 (some ⟨g1, 0, none⟩) 5 5 s.2.1 :: zone Z282 wz283 :: L) w) ⟨Z, wz, A101, n102, c103, (Sub.refl _ _), h104, hA.sub _ rfl, hS⟩ ?_
 intro N339 s339 o339 hF N339_ T339_ ac w hLab
 obtain ⟨l285, l290, x291⟩ := s339
 replace hF : event_Read_1_l1 l285 l290 x291 = some o339 := hF
 unfold event_Read_1_l1 at hF
 try dsimp only at hLab
 obtain ⟨Z282, wz283, A286, n287, c288, h284, h289, hA, hS⟩ := hLab
 refine ws fun K341 hK341 => ?_
 refine x_v hA (r_ltI rfl (hA.ev rfl) (hA.ev rfl)) rfl fun ac hA => ?_
 refine wn (hK341 _ _ ?_)
 refine wp_seq_k fun K342 hK342 => ?_
 refine c_if hA rfl (fun hb343 => ?_) fun hb343 => ?_
 ·replace hF := ift hb343 hF
  refine wp_skip ?_
  refine hK342 _ _ ?_
  refine wp_seq_k fun K344 hK344 => ?_
  refine wp_block_k fun Kx345 hKx345 => ?_
  refine ws fun K346 hK346 => ?_
  refine x_m hA rfl fun ac hA => ?_
  refine x_m hA rfl fun ac hA => ?_
  refine wn (hK346 _ _ ?_)
  refine wp_reg ?_
  refine x_m hA rfl fun ac hA => ?_
  refine x_m hA rfl fun ac hA => ?_
  replace hS := SH.pure_ h289 hS
  replace hS := hS.pk 1
  replace hS := obj106_mk (x := (⟨l285⟩ : S106)) hS
  obtain ⟨y347, h348, hF⟩ := bnd hF
  rcases y347 with y347 | y347
  rotate_left
  ·replace hF := sum_r hF
   refine x_callp (vs := #[.pointer (some ⟨g0, 0, none⟩), .int .i64 1048576]) en61 hA (RetS.rf (F_column_Reader_Text (L := own (kM Z282 wz283 (kI .u8)) 111 (some ⟨g1, 0, none⟩) 5 5 l290 :: zone Z282 wz283 :: L) (⟨l285⟩ : S106) 1048576 g0 h348 1 rfl hS)) (fun w hR => ?_) rfl rfl rfl rfl rfl
   replace hS := hR
   obtain ⟨A349, n350, c351, hS⟩ := obj106_open hS
   replace hS := hS.pk 1
   have hQ0 := SH.unpure hS
   clear hS
   obtain ⟨h352, hS⟩ := hQ0
   replace hS := SH.pure_ h352 hS
   replace hS := hS.pk 1
   replace hS := obj106_mk (x := y347) hS
   replace hS := hS.pk 2
   replace hS := hS.pk 2
   replace hS := hS.pk 2
   cases hF
   have ht := T339_ _ rfl
   subst ht
   replace hF := hR339
   replace hF : some (.inr (y347, l290)) = some y := hF
   cases hF
   exact hQp _ rfl _ _ hA.defers ⟨Z282, wz283, h284, hS⟩
  replace hF := sum_l hF
  refine x_callw (vs := #[.pointer (some ⟨g0, 0, none⟩), .int .i64 1048576]) en61 hA (RetS.lf (F_column_Reader_Text (L := own (kM Z282 wz283 (kI .u8)) 111 (some ⟨g1, 0, none⟩) 5 5 l290 :: zone Z282 wz283 :: L) (⟨l285⟩ : S106) 1048576 g0 h348 1 rfl hS)) (fun v ac w hR hA => ?_) rfl rfl rfl rfl rfl rfl rfl
  obtain ⟨rfl, hS⟩ := hR
  obtain ⟨A353, n354, c355, hS⟩ := obj106_open hS
  replace hS := hS.pk 1
  have hQ0 := SH.unpure hS
  clear hS
  obtain ⟨h356, hS⟩ := hQ0
  obtain ⟨h360, hF⟩ := chk_some hF
  refine x_s2b (e := 5) Tryd.underlying24 Tryd.underlying5 Tryd.underlying9 hA hS h360 (fun A357 n358 c359 ac w hS hA => ?_) rfl rfl rfl rfl rfl
  obtain ⟨x361, h362, hF⟩ := bnd hF
  refine x_iaA Tryd.underlying111 sz24 (hS.rd 2 rfl) h362 hA (fun ac hA => ?_) rfl rfl rfl rfl rfl rfl
  replace hS := hS.pk 3
  replace hS := hS.pk 1
  obtain ⟨Z363, wz364, hS, h365, sb366⟩ := SH.freezem (m := n358) (c := c359) (A := A357) hS
  have h367 := Imm.sub h356 sb366
  replace hS := hS.pk 2
  replace hS := hS.kind (d' := (kM Z363 wz364 (kI .u8))) rfl (kM_sub sb366)
  refine x_sto (z' := stb y347.1) (off := 0) (vs := [.slice A357 n358 c359]) 0 sz24 hA hS rfl (at_some h362).2.2 (fun c h => by obtain ⟨_, _, _, rfl, _⟩ := h; exact ⟨_, _, _, rfl, h365⟩) (fun  ac w hS hA => ?_) rfl rfl rfl rfl rfl rfl rfl rfl
  refine wpList_nil ?_
  refine hKx345 _ _ ?_
  refine hK344 _ _ ?_
  refine wp_reg ?_
  obtain ⟨x368, h369, hF⟩ := ltt_ hF
  refine x_v (v := .int .i64 x368) hA (rv_i h369 (r_add rfl (hA.ev rfl) (hA.ev rfl))) rfl fun ac hA => ?_
  refine x_m hA rfl fun ac hA => ?_
  refine wpList_nil ?_
  replace hS := hS.pk 1
  replace hS := hS.pk 1
  replace hS := hS.pk 2
  cases hF
  exact ⟨_, N339_ _ rfl, Z363, wz364, A353, n354, c355, (Sub.trans h284 sb366), h367, hA.sub _ rfl, hS⟩
 replace hF := iff' hb343 hF
 refine wp_exit ?_
 cases hF
 exact hx339_0 l285 l290 (T339_ _ rfl) Z282 wz283 A286 n287 c288 h284 h289 ac w (hA.sub _ rfl) hS
theorem F_Try_event_Read_1 {r : World} {L : List HP} {w : World} {Z : Nat → Prop} {wz : World} (a0 : (List Int)) (a60 : (List (List Int))) (A0 : Option Addr) (n0 : Nat) (c0 : Nat) (g60 : Nat) {y : (Bool × (List (List Int)))} (hF : Try_event_Read_1 a0 a60 = some y) (ha0 : Imm Z wz (kI .u8) A0 n0 c0 a0) (hS : SH r (own (kM Z wz (kI .u8)) 111 (some ⟨g60, 0, none⟩) 5 5 a60 :: zone Z wz :: L) w) :
  Ret Tryd.prog 39 #[.slice A0 n0 c0, .func (.func 62) #[] #[.pointer (some ⟨g60, 0, none⟩)]] w fun v w' => ∃ (Z' : Nat → Prop) (wz' : World), v = .bool y.1 ∧ Sub Z wz Z' wz' ∧ SH r (own (kM Z' wz' (kI .u8)) 111 (some ⟨g60, 0, none⟩) 5 5 y.2 :: zone Z' wz' :: L) w' := by
 obtain ⟨y', hy, hF⟩ := bnd hF
 refine Ret.mono_ (try_walk (R := fun v w' => ∃ (Z' : Nat → Prop) (wz' : World), v = .bool y.1 ∧ Sub Z wz Z' wz' ∧ SH r (own (kM Z' wz' (kI .u8)) 111 (some ⟨g60, 0, none⟩) 5 5 y.2 :: zone Z' wz' :: L) w') en62 hS (fun g g4 w1 hS1 => ?_)) (fun v w' h => h)
 replace hS1 := obj106_mk (x := ⟨a0⟩) (hS1.pk 1 |> fun h => (SH.pure_ ha0 (h.pk 1)).pk 1)
 replace hS1 := hS1.pk 1
 replace hS1 := hS1.pk 3
 replace hS1 := hS1.pk 3
 replace hS1 := hS1.pk 3
 rcases y' with y' | y'
 ·replace hF := sum_l hF
  cases hF
  left
  refine Ret.mono_ (RetS.lf (F_event_Read_1 (L := blk g4 4 [.bool false] :: L) (⟨a0⟩ : S106) a60 g g60 hy hS1)) ?_
  rintro v w2 ⟨Z', wz', rfl, hs, hS⟩
  replace hS := hS.pk 3
  replace hS := hS.pk 1
  obtain ⟨A', n', c', hS⟩ := obj106_open hS
  have hQ := SH.unpure (hS.pk 1)
  clear hS
  obtain ⟨hi, hS⟩ := hQ
  refine ⟨_, A', n', c', hS, fun w3 h3 => ⟨Z', wz', ?_, hs, h3⟩⟩
  rw [← hi.ln]
 ·replace hF := sum_r hF
  cases hF
  right
  refine Calls.mono (RetS.rf (F_event_Read_1 (L := blk g4 4 [.bool false] :: L) (⟨a0⟩ : S106) a60 g g60 hy hS1)) ?_
  rintro e w2 ⟨rfl, Z', wz', hs, hS⟩
  replace hS := hS.pk 3
  replace hS := hS.drop 1
  exact ⟨rfl, _, hS, fun w3 h3 => ⟨Z', wz', rfl, hs, h3⟩⟩
theorem F_event_Read {r : World} {L : List HP} {w : World} {Z : Nat → Prop} {wz : World} (a0 : (List Int)) (a1 : Int) (a2 : Int) (A0 : Option Addr) (n0 : Nat) (c0 : Nat) {y : ((List S44) × Int × Int)} (hF : event_Read a0 a1 a2 = some y) (ha0 : Imm Z wz (kI .u8) A0 n0 c0 a0) (hG0 : Imm Z wz (kI .u32) (some ⟨0, 0, none⟩) 16 16 gl_page_table) (hS : SH r (zone Z wz :: L) w) :
  Ret Tryd.prog 42 #[.slice A0 n0 c0, .int .i64 a1, .int .i64 a2] w fun v w' => ∃ (Z' : Nat → Prop) (wz' : World) (B0 : Option Addr) (m0 : Nat) (d0 : Nat), v = .tuple #[(.slice B0 m0 d0), (.int .i64 y.2.1), (.int .i64 y.2.2)] ∧ Sub Z wz Z' wz' ∧ SH r (own k44 44 B0 m0 d0 y.1 :: zone Z' wz' :: L) w' := by
 refine enter Tryd.func42 rfl Tryd.ntmps42 [(0, .slice A0 n0 c0), (1, .int .i64 a1), (2, .int .i64 a2)] rfl (by simp) ?_
 intro ac hA Qf hQ hQn
 unfold event_Read at hF
 refine ws fun K101 hK101 => ?_
 refine x_m hA rfl fun ac hA => ?_
 refine x_m hA rfl fun ac hA => ?_
 refine x_m hA rfl fun ac hA => ?_
 refine wn (hK101 _ _ ?_)
 refine ws fun K102 hK102 => ?_
 refine x_m hA rfl fun ac hA => ?_
 refine x_m hA rfl fun ac hA => ?_
 obtain ⟨y103, h104, hF⟩ := bnd hF
 refine x_call en37 hA (F_page_Read (L := zone Z wz :: L) a0 a1 A0 n0 c0 h104 0 rfl ha0 hG0 hS) (fun v ac w hR hA => ?_) rfl rfl rfl rfl rfl
 obtain ⟨B105, m106, d107, rfl, hS⟩ := hR
 refine x_m hA rfl fun ac hA => ?_
 refine x_v hA (r_extract rfl (hA.ev rfl) rfl) rfl fun ac hA => ?_
 refine x_v hA (r_extract rfl (hA.ev rfl) rfl) rfl fun ac hA => ?_
 refine x_v hA (r_extract rfl (hA.ev rfl) rfl) rfl fun ac hA => ?_
 refine x_v hA (r_extract rfl (hA.ev rfl) rfl) rfl fun ac hA => ?_
 refine x_m hA rfl fun ac hA => ?_
 refine x_m hA rfl fun ac hA => ?_
 refine x_m hA rfl fun ac hA => ?_
 refine x_m hA rfl fun ac hA => ?_
 refine wn (hK102 _ _ ?_)
 refine wp_seq_k fun K108 hK108 => ?_
 refine ws fun K109 hK109 => ?_
 refine x_m hA rfl fun ac hA => ?_
 refine x_v hA (r_neI rfl (hA.ev rfl) (hA.ev rfl)) rfl fun ac hA => ?_
 refine wn (hK109 _ _ ?_)
 refine c_if hA rfl (fun hb110 => ?_) fun hb110 => ?_
 ·replace hF := ift hb110 hF
  refine ws fun K111 hK111 => ?_
  refine x_m hA rfl fun ac hA => ?_
  refine x_m hA rfl fun ac hA => ?_
  refine x_m hA rfl fun ac hA => ?_
  refine x_m hA rfl fun ac hA => ?_
  refine wn (hK111 _ _ ?_)
  refine wp_ret ?_
  replace hS := SH.nil_own (d := k44) (e := 44) hS
  replace hS := hS.drop 1
  replace hS := hS.pk 1
  replace hS := hS.pk 1
  cases hF
  refine hQ _ _ ?_
  refine lv3 Tryd.results42 hA rfl rfl rfl ?_
  exact ⟨Z, wz, none, 0, 0, rfl, (Sub.refl _ _), hS⟩
 replace hF := iff' hb110 hF
 refine wp_skip ?_
 refine hK108 _ _ ?_
 refine ws fun K112 hK112 => ?_
 refine x_alloc (cs := [.slice none 0 0, .slice none 0 0, .slice none 0 0, .slice none 0 0, .slice none 0 0]) zr111 hA hS (fun g113 ac w hS hA => ?_) rfl rfl rfl rfl rfl
 replace hS := blk_own (d := (kM Z wz (kI .u8))) (xs := ([[], [], [], [], []] : List (List Int))) ⟨[.slice none 0 0], _, rfl, ⟨_, _, _, rfl, Imm.nil⟩, ⟨[.slice none 0 0], _, rfl, ⟨_, _, _, rfl, Imm.nil⟩, ⟨[.slice none 0 0], _, rfl, ⟨_, _, _, rfl, Imm.nil⟩, ⟨[.slice none 0 0], _, rfl, ⟨_, _, _, rfl, Imm.nil⟩, ⟨[.slice none 0 0], _, rfl, ⟨_, _, _, rfl, Imm.nil⟩, rfl⟩⟩⟩⟩⟩ rfl rfl hS
 refine wn (hK112 _ _ ?_)
 refine wp_seq_k fun K114 hK114 => ?_
 have hj1 : ∀ (l131 : (List (List Int))) (b132 : Bool), event_Read_j1 a2 y103 l131 b132 = some y → ∀ (Z128 : Nat → Prop) (wz129 : World) (h130 : Sub Z wz Z128 wz129) (ac : Act) (w : World), FR 149 [] ac [(2, .int .i64 a2), (11, .int .i64 y103.2.2.1), (13, .pointer (some ⟨g113, 0, none⟩)), (14, .bool b132)] → SH r (own (kM Z128 wz129 (kI .u8)) 111 (some ⟨g113, 0, none⟩) 5 5 l131 :: zone Z128 wz129 :: L) w → K114 ac w := by
  intro l131 b132 hF Z128 wz129 h130 ac w hA hS
  unfold event_Read_j1 at hF
  refine hK114 _ _ ?_
  refine wp_seq_k fun K133 hK133 => ?_
  refine ws fun K134 hK134 => ?_
  refine x_m hA rfl fun ac hA => ?_
  refine x_v hA (r_not rfl (hA.ev rfl)) rfl fun ac hA => ?_
  refine wn (hK134 _ _ ?_)
  refine c_if hA rfl (fun hb135 => ?_) fun hb135 => ?_
  ·replace hF := ift hb135 hF
   refine ws fun K136 hK136 => ?_
   refine x_m hA rfl fun ac hA => ?_
   refine x_m hA rfl fun ac hA => ?_
   refine x_m hA rfl fun ac hA => ?_
   refine wn (hK136 _ _ ?_)
   refine wp_ret ?_
   replace hS := SH.nil_own (d := k44) (e := 44) hS
   replace hS := hS.drop 1
   replace hS := hS.pk 1
   replace hS := hS.pk 1
   cases hF
   refine hQ _ _ ?_
   refine lv3 Tryd.results42 hA rfl rfl rfl ?_
   exact ⟨Z128, wz129, none, 0, 0, rfl, h130, hS⟩
  replace hF := iff' hb135 hF
  refine wp_skip ?_
  refine hK133 _ _ ?_
  refine ws fun K137 hK137 => ?_
  obtain ⟨x138, h139, hF⟩ := bnd hF
  refine x_iaA Tryd.underlying111 sz24 (hS.rd 0 rfl) h139 hA (fun ac hA => ?_) rfl rfl rfl rfl rfl rfl
  obtain ⟨cs, hV, hc140⟩ := el (hS.rd 0 rfl) h139
  obtain ⟨A141, n142, c143, rfl, h144⟩ := hV
  refine x_ld Tryd.underlying24 (hc140 0 _ rfl) hA (fun ac hA => ?_) rfl rfl rfl rfl rfl rfl
  obtain ⟨y145, h146, hF⟩ := bnd hF
  refine x_call en63 hA (F_column_ReadInts (L := own (kM Z128 wz129 (kI .u8)) 111 (some ⟨g113, 0, none⟩) 5 5 l131 :: zone Z128 wz129 :: L) x138 A141 n142 c143 h146 1 rfl h144 hS) (fun v ac w hR hA => ?_) rfl rfl rfl rfl rfl
  obtain ⟨B147, m148, d149, rfl, hS⟩ := hR
  refine x_m hA rfl fun ac hA => ?_
  refine x_v hA (r_extract rfl (hA.ev rfl) rfl) rfl fun ac hA => ?_
  refine x_v hA (r_extract rfl (hA.ev rfl) rfl) rfl fun ac hA => ?_
  refine x_m hA rfl fun ac hA => ?_
  refine x_m hA rfl fun ac hA => ?_
  refine wn (hK137 _ _ ?_)
  refine ws fun K150 hK150 => ?_
  obtain ⟨x151, h152, hF⟩ := bnd hF
  refine x_iaA Tryd.underlying111 sz24 (hS.rd 1 rfl) h152 hA (fun ac hA => ?_) rfl rfl rfl rfl rfl rfl
  obtain ⟨cs, hV, hc153⟩ := el (hS.rd 1 rfl) h152
  obtain ⟨A154, n155, c156, rfl, h157⟩ := hV
  refine x_ld Tryd.underlying24 (hc153 0 _ rfl) hA (fun ac hA => ?_) rfl rfl rfl rfl rfl rfl
  obtain ⟨y158, h159, hF⟩ := bnd hF
  refine x_call en63 hA (F_column_ReadInts (L := own (kI .i64) 2 B147 m148 d149 y145.1 :: own (kM Z128 wz129 (kI .u8)) 111 (some ⟨g113, 0, none⟩) 5 5 l131 :: zone Z128 wz129 :: L) x151 A154 n155 c156 h159 2 rfl h157 hS) (fun v ac w hR hA => ?_) rfl rfl rfl rfl rfl
  obtain ⟨B160, m161, d162, rfl, hS⟩ := hR
  refine x_m hA rfl fun ac hA => ?_
  refine x_v hA (r_extract rfl (hA.ev rfl) rfl) rfl fun ac hA => ?_
  refine x_v hA (r_extract rfl (hA.ev rfl) rfl) rfl fun ac hA => ?_
  refine x_m hA rfl fun ac hA => ?_
  refine x_m hA rfl fun ac hA => ?_
  refine wn (hK150 _ _ ?_)
  refine ws fun K163 hK163 => ?_
  obtain ⟨x164, h165, hF⟩ := bnd hF
  refine x_iaA Tryd.underlying111 sz24 (hS.rd 2 rfl) h165 hA (fun ac hA => ?_) rfl rfl rfl rfl rfl rfl
  obtain ⟨cs, hV, hc166⟩ := el (hS.rd 2 rfl) h165
  obtain ⟨A167, n168, c169, rfl, h170⟩ := hV
  refine x_ld Tryd.underlying24 (hc166 0 _ rfl) hA (fun ac hA => ?_) rfl rfl rfl rfl rfl rfl
  obtain ⟨y171, h172, hF⟩ := bnd hF
  refine x_call en63 hA (F_column_ReadInts (L := own (kI .i64) 2 B160 m161 d162 y158.1 :: own (kI .i64) 2 B147 m148 d149 y145.1 :: own (kM Z128 wz129 (kI .u8)) 111 (some ⟨g113, 0, none⟩) 5 5 l131 :: zone Z128 wz129 :: L) x164 A167 n168 c169 h172 3 rfl h170 hS) (fun v ac w hR hA => ?_) rfl rfl rfl rfl rfl
  obtain ⟨B173, m174, d175, rfl, hS⟩ := hR
  refine x_m hA rfl fun ac hA => ?_
  refine x_v hA (r_extract rfl (hA.ev rfl) rfl) rfl fun ac hA => ?_
  refine x_v hA (r_extract rfl (hA.ev rfl) rfl) rfl fun ac hA => ?_
  refine x_m hA rfl fun ac hA => ?_
  refine x_m hA rfl fun ac hA => ?_
  refine wn (hK163 _ _ ?_)
  refine ws fun K176 hK176 => ?_
  obtain ⟨x177, h178, hF⟩ := bnd hF
  refine x_iaA Tryd.underlying111 sz24 (hS.rd 3 rfl) h178 hA (fun ac hA => ?_) rfl rfl rfl rfl rfl rfl
  obtain ⟨cs, hV, hc179⟩ := el (hS.rd 3 rfl) h178
  obtain ⟨A180, n181, c182, rfl, h183⟩ := hV
  refine x_ld Tryd.underlying24 (hc179 0 _ rfl) hA (fun ac hA => ?_) rfl rfl rfl rfl rfl rfl
  obtain ⟨y184, h185, hF⟩ := bnd hF
  refine x_call en64 hA (F_column_ReadTexts (L := own (kI .i64) 2 B173 m174 d175 y171.1 :: own (kI .i64) 2 B160 m161 d162 y158.1 :: own (kI .i64) 2 B147 m148 d149 y145.1 :: own (kM Z128 wz129 (kI .u8)) 111 (some ⟨g113, 0, none⟩) 5 5 l131 :: zone Z128 wz129 :: L) x177 A180 n181 c182 h185 4 rfl h183 hS) (fun v ac w hR hA => ?_) rfl rfl rfl rfl rfl
  obtain ⟨B186, m187, d188, rfl, hS⟩ := hR
  refine x_m hA rfl fun ac hA => ?_
  refine x_v hA (r_extract rfl (hA.ev rfl) rfl) rfl fun ac hA => ?_
  refine x_v hA (r_extract rfl (hA.ev rfl) rfl) rfl fun ac hA => ?_
  refine x_m hA rfl fun ac hA => ?_
  refine x_m hA rfl fun ac hA => ?_
  refine wn (hK176 _ _ ?_)
  refine ws fun K189 hK189 => ?_
  obtain ⟨x190, h191, hF⟩ := bnd hF
  refine x_iaA Tryd.underlying111 sz24 (hS.rd 4 rfl) h191 hA (fun ac hA => ?_) rfl rfl rfl rfl rfl rfl
  obtain ⟨cs, hV, hc192⟩ := el (hS.rd 4 rfl) h191
  obtain ⟨A193, n194, c195, rfl, h196⟩ := hV
  refine x_ld Tryd.underlying24 (hc192 0 _ rfl) hA (fun ac hA => ?_) rfl rfl rfl rfl rfl rfl
  obtain ⟨y197, h198, hF⟩ := bnd hF
  refine x_call en65 hA (F_column_ReadReals (L := own kS 9 B186 m187 d188 y184.1 :: own (kI .i64) 2 B173 m174 d175 y171.1 :: own (kI .i64) 2 B160 m161 d162 y158.1 :: own (kI .i64) 2 B147 m148 d149 y145.1 :: own (kM Z128 wz129 (kI .u8)) 111 (some ⟨g113, 0, none⟩) 5 5 l131 :: zone Z128 wz129 :: L) x190 A193 n194 c195 h198 5 rfl h196 hS) (fun v ac w hR hA => ?_) rfl rfl rfl rfl rfl
  obtain ⟨B199, m200, d201, rfl, hS⟩ := hR
  refine x_m hA rfl fun ac hA => ?_
  refine x_v hA (r_extract rfl (hA.ev rfl) rfl) rfl fun ac hA => ?_
  refine x_v hA (r_extract rfl (hA.ev rfl) rfl) rfl fun ac hA => ?_
  refine x_m hA rfl fun ac hA => ?_
  refine x_m hA rfl fun ac hA => ?_
  refine wn (hK189 _ _ ?_)
  refine ws fun K202 hK202 => ?_
  refine x_m hA rfl fun ac hA => ?_
  refine x_len Tryd.underlying90 (hS.rd 4 rfl).2.1 hA (fun ac hA => ?_) rfl rfl rfl rfl rfl
  refine x_m hA rfl fun ac hA => ?_
  refine wn (hK202 _ _ ?_)
  refine wp_seq_k fun K203 hK203 => ?_
  refine wp_seq_k fun K204 hK204 => ?_
  have hj2 : ∀ (b212 : Bool), event_Read_j2 a2 y103 y145 y158 y171 y184 y197 b212 = some y → ∀ (ac : Act) (w : World), FR 149 [] ac [(2, .int .i64 a2), (11, .int .i64 y103.2.2.1), (15, .slice B147 m148 d149), (17, .slice B160 m161 d162), (19, .slice B173 m174 d175), (21, .slice B186 m187 d188), (23, .slice B199 m200 d201), (25, .int .i64 (y145.1.length : Int)), (111, .bool b212)] → SH r (own (kI .i64) 2 B147 m148 d149 y145.1 :: own (kI .i64) 2 B160 m161 d162 y158.1 :: own (kI .i64) 2 B173 m174 d175 y171.1 :: own kS 9 B186 m187 d188 y184.1 :: own kF 42 B199 m200 d201 y197.1 :: zone Z128 wz129 :: L) w → K204 ac w := by
   intro b212 hF ac w hA hS
   unfold event_Read_j2 at hF
   refine hK204 _ _ ?_
   refine c_if hA rfl (fun hb213 => ?_) fun hb213 => ?_
   ·replace hF := ift hb213 hF
    refine ws fun K214 hK214 => ?_
    refine x_m hA rfl fun ac hA => ?_
    refine x_m hA rfl fun ac hA => ?_
    refine x_m hA rfl fun ac hA => ?_
    refine wn (hK214 _ _ ?_)
    refine wp_ret ?_
    replace hS := SH.nil_own (d := k44) (e := 44) hS
    replace hS := hS.drop 1
    replace hS := hS.drop 1
    replace hS := hS.drop 1
    replace hS := hS.drop 1
    replace hS := hS.drop 1
    replace hS := hS.pk 1
    replace hS := hS.pk 1
    cases hF
    refine hQ _ _ ?_
    refine lv3 Tryd.results42 hA rfl rfl rfl ?_
    exact ⟨Z128, wz129, none, 0, 0, rfl, h130, hS⟩
   replace hF := iff' hb213 hF
   refine wp_skip ?_
   refine hK203 _ _ ?_
   refine ws fun K215 hK215 => ?_
   refine x_m hA rfl fun ac hA => ?_
   refine wn (hK215 _ _ ?_)
   refine wp_seq_k fun K216 hK216 => ?_
   refine ws fun K538 hK538 => ?_
   refine x_m hA rfl fun ac hA => ?_
   refine x_m hA rfl fun ac hA => ?_
   refine wn (hK538 _ _ ?_)
   refine wp_block_k fun Kx539 hKx539 => ?_
   have hb1 : ∀ (l697 : (List S44)), event_Read_b1 y103 l697 = some y → ∀ (A698 : Option Addr) (n699 : Nat) (c700 : Nat) (ac : Act) (w : World), FR 149 [] ac [(11, .int .i64 y103.2.2.1), (26, .slice A698 n699 c700)] → SH r (own k44 44 A698 n699 c700 l697 :: zone Z128 wz129 :: L) w → Kx539 ac w := by
    intro l697 hF A698 n699 c700 ac w hA hS
    unfold event_Read_b1 at hF
    refine hKx539 _ _ ?_
    refine hK216 _ _ ?_
    refine ws fun K701 hK701 => ?_
    refine x_m hA rfl fun ac hA => ?_
    refine x_m hA rfl fun ac hA => ?_
    refine x_m hA rfl fun ac hA => ?_
    refine x_m hA rfl fun ac hA => ?_
    refine x_m hA rfl fun ac hA => ?_
    refine wn (hK701 _ _ ?_)
    refine wp_ret ?_
    replace hS := hS.pk 1
    replace hS := hS.pk 1
    cases hF
    refine hQ _ _ ?_
    refine lv3 Tryd.results42 hA rfl rfl rfl ?_
    exact ⟨Z128, wz129, A698, n699, c700, rfl, h130, hS⟩
   obtain ⟨t814, hl814, hF⟩ := bnd hF
   have hR814 := hF
   have hx814_0 : ∀ (l811 : (List S44)), (.inl (l811)) = t814 → ∀ (A812 : Option Addr) (n813 : Nat) (c814 : Nat) (ac : Act) (w : World), FR 149 [] ac [(11, .int .i64 y103.2.2.1), (26, .slice A812 n813 c814)] → SH r (own k44 44 A812 n813 c814 l811 :: zone Z128 wz129 :: L) w → Kx539 ac w := by
    intro l811 ht A812 n813 c814 ac w hA hS
    subst ht
    replace hF : event_Read_x1_0 y103 l811 = some y := hF
    unfold event_Read_x1_0 at hF
    exact hb1 l811 hF A812 n813 c814 ac w (hA.sub _ rfl) hS
   replace hS := SH.nil_own (d := k44) (e := 44) hS
   replace hS := hS.pk 6
   replace hS := hS.pk 1
   replace hS := hS.pk 6
   replace hS := hS.pk 6
   replace hS := hS.pk 6
   replace hS := hS.pk 6
   replace hS := hS.pk 6
   refine wp_loop_fn hl814 (fun s ac w => ∃ (A759 : Option Addr) (n760 : Nat) (c761 : Nat), FR 149 [] ac [(2, .int .i64 a2), (11, .int .i64 y103.2.2.1), (15, .slice B147 m148 d149), (17, .slice B160 m161 d162), (19, .slice B173 m174 d175), (21, .slice B186 m187 d188), (23, .slice B199 m200 d201), (26, .slice A759 n760 c761), (112, .int .i64 (y145.1.length : Int)), (113, .int .i64 s.2)] ∧ SH r (own (kI .i64) 2 B147 m148 d149 y145.1 :: own (kI .i64) 2 B160 m161 d162 y158.1 :: own (kI .i64) 2 B173 m174 d175 y171.1 :: own kS 9 B186 m187 d188 y184.1 :: own kF 42 B199 m200 d201 y197.1 :: own k44 44 A759 n760 c761 s.1 :: zone Z128 wz129 :: L) w) ⟨none, 0, 0, hA.sub _ rfl, hS⟩ ?_
   intro N814 s814 o814 hF N814_ T814_ ac w hLab
   obtain ⟨l758, x762⟩ := s814
   replace hF : event_Read_l1 a2 y145 y158 y171 y184 y197 l758 x762 = some o814 := hF
   unfold event_Read_l1 at hF
   try dsimp only at hLab
   obtain ⟨A759, n760, c761, hA, hS⟩ := hLab
   refine ws fun K816 hK816 => ?_
   refine x_v hA (r_ltI rfl (hA.ev rfl) (hA.ev rfl)) rfl fun ac hA => ?_
   refine wn (hK816 _ _ ?_)
   refine wp_seq_k fun K817 hK817 => ?_
   refine c_if hA rfl (fun hb818 => ?_) fun hb818 => ?_
   ·replace hF := ift hb818 hF
    refine wp_skip ?_
    refine hK817 _ _ ?_
    refine wp_seq_k fun K819 hK819 => ?_
    refine wp_block_k fun Kx820 hKx820 => ?_
    refine ws fun K821 hK821 => ?_
    refine x_m hA rfl fun ac hA => ?_
    refine x_m hA rfl fun ac hA => ?_
    refine wn (hK821 _ _ ?_)
    refine wp_seq_k fun K822 hK822 => ?_
    refine wp_draw [0, 0, 3, 7, 15, 0, 0, 96, 224, 0, 0, 1536, 3584, 0, 0, 24576, 57344, 0, 0, 393216, 917504, 2097151, 0, 8388607] [22, 23] rfl hA hS (by kernel_rfl) (by kernel_rfl) (by kernel_rfl) (by kernel_rfl) fun w hS => ?_
    obtain ⟨x823, h824, hF⟩ := bnd hF
    obtain ⟨cs, hV, hc825⟩ := el (hS.rd 0 rfl) h824
    obtain rfl := hV
    obtain ⟨x826, h827, hF⟩ := ltt_ hF
    obtain ⟨x828, h829, hF⟩ := bnd hF
    obtain ⟨cs, hV, hc830⟩ := el (hS.rd 1 rfl) h829
    obtain rfl := hV
    obtain ⟨x831, h832, hF⟩ := bnd hF
    obtain ⟨cs, hV, hc833⟩ := el (hS.rd 2 rfl) h832
    obtain rfl := hV
    obtain ⟨x834, h835, hF⟩ := bnd hF
    obtain ⟨cs, hV, hc836⟩ := el (hS.rd 3 rfl) h835
    obtain rfl := hV
    obtain ⟨x837, h838, hF⟩ := bnd hF
    obtain ⟨cs, hV, hc839⟩ := el (hS.rd 4 rfl) h838
    obtain rfl := hV
    refine ⟨[(0, .slice B147 m148 d149), (1, .int .i64 x762), (2, .pointer (some (ea B147 (x762.toNat * 1)))), (3, .int .i64 x823), (4, .int .u64 x826), (5, .slice B160 m161 d162), (6, .int .i64 x762), (7, .pointer (some (ea B160 (x762.toNat * 1)))), (8, .int .i64 x828), (9, .slice B173 m174 d175), (10, .int .i64 x762), (11, .pointer (some (ea B173 (x762.toNat * 1)))), (12, .int .i64 x831), (13, .slice B186 m187 d188), (14, .int .i64 x762), (15, .pointer (some (ea B186 (x762.toNat * 1)))), (16, str x834), (17, .slice B199 m200 d201), (18, .int .i64 x762), (19, .pointer (some (ea B199 (x762.toNat * 1)))), (20, .float .f64 x837), (21, .agg #[.int .u64 x826, .int .i64 x828, .int .i64 x831, str x834, .float .f64 x837])], ?_⟩
    refine dEff [0, 1, 2, 3, 4, 5, 6, 7, 8, 9, 10, 11, 12, 13, 14, 15, 16, 17, 18, 19, 20, 21] [22] (by kernel_rfl) ⟨pu rfl rfl [(15, .slice B147 m148 d149)] (fun ac hA => y_move hA rfl rfl) rfl rfl, pu rfl rfl [(27, .int .i64 x762)] (fun ac hA => y_move hA rfl rfl) rfl rfl, pu rfl rfl [(116, .slice B147 m148 d149), (117, .int .i64 x762)] (fun ac hA => y_ia Tryd.underlying90 sz2 (hS.rd 0 rfl) h824 hA rfl rfl rfl) rfl rfl, pu rfl rfl [(118, .pointer (some (ea B147 (x762.toNat * 1))))] (fun ac hA => y_ld Tryd.underlying2 (hc825 0 _ rfl) hA rfl rfl rfl) rfl rfl, pu rfl rfl [(119, .int .i64 x823)] (fun ac hA => (rv_i h827 (r_convI Tryd.underlying2 Tryd.underlying31 rfl (hA.ev rfl)) : RunV _ _ _ _ (.int .u64 x826))) rfl rfl, pu rfl rfl [(17, .slice B160 m161 d162)] (fun ac hA => y_move hA rfl rfl) rfl rfl, pu rfl rfl [(27, .int .i64 x762)] (fun ac hA => y_move hA rfl rfl) rfl rfl, pu rfl rfl [(121, .slice B160 m161 d162), (122, .int .i64 x762)] (fun ac hA => y_ia Tryd.underlying90 sz2 (hS.rd 1 rfl) h829 hA rfl rfl rfl) rfl rfl, pu rfl rfl [(123, .pointer (some (ea B160 (x762.toNat * 1))))] (fun ac hA => y_ld Tryd.underlying2 (hc830 0 _ rfl) hA rfl rfl rfl) rfl rfl, pu rfl rfl [(19, .slice B173 m174 d175)] (fun ac hA => y_move hA rfl rfl) rfl rfl, pu rfl rfl [(27, .int .i64 x762)] (fun ac hA => y_move hA rfl rfl) rfl rfl, pu rfl rfl [(125, .slice B173 m174 d175), (126, .int .i64 x762)] (fun ac hA => y_ia Tryd.underlying90 sz2 (hS.rd 2 rfl) h832 hA rfl rfl rfl) rfl rfl, pu rfl rfl [(127, .pointer (some (ea B173 (x762.toNat * 1))))] (fun ac hA => y_ld Tryd.underlying2 (hc833 0 _ rfl) hA rfl rfl rfl) rfl rfl, pu rfl rfl [(21, .slice B186 m187 d188)] (fun ac hA => y_move hA rfl rfl) rfl rfl, pu rfl rfl [(27, .int .i64 x762)] (fun ac hA => y_move hA rfl rfl) rfl rfl, pu rfl rfl [(129, .slice B186 m187 d188), (130, .int .i64 x762)] (fun ac hA => y_ia Tryd.underlying91 sz9 (hS.rd 3 rfl) h835 hA rfl rfl rfl) rfl rfl, pu rfl rfl [(131, .pointer (some (ea B186 (x762.toNat * 1))))] (fun ac hA => y_ld Tryd.underlying9 (hc836 0 _ rfl) hA rfl rfl rfl) rfl rfl, pu rfl rfl [(23, .slice B199 m200 d201)] (fun ac hA => y_move hA rfl rfl) rfl rfl, pu rfl rfl [(27, .int .i64 x762)] (fun ac hA => y_move hA rfl rfl) rfl rfl, pu rfl rfl [(133, .slice B199 m200 d201), (134, .int .i64 x762)] (fun ac hA => y_ia Tryd.underlying92 sz42 (hS.rd 4 rfl) h838 hA rfl rfl rfl) rfl rfl, pu rfl rfl [(135, .pointer (some (ea B199 (x762.toNat * 1))))] (fun ac hA => y_ld Tryd.underlying42 (hc839 0 _ rfl) hA rfl rfl rfl) rfl rfl, pu rfl rfl [(120, .int .u64 x826), (124, .int .i64 x828), (128, .int .i64 x831), (132, str x834), (136, .float .f64 x837)] (fun ac hA => (r_build (ps := #[(0, .int .u64 x826), (1, .int .i64 x828), (2, .int .i64 x831), (3, str x834), (4, .float .f64 x837)]) rfl (mapev2 hA rfl) (fun w => by kernel_rfl) : RunV _ _ _ _ (.agg #[.int .u64 x826, .int .i64 x828, .int .i64 x831, str x834, .float .f64 x837]))) rfl rfl, trivial⟩ (by kernel_rfl) (by kernel_rfl) ⟨ef rfl [] (fun ac hA K hK => ?_) rfl rfl, trivial⟩
    refine z_alloc (cs := [.int .u64 0, .int .i64 0, .int .i64 0, str [], .float .f64 0]) zr44 hA hS (fun g840 w hS => ?_) rfl rfl
    obtain ⟨cs, hV, hc841⟩ := el (hS.rd 1 rfl) h824
    obtain rfl := hV
    obtain ⟨cs, hV, hc842⟩ := el (hS.rd 2 rfl) h829
    obtain rfl := hV
    obtain ⟨cs, hV, hc843⟩ := el (hS.rd 3 rfl) h832
    obtain rfl := hV
    obtain ⟨cs, hV, hc844⟩ := el (hS.rd 4 rfl) h835
    obtain rfl := hV
    obtain ⟨cs, hV, hc845⟩ := el (hS.rd 5 rfl) h838
    obtain rfl := hV
    refine hK _ [] _ rfl ?_
    refine dEff [0, 1, 2, 3, 4, 5, 6, 7, 8, 9, 10, 11, 12, 13, 14, 15, 16, 17, 18, 19, 20, 21] [23] (by kernel_rfl) ⟨pu rfl rfl [(15, .slice B147 m148 d149)] (fun ac hA => y_move hA rfl rfl) rfl rfl, pu rfl rfl [(27, .int .i64 x762)] (fun ac hA => y_move hA rfl rfl) rfl rfl, pu rfl rfl [(116, .slice B147 m148 d149), (117, .int .i64 x762)] (fun ac hA => y_ia Tryd.underlying90 sz2 (hS.rd 1 rfl) h824 hA rfl rfl rfl) rfl rfl, pu rfl rfl [(118, .pointer (some (ea B147 (x762.toNat * 1))))] (fun ac hA => y_ld Tryd.underlying2 (hc841 0 _ rfl) hA rfl rfl rfl) rfl rfl, pu rfl rfl [(119, .int .i64 x823)] (fun ac hA => (rv_i h827 (r_convI Tryd.underlying2 Tryd.underlying31 rfl (hA.ev rfl)) : RunV _ _ _ _ (.int .u64 x826))) rfl rfl, pu rfl rfl [(17, .slice B160 m161 d162)] (fun ac hA => y_move hA rfl rfl) rfl rfl, pu rfl rfl [(27, .int .i64 x762)] (fun ac hA => y_move hA rfl rfl) rfl rfl, pu rfl rfl [(121, .slice B160 m161 d162), (122, .int .i64 x762)] (fun ac hA => y_ia Tryd.underlying90 sz2 (hS.rd 2 rfl) h829 hA rfl rfl rfl) rfl rfl, pu rfl rfl [(123, .pointer (some (ea B160 (x762.toNat * 1))))] (fun ac hA => y_ld Tryd.underlying2 (hc842 0 _ rfl) hA rfl rfl rfl) rfl rfl, pu rfl rfl [(19, .slice B173 m174 d175)] (fun ac hA => y_move hA rfl rfl) rfl rfl, pu rfl rfl [(27, .int .i64 x762)] (fun ac hA => y_move hA rfl rfl) rfl rfl, pu rfl rfl [(125, .slice B173 m174 d175), (126, .int .i64 x762)] (fun ac hA => y_ia Tryd.underlying90 sz2 (hS.rd 3 rfl) h832 hA rfl rfl rfl) rfl rfl, pu rfl rfl [(127, .pointer (some (ea B173 (x762.toNat * 1))))] (fun ac hA => y_ld Tryd.underlying2 (hc843 0 _ rfl) hA rfl rfl rfl) rfl rfl, pu rfl rfl [(21, .slice B186 m187 d188)] (fun ac hA => y_move hA rfl rfl) rfl rfl, pu rfl rfl [(27, .int .i64 x762)] (fun ac hA => y_move hA rfl rfl) rfl rfl, pu rfl rfl [(129, .slice B186 m187 d188), (130, .int .i64 x762)] (fun ac hA => y_ia Tryd.underlying91 sz9 (hS.rd 4 rfl) h835 hA rfl rfl rfl) rfl rfl, pu rfl rfl [(131, .pointer (some (ea B186 (x762.toNat * 1))))] (fun ac hA => y_ld Tryd.underlying9 (hc844 0 _ rfl) hA rfl rfl rfl) rfl rfl, pu rfl rfl [(23, .slice B199 m200 d201)] (fun ac hA => y_move hA rfl rfl) rfl rfl, pu rfl rfl [(27, .int .i64 x762)] (fun ac hA => y_move hA rfl rfl) rfl rfl, pu rfl rfl [(133, .slice B199 m200 d201), (134, .int .i64 x762)] (fun ac hA => y_ia Tryd.underlying92 sz42 (hS.rd 5 rfl) h838 hA rfl rfl rfl) rfl rfl, pu rfl rfl [(135, .pointer (some (ea B199 (x762.toNat * 1))))] (fun ac hA => y_ld Tryd.underlying42 (hc845 0 _ rfl) hA rfl rfl rfl) rfl rfl, pu rfl rfl [(120, .int .u64 x826), (124, .int .i64 x828), (128, .int .i64 x831), (132, str x834), (136, .float .f64 x837)] (fun ac hA => (r_build (ps := #[(0, .int .u64 x826), (1, .int .i64 x828), (2, .int .i64 x831), (3, str x834), (4, .float .f64 x837)]) rfl (mapev2 hA rfl) (fun w => by kernel_rfl) : RunV _ _ _ _ (.agg #[.int .u64 x826, .int .i64 x828, .int .i64 x831, str x834, .float .f64 x837]))) rfl rfl, trivial⟩ (by kernel_rfl) (by kernel_rfl) ⟨ef rfl [(28, .pointer (some ⟨g840, 0, none⟩)), (137, .agg #[.int .u64 x826, .int .i64 x828, .int .i64 x831, str x834, .float .f64 x837])] (fun ac hA K hK => ?_) rfl rfl, trivial⟩
    refine z_stb 0 sz44 hA hS rfl (fun  w hS => ?_) rfl rfl rfl rfl rfl rfl
    refine hK _ [] _ rfl ?_
    refine dEnd [] (by kernel_rfl) trivial ⟨by kernel_rfl, by kernel_rfl⟩ [(2, .int .i64 a2), (11, .int .i64 y103.2.2.1), (15, .slice B147 m148 d149), (17, .slice B160 m161 d162), (19, .slice B173 m174 d175), (21, .slice B186 m187 d188), (23, .slice B199 m200 d201), (26, .slice A759 n760 c761), (28, .pointer (some ⟨g840, 0, none⟩)), (112, .int .i64 (y145.1.length : Int)), (113, .int .i64 x762)] rfl (fun ac hA => ?_)
    refine hK822 _ _ ?_
    refine wp_seq_k fun K846 hK846 => ?_
    refine ws fun K847 hK847 => ?_
    refine x_lda (ad := ⟨g840, 0, none⟩) (cs := [.int .u64 x826, .int .i64 x828, .int .i64 x831, str x834, .float .f64 x837]) Tryd.underlying44 sz44 (fun j u h => by rw [add_mk, Nat.zero_add]; exact hS.cell 0 rfl j u h) hA (fun ac hA => ?_) rfl rfl rfl rfl rfl rfl
    refine x_m hA rfl fun ac hA => ?_
    obtain ⟨y848, h849, hF⟩ := bnd hF
    refine x_call en23 hA (F_event_Form (L := blk g840 44 [.int .u64 x826, .int .i64 x828, .int .i64 x831, str x834, .float .f64 x837] :: own (kI .i64) 2 B147 m148 d149 y145.1 :: own (kI .i64) 2 B160 m161 d162 y158.1 :: own (kI .i64) 2 B173 m174 d175 y171.1 :: own kS 9 B186 m187 d188 y184.1 :: own kF 42 B199 m200 d201 y197.1 :: own k44 44 A759 n760 c761 l758 :: zone Z128 wz129 :: L) (⟨x826, x828, x831, x834, x837⟩ : S44) a2 h849 hS) (fun v ac w hR hA => ?_) rfl rfl rfl rfl rfl
    obtain ⟨rfl, hS⟩ := hR
    refine x_v hA (r_not rfl (hA.ev rfl)) rfl fun ac hA => ?_
    refine wn (hK847 _ _ ?_)
    refine c_if hA rfl (fun hb850 => ?_) fun hb850 => ?_
    ·replace hF := ift hb850 hF
     refine ws fun K851 hK851 => ?_
     refine x_m hA rfl fun ac hA => ?_
     refine x_m hA rfl fun ac hA => ?_
     refine x_m hA rfl fun ac hA => ?_
     refine wn (hK851 _ _ ?_)
     refine wp_ret ?_
     replace hS := SH.nil_own (d := k44) (e := 44) hS
     replace hS := hS.drop 1
     replace hS := hS.drop 1
     replace hS := hS.drop 1
     replace hS := hS.drop 1
     replace hS := hS.drop 1
     replace hS := hS.drop 1
     replace hS := hS.drop 1
     replace hS := hS.pk 1
     replace hS := hS.pk 1
     cases hF
     have ht := T814_ _ rfl
     subst ht
     replace hF := hR814
     replace hF : some ([], 0, 3) = some y := hF
     cases hF
     refine hQ _ _ ?_
     refine lv3 Tryd.results42 hA rfl rfl rfl ?_
     exact ⟨Z128, wz129, none, 0, 0, rfl, h130, hS⟩
    replace hF := iff' hb850 hF
    refine wp_skip ?_
    refine hK846 _ _ ?_
    refine wp_reg ?_
    refine x_m hA rfl fun ac hA => ?_
    refine x_lda (ad := ⟨g840, 0, none⟩) (cs := [.int .u64 x826, .int .i64 x828, .int .i64 x831, str x834, .float .f64 x837]) Tryd.underlying44 sz44 (fun j u h => by rw [add_mk, Nat.zero_add]; exact hS.cell 0 rfl j u h) hA (fun ac hA => ?_) rfl rfl rfl rfl rfl rfl
    refine x_bsl (d := k44) (e := 44) (ps := #[(0, .agg #[.int .u64 x826, .int .i64 x828, .int .i64 x831, str x834, .float .f64 x837])]) (cells := [.int .u64 x826, .int .i64 x828, .int .i64 x831, str x834, .float .f64 x837]) (xs := [(⟨x826, x828, x831, x834, x837⟩ : S44)]) (fun w => by kernel_rfl) rfl ⟨[.int .u64 x826, .int .i64 x828, .int .i64 x831, str x834, .float .f64 x837], _, rfl, rfl, rfl⟩ hA hS (fun g852 ac w hS hA => ?_) rfl rfl rfl rfl rfl rfl
    obtain ⟨h853, hF⟩ := chk_some hF
    have hr := hS.rd 0 rfl
    refine x_app 7 inf44 Tryd.underlying22 hA hS hr.1 hr.2.1 h853 rfl (fun A854 n855 c856 ac w hS hA => ?_) rfl rfl rfl rfl rfl rfl rfl rfl rfl
    refine x_m hA rfl fun ac hA => ?_
    refine wpList_nil ?_
    refine hKx820 _ _ ?_
    refine hK819 _ _ ?_
    refine wp_reg ?_
    obtain ⟨x857, h858, hF⟩ := ltt_ hF
    refine x_v (v := .int .i64 x857) hA (rv_i h858 (r_add rfl (hA.ev rfl) (hA.ev rfl))) rfl fun ac hA => ?_
    refine x_m hA rfl fun ac hA => ?_
    refine wpList_nil ?_
    replace hS := hS.drop 1
    replace hS := hS.drop 1
    replace hS := hS.pk 6
    replace hS := hS.pk 1
    replace hS := hS.pk 6
    replace hS := hS.pk 6
    replace hS := hS.pk 6
    replace hS := hS.pk 6
    replace hS := hS.pk 6
    cases hF
    exact ⟨_, N814_ _ rfl, A854, n855, c856, hA.sub _ rfl, hS⟩
   replace hF := iff' hb818 hF
   refine wp_exit ?_
   replace hS := hS.drop 0
   replace hS := hS.drop 0
   replace hS := hS.drop 0
   replace hS := hS.drop 0
   replace hS := hS.drop 0
   cases hF
   exact hx814_0 l758 (T814_ _ rfl) A759 n760 c761 ac w (hA.sub _ rfl) hS
  refine wp_reg ?_
  refine x_m hA rfl fun ac hA => ?_
  refine x_m hA rfl fun ac hA => ?_
  refine x_m hA rfl fun ac hA => ?_
  refine x_m hA rfl fun ac hA => ?_
  refine x_m hA rfl fun ac hA => ?_
  refine x_bsl (d := (kI .i64)) (e := 25) (ps := #[(0, .int .i64 y145.2), (1, .int .i64 y158.2), (2, .int .i64 y171.2), (3, .int .i64 y184.2), (4, .int .i64 y197.2)]) (cells := [.int .i64 y145.2, .int .i64 y158.2, .int .i64 y171.2, .int .i64 y184.2, .int .i64 y197.2]) (xs := [y145.2, y158.2, y171.2, y184.2, y197.2]) (fun w => by kernel_rfl) rfl ⟨[.int .i64 y145.2], _, rfl, rfl, ⟨[.int .i64 y158.2], _, rfl, rfl, ⟨[.int .i64 y171.2], _, rfl, rfl, ⟨[.int .i64 y184.2], _, rfl, rfl, ⟨[.int .i64 y197.2], _, rfl, rfl, rfl⟩⟩⟩⟩⟩ hA hS (fun g859 ac w hS hA => ?_) rfl rfl rfl rfl rfl rfl
  obtain ⟨y860, h861, hF⟩ := bnd hF
  refine x_call en66 hA (F_slices_Contains_api_Errno_api_Errno (L := own (kI .i64) 25 (some ⟨g859, 0, none⟩) 5 5 [y145.2, y158.2, y171.2, y184.2, y197.2] :: own kF 42 B199 m200 d201 y197.1 :: own kS 9 B186 m187 d188 y184.1 :: own (kI .i64) 2 B173 m174 d175 y171.1 :: own (kI .i64) 2 B160 m161 d162 y158.1 :: own (kI .i64) 2 B147 m148 d149 y145.1 :: own (kM Z128 wz129 (kI .u8)) 111 (some ⟨g113, 0, none⟩) 5 5 l131 :: zone Z128 wz129 :: L) [y145.2, y158.2, y171.2, y184.2, y197.2] 3 (some ⟨g859, 0, none⟩) 5 5 h861 (RdL.own 0 rfl (hS.dropN 0)) hS) (fun v ac w hR hA => ?_) rfl rfl rfl rfl rfl
  obtain ⟨rfl, hS⟩ := hR
  refine x_m hA rfl fun ac hA => ?_
  refine bcase (b := y860) (fun hb862 => ?_) fun hb862 => ?_
  ·replace hF := ift hb862 hF
   refine x_off hb862 hA (fun ac hA => ?_) rfl rfl rfl rfl rfl
   refine x_off hb862 hA (fun ac hA => ?_) rfl rfl rfl rfl rfl
   refine x_off hb862 hA (fun ac hA => ?_) rfl rfl rfl rfl rfl
   refine x_off hb862 hA (fun ac hA => ?_) rfl rfl rfl rfl rfl
   refine x_pickt hb862 hA (fun ac hA => ?_) rfl rfl rfl rfl rfl rfl
   refine x_m hA rfl fun ac hA => ?_
   refine x_off rfl hA (fun ac hA => ?_) rfl rfl rfl rfl rfl
   refine x_off rfl hA (fun ac hA => ?_) rfl rfl rfl rfl rfl
   refine x_off rfl hA (fun ac hA => ?_) rfl rfl rfl rfl rfl
   refine x_off rfl hA (fun ac hA => ?_) rfl rfl rfl rfl rfl
   refine x_pickt rfl hA (fun ac hA => ?_) rfl rfl rfl rfl rfl rfl
   refine x_m hA rfl fun ac hA => ?_
   refine x_off rfl hA (fun ac hA => ?_) rfl rfl rfl rfl rfl
   refine x_off rfl hA (fun ac hA => ?_) rfl rfl rfl rfl rfl
   refine x_off rfl hA (fun ac hA => ?_) rfl rfl rfl rfl rfl
   refine x_off rfl hA (fun ac hA => ?_) rfl rfl rfl rfl rfl
   refine x_pickt rfl hA (fun ac hA => ?_) rfl rfl rfl rfl rfl rfl
   refine x_m hA rfl fun ac hA => ?_
   refine x_off rfl hA (fun ac hA => ?_) rfl rfl rfl rfl rfl
   refine x_off rfl hA (fun ac hA => ?_) rfl rfl rfl rfl rfl
   refine x_off rfl hA (fun ac hA => ?_) rfl rfl rfl rfl rfl
   refine x_off rfl hA (fun ac hA => ?_) rfl rfl rfl rfl rfl
   refine x_pickt rfl hA (fun ac hA => ?_) rfl rfl rfl rfl rfl rfl
   refine wpList_nil ?_
   replace hS := hS.drop 0
   replace hS := hS.drop 5
   replace hS := hS.pk 5
   replace hS := hS.pk 1
   replace hS := hS.pk 2
   replace hS := hS.pk 3
   replace hS := hS.pk 4
   replace hS := hS.pk 5
   exact hj2 true hF ac w (hA.sub _ rfl) hS
  replace hF := iff' hb862 hF
  refine x_on hb862 hA ?_ rfl rfl rfl
  refine x_m hA rfl fun ac hA => ?_
  refine x_on hb862 hA ?_ rfl rfl rfl
  refine x_len Tryd.underlying90 (hS.rd 4 rfl).2.1 hA (fun ac hA => ?_) rfl rfl rfl rfl rfl
  refine x_on hb862 hA ?_ rfl rfl rfl
  refine x_m hA rfl fun ac hA => ?_
  refine x_on hb862 hA ?_ rfl rfl rfl
  refine x_v hA (r_neI rfl (hA.ev rfl) (hA.ev rfl)) rfl fun ac hA => ?_
  refine x_pickf hb862 hA (fun ac hA => ?_) rfl rfl rfl rfl rfl rfl
  refine x_m hA rfl fun ac hA => ?_
  refine bcase (b := (y158.1.length : Int) != (y145.1.length : Int)) (fun hb863 => ?_) fun hb863 => ?_
  ·replace hF := ift hb863 hF
   refine x_off hb863 hA (fun ac hA => ?_) rfl rfl rfl rfl rfl
   refine x_off hb863 hA (fun ac hA => ?_) rfl rfl rfl rfl rfl
   refine x_off hb863 hA (fun ac hA => ?_) rfl rfl rfl rfl rfl
   refine x_off hb863 hA (fun ac hA => ?_) rfl rfl rfl rfl rfl
   refine x_pickt hb863 hA (fun ac hA => ?_) rfl rfl rfl rfl rfl rfl
   refine x_m hA rfl fun ac hA => ?_
   refine x_off rfl hA (fun ac hA => ?_) rfl rfl rfl rfl rfl
   refine x_off rfl hA (fun ac hA => ?_) rfl rfl rfl rfl rfl
   refine x_off rfl hA (fun ac hA => ?_) rfl rfl rfl rfl rfl
   refine x_off rfl hA (fun ac hA => ?_) rfl rfl rfl rfl rfl
   refine x_pickt rfl hA (fun ac hA => ?_) rfl rfl rfl rfl rfl rfl
   refine x_m hA rfl fun ac hA => ?_
   refine x_off rfl hA (fun ac hA => ?_) rfl rfl rfl rfl rfl
   refine x_off rfl hA (fun ac hA => ?_) rfl rfl rfl rfl rfl
   refine x_off rfl hA (fun ac hA => ?_) rfl rfl rfl rfl rfl
   refine x_off rfl hA (fun ac hA => ?_) rfl rfl rfl rfl rfl
   refine x_pickt rfl hA (fun ac hA => ?_) rfl rfl rfl rfl rfl rfl
   refine wpList_nil ?_
   replace hS := hS.drop 0
   replace hS := hS.drop 5
   replace hS := hS.pk 5
   replace hS := hS.pk 1
   replace hS := hS.pk 2
   replace hS := hS.pk 3
   replace hS := hS.pk 4
   replace hS := hS.pk 5
   exact hj2 true hF ac w (hA.sub _ rfl) hS
  replace hF := iff' hb863 hF
  refine x_on hb863 hA ?_ rfl rfl rfl
  refine x_m hA rfl fun ac hA => ?_
  refine x_on hb863 hA ?_ rfl rfl rfl
  refine x_len Tryd.underlying90 (hS.rd 3 rfl).2.1 hA (fun ac hA => ?_) rfl rfl rfl rfl rfl
  refine x_on hb863 hA ?_ rfl rfl rfl
  refine x_m hA rfl fun ac hA => ?_
  refine x_on hb863 hA ?_ rfl rfl rfl
  refine x_v hA (r_neI rfl (hA.ev rfl) (hA.ev rfl)) rfl fun ac hA => ?_
  refine x_pickf hb863 hA (fun ac hA => ?_) rfl rfl rfl rfl rfl rfl
  refine x_m hA rfl fun ac hA => ?_
  refine bcase (b := (y171.1.length : Int) != (y145.1.length : Int)) (fun hb864 => ?_) fun hb864 => ?_
  ·replace hF := ift hb864 hF
   refine x_off hb864 hA (fun ac hA => ?_) rfl rfl rfl rfl rfl
   refine x_off hb864 hA (fun ac hA => ?_) rfl rfl rfl rfl rfl
   refine x_off hb864 hA (fun ac hA => ?_) rfl rfl rfl rfl rfl
   refine x_off hb864 hA (fun ac hA => ?_) rfl rfl rfl rfl rfl
   refine x_pickt hb864 hA (fun ac hA => ?_) rfl rfl rfl rfl rfl rfl
   refine x_m hA rfl fun ac hA => ?_
   refine x_off rfl hA (fun ac hA => ?_) rfl rfl rfl rfl rfl
   refine x_off rfl hA (fun ac hA => ?_) rfl rfl rfl rfl rfl
   refine x_off rfl hA (fun ac hA => ?_) rfl rfl rfl rfl rfl
   refine x_off rfl hA (fun ac hA => ?_) rfl rfl rfl rfl rfl
   refine x_pickt rfl hA (fun ac hA => ?_) rfl rfl rfl rfl rfl rfl
   refine wpList_nil ?_
   replace hS := hS.drop 0
   replace hS := hS.drop 5
   replace hS := hS.pk 5
   replace hS := hS.pk 1
   replace hS := hS.pk 2
   replace hS := hS.pk 3
   replace hS := hS.pk 4
   replace hS := hS.pk 5
   exact hj2 true hF ac w (hA.sub _ rfl) hS
  replace hF := iff' hb864 hF
  refine x_on hb864 hA ?_ rfl rfl rfl
  refine x_m hA rfl fun ac hA => ?_
  refine x_on hb864 hA ?_ rfl rfl rfl
  refine x_len Tryd.underlying91 (hS.rd 2 rfl).2.1 hA (fun ac hA => ?_) rfl rfl rfl rfl rfl
  refine x_on hb864 hA ?_ rfl rfl rfl
  refine x_m hA rfl fun ac hA => ?_
  refine x_on hb864 hA ?_ rfl rfl rfl
  refine x_v hA (r_neI rfl (hA.ev rfl) (hA.ev rfl)) rfl fun ac hA => ?_
  refine x_pickf hb864 hA (fun ac hA => ?_) rfl rfl rfl rfl rfl rfl
  refine x_m hA rfl fun ac hA => ?_
  refine bcase (b := (y184.1.length : Int) != (y145.1.length : Int)) (fun hb865 => ?_) fun hb865 => ?_
  ·replace hF := ift hb865 hF
   refine x_off hb865 hA (fun ac hA => ?_) rfl rfl rfl rfl rfl
   refine x_off hb865 hA (fun ac hA => ?_) rfl rfl rfl rfl rfl
   refine x_off hb865 hA (fun ac hA => ?_) rfl rfl rfl rfl rfl
   refine x_off hb865 hA (fun ac hA => ?_) rfl rfl rfl rfl rfl
   refine x_pickt hb865 hA (fun ac hA => ?_) rfl rfl rfl rfl rfl rfl
   refine wpList_nil ?_
   replace hS := hS.drop 0
   replace hS := hS.drop 5
   replace hS := hS.pk 5
   replace hS := hS.pk 1
   replace hS := hS.pk 2
   replace hS := hS.pk 3
   replace hS := hS.pk 4
   replace hS := hS.pk 5
   exact hj2 true hF ac w (hA.sub _ rfl) hS
  replace hF := iff' hb865 hF
  refine x_on hb865 hA ?_ rfl rfl rfl
  refine x_m hA rfl fun ac hA => ?_
  refine x_on hb865 hA ?_ rfl rfl rfl
  refine x_len Tryd.underlying92 (hS.rd 1 rfl).2.1 hA (fun ac hA => ?_) rfl rfl rfl rfl rfl
  refine x_on hb865 hA ?_ rfl rfl rfl
  refine x_m hA rfl fun ac hA => ?_
  refine x_on hb865 hA ?_ rfl rfl rfl
  refine x_v hA (r_neI rfl (hA.ev rfl) (hA.ev rfl)) rfl fun ac hA => ?_
  refine x_pickf hb865 hA (fun ac hA => ?_) rfl rfl rfl rfl rfl rfl
  refine wpList_nil ?_
  replace hS := hS.drop 0
  replace hS := hS.drop 5
  replace hS := hS.pk 5
  replace hS := hS.pk 1
  replace hS := hS.pk 2
  replace hS := hS.pk 3
  replace hS := hS.pk 4
  replace hS := hS.pk 5
  exact hj2 ((y197.1.length : Int) != (y145.1.length : Int)) hF ac w (hA.sub _ rfl) hS
 refine wp_reg ?_
 refine x_m hA rfl fun ac hA => ?_
 refine x_v hA (r_eqI rfl (hA.ev rfl) (hA.ev rfl)) rfl fun ac hA => ?_
 refine x_m hA rfl fun ac hA => ?_
 refine bcase (b := y103.1 == 101) (fun hb866 => ?_) fun hb866 => ?_
 ·replace hF := ift hb866 hF
  refine x_on hb866 hA ?_ rfl rfl rfl
  refine x_m hA rfl fun ac hA => ?_
  refine x_on hb866 hA ?_ rfl rfl rfl
  refine x_v hA (r_makeFunc rfl (mapev (vals := #[]) hA rfl) (mapev (vals := #[.pointer (some ⟨g113, 0, none⟩)]) hA rfl)) rfl fun ac hA => ?_
  refine x_on hb866 hA ?_ rfl rfl rfl
  replace hS := hS.pk 2
  replace hS := hS.pk 2
  obtain ⟨Z867, wz868, hS, h869, sb870⟩ := SH.freeze (n := m106) (c := d107) (A := B105) hS
  have h871 := Imm.sub ha0 sb870
  replace hS := hS.pk 1
  replace hS := hS.kind (d' := (kM Z867 wz868 (kI .u8))) rfl (kM_sub sb870)
  replace hS := hS.pk 1
  replace hS := hS.pk 1
  obtain ⟨y872, h873, hF⟩ := bnd hF
  refine x_call en39 hA (F_Try_event_Read_1 (L := L) y103.2.1 ([[], [], [], [], []] : List (List Int)) B105 m106 d107 g113 h873 h869 hS) (fun v ac w hR hA => ?_) rfl rfl rfl rfl rfl
  obtain ⟨Z874, wz875, rfl, h876, hS⟩ := hR
  have h877 := Imm.sub h871 h876
  have h878 := Imm.sub h869 h876
  refine x_pickt hb866 hA (fun ac hA => ?_) rfl rfl rfl rfl rfl rfl
  refine x_m hA rfl fun ac hA => ?_
  refine wpList_nil ?_
  exact hj1 y872.2 y872.1 hF Z874 wz875 (Sub.trans sb870 h876) ac w (hA.sub _ rfl) hS
 replace hF := iff' hb866 hF
 refine x_off hb866 hA (fun ac hA => ?_) rfl rfl rfl rfl rfl
 refine x_off hb866 hA (fun ac hA => ?_) rfl rfl rfl rfl rfl
 refine x_off hb866 hA (fun ac hA => ?_) rfl rfl rfl rfl rfl
 refine x_pickf hb866 hA (fun ac hA => ?_) rfl rfl rfl rfl rfl rfl
 refine x_m hA rfl fun ac hA => ?_
 refine wpList_nil ?_
 replace hS := hS.drop 1
 exact hj1 ([[], [], [], [], []] : List (List Int)) false hF Z wz (Sub.refl _ _) ac w (hA.sub _ rfl) hS
end Go.Proofs.YteodeedejjcmgaaDoor.M
namespace Go.Proofs.YteodeedejjcmgaaDoor.M
open Go Go.RowKit Go.Proofs.YteodeedejjcmgaaDoor.E
set_option linter.unusedVariables false
set_option linter.unusedSimpArgs false
noncomputable def event_Lay_b2 (a0 : (List Int)) (l16840 : (List Int)) : Option ((List Int)) :=
  (page_Lay a0 101 l16840).bind fun y16845 => (some y16845)
noncomputable def event_Lay_x1_2 (a0 : (List Int)) (l16913 : (List Int)) : Option ((List Int)) :=
  event_Lay_b2 a0 l16913
noncomputable def event_Lay_l1 (y16695 : ((List Int))) (y16700 : ((List Int))) (y16705 : ((List Int))) (y16710 : ((List Int))) (y16715 : ((List Int))) (l16883 : (List Int)) (x16887 : Int) : Option (((List Int) × Int) ⊕ (((List Int)))) :=
  if (decide (x16887 < ([y16695, y16700, y16705, y16710, y16715].length : Int))) = true then ((at_ [y16695, y16700, y16705, y16710, y16715] x16887).bind fun x16924 => ((column_Text l16883 (bts x16924)).bind fun y16931 => (ltt (IntKind.i64.wrap (x16887 + 1)) fun x16936 => (some (.inl (y16931, x16936)))))) else (some (.inr (l16883)))
noncomputable def event_Lay_b1 (a0 : (List Int)) (l16433 : (List Int)) (l16437 : (List Int)) (l16441 : (List Int)) (l16445 : (List (List UInt8))) (l16449 : (List Nat)) : Option ((List Int)) :=
  (column_Ints l16433).bind fun y16695 => ((column_Ints l16437).bind fun y16700 => ((column_Ints l16441).bind fun y16705 => ((column_Texts l16445).bind fun y16710 => ((column_Reals l16449).bind fun y16715 => ((loop (fun s => event_Lay_l1 y16695 y16700 y16705 y16710 y16715 s.1 s.2) ([], 0)).bind fun t => event_Lay_x1_2 a0 t)))))
noncomputable def event_Lay_x2_0 (a0 : (List Int)) (l20581 : (List Int)) (l20585 : (List Int)) (l20589 : (List Int)) (l20593 : (List (List UInt8))) (l20597 : (List Nat)) : Option ((List Int)) :=
  event_Lay_b1 a0 l20581 l20585 l20589 l20593 l20597
noncomputable def event_Lay_b3 (x18789 : Int) (l21919 : (List Int)) (l21923 : (List Int)) (l21927 : (List Int)) (l21931 : (List (List UInt8))) (l21935 : (List Nat)) : Option (((List Int) × (List Int) × (List Int) × (List (List UInt8)) × (List Nat) × Int) ⊕ (((List Int) × (List Int) × (List Int) × (List (List UInt8)) × (List Nat)))) :=
  ltt (IntKind.i64.wrap (x18789 + 1)) fun x21939 => (some (.inl (l21919, l21923, l21927, l21931, l21935, x21939)))
noncomputable def event_Lay_j1 (l18773 : (List Int)) (l18777 : (List Int)) (l18781 : (List (List UInt8))) (l18785 : (List Nat)) (x18789 : Int) (x21942 : S44) (l22139 : (List Int)) : Option (((List Int) × (List Int) × (List Int) × (List (List UInt8)) × (List Nat) × Int) ⊕ (((List Int) × (List Int) × (List Int) × (List (List UInt8)) × (List Nat)))) :=
  chk (l18781.length + [x21942.f3].length ≤ 140737488355328 / 16) (chk (l18785.length + [x21942.f4].length ≤ 140737488355328 / 8) (event_Lay_b3 x18789 l22139 (l18773 ++ [x21942.f1]) (l18777 ++ [x21942.f2]) (l18781 ++ [x21942.f3]) (l18785 ++ [x21942.f4])))
noncomputable def event_Lay_l2 (a1 : (List S44)) (l18769 : (List Int)) (l18773 : (List Int)) (l18777 : (List Int)) (l18781 : (List (List UInt8))) (l18785 : (List Nat)) (x18789 : Int) : Option (((List Int) × (List Int) × (List Int) × (List (List UInt8)) × (List Nat) × Int) ⊕ (((List Int) × (List Int) × (List Int) × (List (List UInt8)) × (List Nat)))) :=
  if (decide (x18789 < (a1.length : Int))) = true then ((at_ a1 x18789).bind fun x21942 => (ltt (IntKind.i64.wrap x21942.f0) fun x22178 => (chk (l18769.length + [x22178].length ≤ 140737488355328 / 8) (chk (l18773.length + [x21942.f1].length ≤ 140737488355328 / 8) (chk (l18777.length + [x21942.f2].length ≤ 140737488355328 / 8) (event_Lay_j1 l18773 l18777 l18781 l18785 x18789 x21942 (l18769 ++ [x22178]))))))) else (some (.inr (l18769, l18773, l18777, l18781, l18785)))
noncomputable def event_Lay (a0 : (List Int)) (a1 : (List S44)) : Option ((List Int)) :=
  (loop (fun s => event_Lay_l2 a1 s.1 s.2.1 s.2.2.1 s.2.2.2.1 s.2.2.2.2.1 s.2.2.2.2.2) ([], [], [], [], [], 0)).bind fun t => event_Lay_x2_0 a0 t.1 t.2.1 t.2.2.1 t.2.2.2.1 t.2.2.2.2
end Go.Proofs.YteodeedejjcmgaaDoor.M
