/- The law FilesRising: files are listed rising by their names, each once. -/
import Derived.Test.YtgjhiojkkjaloaaRj
import Derived.Test.YtgjhiojkkjaloaaDj
import Derived.Test.YtgjhiojkkjaloaaOp
namespace Go.Proofs.Ytgjhiojkkjaloaa.P
open Go Go.RowKit Go.Proofs.Ytgjhiojkkjaloaa.E Go.Proofs.Ytgjhiojkkjaloaa.M
set_option linter.unusedVariables false

theorem u8_of {x : Int} (h : gI .u8 x) : 0 ≤ x ∧ x < 256 := by
  unfold gI Lit.wf at h
  simp only [Bool.and_eq_true, decide_eq_true_eq] at h
  exact ⟨h.1, Int.lt_of_le_of_lt h.2 (by decide)⟩
theorem i64_of {x : Int} (h : gI .i64 x) : -9223372036854775808 ≤ x ∧ x ≤ 9223372036854775807 := by
  unfold gI Lit.wf at h
  simp only [Bool.and_eq_true, decide_eq_true_eq] at h
  exact ⟨Int.le_trans (by decide) h.1, Int.le_trans h.2 (by decide)⟩
theorem names_eq {a : S45} (h : g45 a) : ∃ x y, law05_Act_names a = some (x, y) ∧ x.length < 4611686018427387904 ∧ y.length < 4611686018427387904 := by
  obtain ⟨h0, h1, h2, h3, h4, h5, h6⟩ := h
  have h1 := u8_of h1
  have h2 := u8_of h2
  have h3 : a.f3.length ≤ reachBytes := h3
  unfold reachBytes at h3
  unfold law05_Act_names
  rw [lt_, w64 (by omega) (by omega)]
  have key : ∀ x : Int, 0 ≤ x → ∃ n, at_ [[97], [98], [99, 46, 49], [115, 101, 103, 46, 48, 46, 53], [109, 97, 110, 46, 116, 109, 112], [122, 122], [48], a.f3, []] (x.tmod 9) = some n ∧ n.length < 4611686018427387904 := by
    intro x hx
    obtain ⟨k, hk, hk9⟩ : ∃ k : Nat, x.tmod 9 = k ∧ k < 9 := ⟨(x % 9).toNat, by rw [Int.tmod_eq_emod_of_nonneg hx]; omega, by omega⟩
    rw [hk, at_nat]
    rcases k with _ | _ | _ | _ | _ | _ | _ | _ | _ | k
    · exact ⟨_, rfl, by decide⟩
    · exact ⟨_, rfl, by decide⟩
    · exact ⟨_, rfl, by decide⟩
    · exact ⟨_, rfl, by decide⟩
    · exact ⟨_, rfl, by decide⟩
    · exact ⟨_, rfl, by decide⟩
    · exact ⟨_, rfl, by decide⟩
    · exact ⟨a.f3, rfl, by omega⟩
    · exact ⟨_, rfl, by decide⟩
    · omega
  obtain ⟨x, hx, hxl⟩ := key a.f1 h1.1
  obtain ⟨y, hy, hyl⟩ := key a.f2 h2.1
  refine ⟨x, y, ?_, hxl, hyl⟩
  rw [hx]
  simp only [Option.bind_some]
  rw [lt_, w64 (by omega) (by omega), hy]
  rfl

theorem rise_inner {k : Nat} {s : S68} (h : SI k s) : ∀ (m i : Nat), i + m = s.f0.length → loop (fun q => law05_FilesRising_l2 (s.f0.map S73.f0) q) (i : Int) = some (.inl ())
  | 0, i, hi => by
    refine loop_end ?_
    show law05_FilesRising_l2 _ (i : Int) = _
    unfold law05_FilesRising_l2
    rw [if_neg (by simp only [decide_eq_true_eq, List.length_map]; omega)]
  | m + 1, i, hi => by
    have hlen := h.len
    have hx := List.getElem?_eq_getElem (l := s.f0) (i := i) (by omega)
    have hxm : s.f0[i] ∈ s.f0 := List.getElem_mem (by omega)
    generalize s.f0[i] = x at hx hxm
    have hxn : (s.f0.map S73.f0)[i]? = some x.f0 := by rw [List.getElem?_map, hx]; rfl
    have hf := h.form x hxm
    have hfl : x.f0.length ≤ 32 := by unfold formN at hf; simp only [Bool.and_eq_true, decide_eq_true_eq] at hf; exact hf.2
    have hF : files_Form x.f0 = some true := by rw [Form_eq _ (by omega), hf]
    have j2 : law05_FilesRising_j2 (i : Int) false = some (.inl ((i + 1 : Nat) : Int)) := by
      unfold law05_FilesRising_j2
      rw [if_neg (by simp), lt_, w64 (by omega) (by omega)]
      rfl
    have hs : law05_FilesRising_l2 (s.f0.map S73.f0) (i : Int) = some (.inl ((i + 1 : Nat) : Int)) := by
      unfold law05_FilesRising_l2
      rw [if_pos (by simp only [decide_eq_true_eq, List.length_map]; omega)]
      by_cases c : 0 < i
      · have hy := List.getElem?_eq_getElem (l := s.f0) (i := i - 1) (by omega)
        have hyn : (s.f0.map S73.f0)[i - 1]? = some (s.f0[i - 1]).f0 := by rw [List.getElem?_map, hy]; rfl
        have hlt : Op.bytesLess (s.f0[i - 1]).f0 x.f0 = true := by
          have := List.pairwise_iff_getElem.1 h.rise (i - 1) i (by omega) (by omega) (by omega)
          rwa [(List.getElem?_eq_some_iff.1 hx).2] at this
        rw [if_pos (by simp only [decide_eq_true_eq]; omega), lt_, w64 (by omega) (by omega), at_int (n := i - 1) (by omega) hyn]
        simp only [Option.bind_some]
        rw [at_int rfl hxn]
        simp only [Option.bind_some]
        rw [hlt, if_neg (by decide), hF]
        exact j2
      · rw [if_neg (by simp only [decide_eq_true_eq]; omega), at_int rfl hxn]
        simp only [Option.bind_some]
        rw [hF]
        exact j2
    rw [loop_nxt (b := fun q => law05_FilesRising_l2 (s.f0.map S73.f0) q) hs]
    exact rise_inner h m (i + 1) (by omega)
theorem rise_b2 {k i : Nat} {s : S68} (h : SI k s) (hi : i < 60) : law05_FilesRising_b2 (i : Int) (some s) = some (.inl (some s, ((i + 1 : Nat) : Int))) := by
  unfold law05_FilesRising_b2
  rw [h.Names]
  simp only [Option.bind_some]
  have := rise_inner h s.f0.length 0 (by omega)
  rw [show ((0 : Nat) : Int) = 0 from rfl] at this
  rw [this]
  show law05_FilesRising_x2_3 (i : Int) (some s) = _
  unfold law05_FilesRising_x2_3 law05_FilesRising_b3
  rw [lt_, w64 (by omega) (by omega)]
  rfl
theorem rise_round {acts : List S45} (hg : ∀ a ∈ acts, g45 a) {i : Nat} (hi : i < acts.length) (hi6 : i < 60) {s : S68} (h : SI i s) :
    ∃ s', law05_FilesRising_l1 acts (some s) (i : Int) = some (.inl (some s', ((i + 1 : Nat) : Int))) ∧ SI (i + 1) s' := by
  have hx := List.getElem?_eq_getElem hi
  have hgx := hg _ (List.getElem_mem hi)
  generalize acts[i] = a at hx hgx
  obtain ⟨x, y, hn, hxl, hyl⟩ := names_eq hgx
  unfold law05_FilesRising_l1
  rw [if_pos (by simp only [decide_eq_true_eq]; omega)]
  unfold law05_FilesRising_j1
  rw [if_pos (by simp only [decide_eq_true_eq]; omega), at_int rfl hx]
  simp only [Option.bind_some]
  rw [hn]
  simp only [Option.bind_some]
  rw [lt_]
  have key : ∀ (q : Int) (b : Bool), ∃ s', law05_FilesRising_j3 (some s) (i : Int) (x, y) q b = some (.inl (some s', ((i + 1 : Nat) : Int))) ∧ SI (i + 1) s' := by
    intro q b
    unfold law05_FilesRising_j3
    cases b with
    | true =>
      rw [if_pos rfl, h.Append (by omega) hxl]
      have := h.app (n := x) (p := []) (by simp)
      exact ⟨_, rise_b2 this hi6, this⟩
    | false =>
      rw [if_neg (by simp)]
      by_cases c : q = 2
      · rw [if_pos (by simpa using c), h.Rename (by omega) hxl hyl]
        have := h.ren (a := x) (b := y)
        exact ⟨_, rise_b2 this hi6, this⟩
      · rw [if_neg (by simpa using c), h.Delete (by omega) hxl]
        have := h.del (n := x)
        exact ⟨_, rise_b2 this hi6, this⟩
  split <;> exact key _ _
theorem rise_loop {acts : List S45} (hg : ∀ a ∈ acts, g45 a) : ∀ (m i : Nat) (s : S68), i + m = min acts.length 60 → SI i s →
    loop (fun q : Option S68 × Int => law05_FilesRising_l1 acts q.1 q.2) (some s, (i : Int)) = some (.inl ())
  | 0, i, s, hi, h => by
    refine loop_end ?_
    show law05_FilesRising_l1 acts _ (i : Int) = _
    unfold law05_FilesRising_l1
    by_cases c : (i : Int) < acts.length
    · rw [if_pos (by simpa using c)]
      unfold law05_FilesRising_j1
      rw [if_neg (by simp only [decide_eq_true_eq]; omega)]
    · rw [if_neg (by simpa using c)]
      rfl
  | m + 1, i, s, hi, h => by
    obtain ⟨s', hs, h'⟩ := rise_round hg (show i < acts.length by omega) (show i < 60 by omega) h
    rw [loop_nxt (b := fun q : Option S68 × Int => law05_FilesRising_l1 acts q.1 q.2) hs]
    exact rise_loop hg m (i + 1) s' (by omega) h'
theorem FilesRising (acts : List S45) (h0 : gL 80 g45 acts) : law05_FilesRising acts = some true := by
  unfold law05_FilesRising
  rw [awake_eq]
  simp only [Option.bind_some]
  rw [if_neg (by simp), New_eq (by decide) (by decide)]
  simp only [Option.bind_some]
  have hl := rise_loop h0.2 (min acts.length 60) 0 (onS [] 65536 0) (by omega) (SI_new (by decide) (by decide))
  rw [show ((0 : Nat) : Int) = 0 from rfl] at hl
  rw [hl]
  rfl
end Go.Proofs.Ytgjhiojkkjaloaa.P
