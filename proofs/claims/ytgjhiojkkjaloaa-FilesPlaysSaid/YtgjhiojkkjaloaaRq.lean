/- The law FilesPlays: any calls, and falls: the program's store and the document's are one. -/
import Derived.Test.YtgjhiojkkjaloaaRo
import Derived.Test.YtgjhiojkkjaloaaRp
namespace Go.Proofs.Ytgjhiojkkjaloaa.P
open Go Go.RowKit Go.Proofs.Ytgjhiojkkjaloaa.E Go.Proofs.Ytgjhiojkkjaloaa.M
set_option linter.unusedVariables false

section
variable {k : Nat} {s : S68} {n : List UInt8}
theorem plays_names (h : SI k s) : ∀ (m i : Nat), i + m = s.f0.length → loop (fun q => law05_FilesPlays_l3 (s.f0.map cv) (s.f0.map S73.f0) q) (i : Int) = some (.inl ())
  | 0, i, hi => by
    refine loop_end ?_
    show law05_FilesPlays_l3 _ _ (i : Int) = _
    unfold law05_FilesPlays_l3
    rw [if_neg (by simp only [decide_eq_true_eq, List.length_map]; omega)]
  | m + 1, i, hi => by
    have hlen := h.len
    have hx := List.getElem?_eq_getElem (l := s.f0) (i := i) (by omega)
    have hs : law05_FilesPlays_l3 (s.f0.map cv) (s.f0.map S73.f0) (i : Int) = some (.inl ((i + 1 : Nat) : Int)) := by
      unfold law05_FilesPlays_l3
      rw [if_pos (by simp only [decide_eq_true_eq, List.length_map]; omega), at_int rfl (show (s.f0.map S73.f0)[i]? = some (s.f0[i]).f0 by rw [List.getElem?_map, hx]; rfl)]
      simp only [Option.bind_some]
      rw [at_int rfl (show (s.f0.map cv)[i]? = some (cv s.f0[i]) by rw [List.getElem?_map, hx]; rfl)]
      simp only [Option.bind_some]
      rw [if_neg (by show ¬ (!((s.f0[i]).f0 == (s.f0[i]).f0)) = true; simp), lt_, w64 (by omega) (by omega)]
      rfl
    rw [loop_nxt (b := fun q => law05_FilesPlays_l3 (s.f0.map cv) (s.f0.map S73.f0) q) hs]
    exact plays_names h m (i + 1) (by omega)
theorem plays_b3 (h : SI k s) {i : Nat} (hi : i < 60) {x y : List UInt8} (hx : x.length < 4611686018427387904) (hy : y.length < 4611686018427387904) :
    law05_FilesPlays_b3 (i : Int) (x, y) (some s) (cvS s).f0 (cvS s).f1 (cvS s).f2 (cvS s).f3 (cvS s).f4 true = some (.inl (some s, (cvS s).f0, (cvS s).f1, (cvS s).f2, (cvS s).f3, (cvS s).f4, ((i + 1 : Nat) : Int))) := by
  unfold law05_FilesPlays_b3
  have e : (⟨(cvS s).f0, (cvS s).f1, (cvS s).f2, (cvS s).f3, (cvS s).f4⟩ : S53) = cvS s := rfl
  rw [e, h.Read hy]
  simp only [Option.bind_some]
  rw [h.rRead hy]
  simp only [Option.bind_some]
  rw [h.Names]
  simp only [Option.bind_some]
  rw [if_neg (by simp), if_neg (by simp), if_neg (by simp), if_neg (by show ¬ (((s.f0.map S73.f0).length : Int) != ((s.f0.map cv).length : Int)) = true; simp), h.Used]
  simp only [Option.bind_some]
  rw [h.rUsed]
  simp only [Option.bind_some]
  rw [if_neg (by simp), show files_Store_On (some s) = some (!s.f3) from rfl]
  simp only [Option.bind_some]
  rw [if_neg (by show ¬ ((!s.f3) == s.f3) = true; cases s.f3 <;> decide), show files_Store_Ops (some s) = some s.f4 from rfl]
  simp only [Option.bind_some]
  rw [if_neg (by show ¬ (s.f4 != s.f4) = true; simp), Form_eq x hx]
  simp only [Option.bind_some]
  rw [rForm_eq x hx]
  simp only [Option.bind_some]
  unfold law05_FilesPlays_j4
  have hl := plays_names h s.f0.length 0 (by omega)
  rw [show ((0 : Nat) : Int) = 0 from rfl] at hl
  rw [if_neg (by simp), show (cvS s).f0 = s.f0.map cv from rfl, hl]
  show law05_FilesPlays_x3_3 _ _ _ _ _ _ _ = _
  unfold law05_FilesPlays_x3_3 law05_FilesPlays_b4
  rw [lt_, w64 (by omega) (by omega)]
  rfl
theorem rst0 (x : S73) : (cutF x 0).f2 = (cutF x 0).f1.length ∨ x.f2 < 0 := by
  unfold cutF
  split
  · rename_i h
    by_cases c : x.f2 < 0
    · exact .inr c
    · left; simp only [List.length_take]; omega
  · left; rfl
theorem plays_end (h : SI k s) : ∀ (m i : Nat), i + m = s.f0.length → loop (fun q => law05_FilesPlays_l1 (0, some (rstS s [])) (cvS (rstS s [])) q) (i : Int) = some (.inl ())
  | 0, i, hi => by
    refine loop_end ?_
    show law05_FilesPlays_l1 _ _ (i : Int) = _
    unfold law05_FilesPlays_l1
    rw [if_neg (by show ¬ decide ((i : Int) < (((keepL [] s.f0).map cv).length : Int)) = true; rw [List.length_map, keepL_len]; simp only [decide_eq_true_eq]; omega)]
  | m + 1, i, hi => by
    have hlen := h.len
    have hr := h.rst []
    have hx := List.getElem?_eq_getElem (l := s.f0) (i := i) (by omega)
    have hxm : s.f0[i] ∈ s.f0 := List.getElem_mem (by omega)
    generalize s.f0[i] = x at hx hxm
    have hz : (keepL [] s.f0)[i]? = some (cutF x 0) := by rw [keepL_get, hx]; rfl
    have hzm : cutF x 0 ∈ (rstS s []).f0 := List.mem_of_getElem? hz
    have hf := hr.form _ hzm
    have hf2 : (cutF x 0).f2 = (cutF x 0).f1.length := (rst0 x).resolve_right (by have := h.sure x hxm; omega)
    have hnl : (cutF x 0).f0.length ≤ 32 := by unfold formN at hf; simp only [Bool.and_eq_true, decide_eq_true_eq] at hf; exact hf.2
    generalize cutF x 0 = z at hz hzm hf hf2 hnl
    have hg : get (rstS s []).f0 z.f0 = some z := by
      obtain ⟨P, D, hPD⟩ := List.append_of_mem hzm
      have hrr := hr.rise
      rw [hPD] at hrr ⊢
      exact get_mid rfl hrr
    have hrd : readS (rstS s []) z.f0 = (z.f1, 0) := by
      unfold readS lookS
      rw [if_pos hf, hg]
      rfl
    have hs : law05_FilesPlays_l1 (0, some (rstS s [])) (cvS (rstS s [])) (i : Int) = some (.inl ((i + 1 : Nat) : Int)) := by
      unfold law05_FilesPlays_l1
      rw [if_pos (by show decide ((i : Int) < (((keepL [] s.f0).map cv).length : Int)) = true; rw [List.length_map, keepL_len]; simp only [decide_eq_true_eq]; omega),
        at_int rfl (show (cvS (rstS s [])).f0[i]? = some (cv z) by show ((keepL [] s.f0).map cv)[i]? = _; rw [List.getElem?_map, hz]; rfl)]
      simp only [Option.bind_some]
      rw [show (cv z).f0 = z.f0 from rfl, hr.Read (by omega), hrd]
      simp only [Option.bind_some]
      have hcv : (cv z).f1 = bts z.f1 := by unfold cv; simp only [hf2, Int.toNat_natCast, List.take_length]
      rw [if_neg (by decide), hcv]
      unfold law05_FilesPlays_j2
      rw [if_neg (by simp), lt_, w64 (by omega) (by omega)]
      rfl
    rw [loop_nxt (b := fun q => law05_FilesPlays_l1 (0, some (rstS s [])) (cvS (rstS s [])) q) hs]
    exact plays_end h m (i + 1) (by omega)
theorem plays_b1 (h : SI k s) : law05_FilesPlays_b1 (some s) (cvS s).f0 (cvS s).f1 (cvS s).f2 (cvS s).f3 (cvS s).f4 = some true := by
  unfold law05_FilesPlays_b1
  have e : (⟨(cvS s).f0, (cvS s).f1, (cvS s).f2, (cvS s).f3, (cvS s).f4⟩ : S53) = cvS s := rfl
  rw [h.Restart, e]
  simp only [Option.bind_some]
  rw [h.rRestart]
  simp only [Option.bind_some]
  have hl := plays_end h s.f0.length 0 (by omega)
  rw [show ((0 : Nat) : Int) = 0 from rfl] at hl
  rw [hl]
  rfl

/-- a state of the loop -/
def PS (i : Nat) (s : S68) : Option S68 × List S62 × Int × Int × Bool × Int × Int := (some s, (cvS s).f0, (cvS s).f1, (cvS s).f2, (cvS s).f3, (cvS s).f4, (i : Int))
theorem plays_kinds {a : S45} (ha : g45 a) {x y : List UInt8} (hxl : x.length < 4611686018427387904) (hyl : y.length < 4611686018427387904) (hp : a.f4.length ≤ 500) {i : Nat} (hi6 : i < 60) (h : SI i s) (q : Int) (b : Bool) (hb : b = true → q = 0 ∨ q = 1 ∨ q = 2 ∨ q = 3) :
    ∃ s', law05_FilesPlays_j5 (some s) (cvS s).f0 (cvS s).f1 (cvS s).f2 (cvS s).f3 (cvS s).f4 (i : Int) a (x, y) q b = some (.inl (PS (i + 1) s')) ∧ SI (i + 1) s' := by
  have e : (⟨(cvS s).f0, (cvS s).f1, (cvS s).f2, (cvS s).f3, (cvS s).f4⟩ : S53) = cvS s := rfl
  have g4 := byt_of ha.2.2.2.2.1
  have g5 := i64_of ha.2.2.2.2.2.1
  unfold law05_FilesPlays_j5
  cases b with
  | true =>
    rw [if_pos rfl, h.Append (by omega) hxl]
    simp only [Option.bind_some]
    rw [e, h.rAppend (by omega) hxl (by omega) g4]
    simp only [Option.bind_some, beq_self_eq_true]
    have h' := h.app (n := x) g4
    exact ⟨_, plays_b3 h' hi6 hxl hyl, h'⟩
  | false =>
    rw [if_neg (by simp)]
    have j6 : ∀ b : Bool, ∃ s', law05_FilesPlays_j6 (some s) (cvS s).f0 (cvS s).f1 (cvS s).f2 (cvS s).f3 (cvS s).f4 (i : Int) a (x, y) q b = some (.inl (PS (i + 1) s')) ∧ SI (i + 1) s' := by
      intro b
      unfold law05_FilesPlays_j6
      rw [e]
      cases b with
      | true =>
        rw [if_pos rfl, h.Sync (by omega) hxl]
        simp only [Option.bind_some]
        rw [h.rSync (by omega) hxl]
        simp only [Option.bind_some, beq_self_eq_true]
        have h' := h.syn (n := x)
        exact ⟨_, plays_b3 h' hi6 hxl hyl, h'⟩
      | false =>
        rw [if_neg (by simp)]
        by_cases c6 : q = 6
        · rw [if_pos (by simpa using c6), h.Rename (by omega) hxl hyl]
          simp only [Option.bind_some]
          rw [h.rRename (by omega) hxl hyl]
          simp only [Option.bind_some, beq_self_eq_true]
          have h' := h.ren (a := x) (b := y)
          exact ⟨_, plays_b3 h' hi6 hxl hyl, h'⟩
        rw [if_neg (by simpa using c6)]
        by_cases c7 : q = 7
        · rw [if_pos (by simpa using c7), h.Delete (by omega) hxl]
          simp only [Option.bind_some]
          rw [h.rDelete (by omega) hxl]
          simp only [Option.bind_some, beq_self_eq_true]
          have h' := h.del (n := x)
          exact ⟨_, plays_b3 h' hi6 hxl hyl, h'⟩
        rw [if_neg (by simpa using c7)]
        by_cases c8 : q = 8
        · rw [if_pos (by simpa using c8), Arm_eq]
          simp only [Option.bind_some]
          have h' := h.arm (m := a.f5) g5.2
          unfold armS at h' ⊢
          by_cases cn : a.f5 < 0
          · rw [if_pos (by simpa using cn)]
            simp only [if_pos cn] at h' ⊢
            exact ⟨_, plays_b3 h' hi6 hxl hyl, h'⟩
          · rw [if_neg (by simpa using cn)]
            simp only [if_neg cn] at h' ⊢
            exact ⟨_, plays_b3 h' hi6 hxl hyl, h'⟩
        rw [if_neg (by simpa using c8)]
        by_cases c9 : q = 9
        · rw [if_pos (by simpa using c9), h.rRestart]
          simp only [Option.bind_some]
          rw [h.Restart]
          simp only [Option.bind_some]
          have h' := (h.rst a.f6).mono (Nat.le_succ i)
          exact ⟨_, plays_b3 h' hi6 hxl hyl, h'⟩
        rw [if_neg (by simpa using c9)]
        by_cases c10 : q = 10
        · rw [if_pos (by simpa using c10), spoil_eq h x a.f5 g5]
          simp only [Option.bind_some]
          have h' := (h.spo (n := x) a.f5).mono (Nat.le_succ i)
          exact ⟨_, plays_b3 h' hi6 hxl hyl, h'⟩
        rw [if_neg (by simpa using c10)]
        have h' := h.mono (Nat.le_succ i)
        exact ⟨_, plays_b3 h' hi6 hxl hyl, h'⟩
    split <;> exact j6 _
theorem plays_round {script : List S45} (hg : ∀ a ∈ script, g45 a) {i : Nat} (hi : i < script.length) (hi6 : i < 60) (h : SI i s) :
    (∃ s', law05_FilesPlays_l2 script (some s) (cvS s).f0 (cvS s).f1 (cvS s).f2 (cvS s).f3 (cvS s).f4 (i : Int) = some (.inl (PS (i + 1) s')) ∧ SI (i + 1) s') ∨
    law05_FilesPlays_l2 script (some s) (cvS s).f0 (cvS s).f1 (cvS s).f2 (cvS s).f3 (cvS s).f4 (i : Int) = some (.inr (.inr true)) := by
  have hx := List.getElem?_eq_getElem hi
  have hgx := hg _ (List.getElem_mem hi)
  generalize script[i] = a at hx hgx
  obtain ⟨x, y, hn, hxl, hyl⟩ := names_eq hgx
  unfold law05_FilesPlays_l2
  rw [if_pos (by simp only [decide_eq_true_eq]; omega)]
  unfold law05_FilesPlays_j3
  rw [if_pos (by simp only [decide_eq_true_eq]; omega), at_int rfl hx]
  simp only [Option.bind_some]
  by_cases c : 500 < a.f4.length
  · rw [if_pos (by simp only [decide_eq_true_eq]; omega)]
    exact .inr rfl
  rw [if_neg (by simp only [decide_eq_true_eq]; omega), hn]
  simp only [Option.bind_some]
  left
  rw [lt_]
  split
  · rename_i q; exact plays_kinds hgx hxl hyl (by omega) hi6 h _ _ fun hq => .inl (by simpa using q)
  · split
    · rename_i q; exact plays_kinds hgx hxl hyl (by omega) hi6 h _ _ fun hq => .inr (.inl (by simpa using q))
    · split
      · rename_i q; exact plays_kinds hgx hxl hyl (by omega) hi6 h _ _ fun hq => .inr (.inr (.inl (by simpa using q)))
      · exact plays_kinds hgx hxl hyl (by omega) hi6 h _ _ fun hq => .inr (.inr (.inr (by simpa using hq)))
end
theorem plays_loop {script : List S45} (hg : ∀ a ∈ script, g45 a) : ∀ (m i : Nat) (s : S68), i + m = min script.length 60 → SI i s →
    (∃ s' k, loop (fun q : Option S68 × List S62 × Int × Int × Bool × Int × Int => law05_FilesPlays_l2 script q.1 q.2.1 q.2.2.1 q.2.2.2.1 q.2.2.2.2.1 q.2.2.2.2.2.1 q.2.2.2.2.2.2) (PS i s) = some (.inl (some s', (cvS s').f0, (cvS s').f1, (cvS s').f2, (cvS s').f3, (cvS s').f4)) ∧ SI k s') ∨
    loop (fun q : Option S68 × List S62 × Int × Int × Bool × Int × Int => law05_FilesPlays_l2 script q.1 q.2.1 q.2.2.1 q.2.2.2.1 q.2.2.2.2.1 q.2.2.2.2.2.1 q.2.2.2.2.2.2) (PS i s) = some (.inr true)
  | 0, i, s, hi, h => by
    refine .inl ⟨s, i, loop_end ?_, h⟩
    show law05_FilesPlays_l2 script (some s) (cvS s).f0 (cvS s).f1 (cvS s).f2 (cvS s).f3 (cvS s).f4 (i : Int) = _
    unfold law05_FilesPlays_l2
    by_cases c : (i : Int) < script.length
    · rw [if_pos (by simpa using c)]
      unfold law05_FilesPlays_j3
      rw [if_neg (by simp only [decide_eq_true_eq]; omega)]
    · rw [if_neg (by simpa using c)]
      rfl
  | m + 1, i, s, hi, h => by
    rcases plays_round hg (show i < script.length by omega) (show i < 60 by omega) h with ⟨s', hs, h'⟩ | hs
    · have e := loop_nxt (b := fun q : Option S68 × List S62 × Int × Int × Bool × Int × Int => law05_FilesPlays_l2 script q.1 q.2.1 q.2.2.1 q.2.2.2.1 q.2.2.2.2.1 q.2.2.2.2.2.1 q.2.2.2.2.2.2) (s := PS i s) hs
      rw [e]
      exact plays_loop hg m (i + 1) s' (by omega) h'
    · exact .inr (loop_end (b := fun q : Option S68 × List S62 × Int × Int × Bool × Int × Int => law05_FilesPlays_l2 script q.1 q.2.1 q.2.2.1 q.2.2.2.1 q.2.2.2.2.1 q.2.2.2.2.2.1 q.2.2.2.2.2.2) (s := PS i s) hs)
theorem FilesPlays (room : Int) (script : List S45) (h0 : gI .i64 room) (h1 : gL 80 g45 script) : law05_FilesPlays room script = some true := by
  unfold law05_FilesPlays
  rw [awake_eq]
  simp only [Option.bind_some]
  rw [if_neg (by simp)]
  have bad : ∀ b, b = true → law05_FilesPlays_j1 room script (none, 1) b = some true := by intro b hb; subst hb; rfl
  have newbad : (room < 1 ∨ 16777216 < room) → files_New room = some (none, 1) := by
    intro hc
    unfold files_New
    have j : ∀ b, b = true → files_New_j1 room b = some (none, 1) := by intro b hb; subst hb; rfl
    by_cases c : room < 1
    · rw [if_pos (by simpa using c), j _ rfl]
    · rw [if_neg (by simpa using c), j _ (by simp only [decide_eq_true_eq]; omega)]
  by_cases c1 : room < 1
  · rw [newbad (.inl c1)]
    simp only [Option.bind_some]
    rw [if_pos (by simpa using c1), bad _ rfl]
  by_cases c2 : 16777216 < room
  · rw [newbad (.inr c2)]
    simp only [Option.bind_some]
    rw [if_neg (by simpa using c1), bad _ (by simpa using c2)]
  rw [New_eq (by omega) (by omega)]
  simp only [Option.bind_some]
  rw [if_neg (by simpa using c1)]
  unfold law05_FilesPlays_j1
  rw [if_neg (by simpa using c2)]
  have e : ((some (onS [] room 0), [], room, 0, false, 0, 0) : Option S68 × List S62 × Int × Int × Bool × Int × Int) = PS 0 (onS [] room 0) := rfl
  rw [e]
  rcases plays_loop h1.2 (min script.length 60) 0 (onS [] room 0) (by omega) (SI_new (by omega) (by omega)) with ⟨s', k, hl, h'⟩ | hl
  · rw [hl]
    show law05_FilesPlays_x2_0 (some s') (cvS s').f0 (cvS s').f1 (cvS s').f2 (cvS s').f3 (cvS s').f4 = _
    unfold law05_FilesPlays_x2_0
    exact plays_b1 h'
  · rw [hl]
    rfl
end Go.Proofs.Ytgjhiojkkjaloaa.P
