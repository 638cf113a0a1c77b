/- The laws FilesSure, FilesKeeps: what was synced stays; what is handed in, and what is told, may be written over. -/
import Derived.Test.YtgjhiojkkjaloaaRf
import Derived.Test.YtgjhiojkkjaloaaDf
import Derived.Test.YtgjhiojkkjaloaaEh
namespace Go.Proofs.Ytgjhiojkkjaloaa.P
open Go Go.RowKit Go.Proofs.Ytgjhiojkkjaloaa.E Go.Proofs.Ytgjhiojkkjaloaa.M
set_option linter.unusedVariables false

/-- a store whose power is on, and stays so -/
def onS (l : List S73) (room : Int) (ops : Int) : S68 := ⟨l, room, 0, false, ops⟩
theorem step_on (l : List S73) (room ops : Int) : step (onS l room ops) = onS l room (ops + 1) := rfl
theorem look_on {l : List S73} {room ops : Int} {n : List UInt8} (h : formN n = true) : lookS (onS l room ops) n = 0 := by unfold lookS onS; rw [if_pos h]; rfl
theorem app_on {l : List S73} {room ops : Int} {n : List UInt8} {p : List Int} (h : formN n = true) (hr : (used l : Int) + p.length ≤ room) (hl : l.length < 500) :
    appS (onS l room ops) n p = (0, onS (put l ⟨n, ((get l n).getD ⟨n, [], 0⟩).f1 ++ p, ((get l n).getD ⟨n, [], 0⟩).f2⟩) room (ops + 1)) := by
  unfold appS
  rw [if_pos (look_on h), if_neg]
  · rfl
  · rintro (q | ⟨_, q⟩)
    · have : room - used l < p.length := q
      omega
    · have : 500 ≤ l.length := q
      omega
theorem chg_on {l : List S73} {room ops : Int} {n : List UInt8} {f : S73 → List S73} {x : S73} (h : formN n = true) (hx : get l n = some x) : chgS (onS l room ops) n f = (0, onS (f x) room (ops + 1)) := by
  unfold chgS
  rw [if_pos (look_on h), show get (onS l room ops).f0 n = some x from hx]
  rfl
theorem syn_on {l : List S73} {room ops : Int} {n : List UInt8} {x : S73} (h : formN n = true) (hx : get l n = some x) : synS (onS l room ops) n = (0, onS (put l ⟨x.f0, x.f1, x.f1.length⟩) room (ops + 1)) := chg_on h hx
theorem ren_on {l : List S73} {room ops : Int} {a b : List UInt8} {x : S73} (h : formN a = true) (hb : formN b = true) (hx : get l a = some x) : renS (onS l room ops) a b = (0, onS (put (del l a) ⟨b, x.f1, x.f2⟩) room (ops + 1)) := by
  unfold renS
  rw [if_pos h, if_pos (look_on hb)]
  exact chg_on h hx
theorem New_eq {r : Int} (h : 1 ≤ r) (h' : r ≤ 16777216) : files_New r = some (some (onS [] r 0), 0) := by
  unfold files_New
  rw [if_neg (by simp; omega)]
  unfold files_New_j1
  rw [if_neg (by simp; omega)]
  rfl
theorem SI_new {r : Int} (h : 1 ≤ r) (h' : r ≤ 16777216) : SI 0 (onS [] r 0) :=
  ⟨List.Pairwise.nil, fun x hx => (by cases hx), Nat.zero_le _, ⟨h, h'⟩, by show ((0 : Nat) : Int) ≤ r; omega, fun x hx => (by cases hx), fun x hx => (by cases hx), ⟨Int.le_refl 0, by show (0 : Int) ≤ 9223372036854775807; decide⟩, ⟨Int.le_refl 0, Int.le_refl 0⟩⟩
theorem fa_ : formN [97] = true := by decide
theorem fb_ : formN [98] = true := by decide

theorem awake_eq : law05_awake = some true := by
  unfold law05_awake
  rw [New_eq (by decide) (by decide)]
  have h0 := SI_new (r := 100) (by decide) (by decide)
  simp only [Option.bind_some]
  rw [if_neg (by decide), if_neg (by simp)]
  have a1 : appS (onS [] 100 0) [97] [120, 121] = (0, onS [⟨[97], [120, 121], 0⟩] 100 1) := app_on fa_ (by decide) (by decide)
  have h1 := h0.app (n := [97]) (p := [120, 121]) (by decide)
  rw [h0.Append (by decide) (by decide), a1]
  rw [a1] at h1
  simp only [Option.bind_some]
  rw [if_neg (by decide)]
  have a2 : synS (onS [⟨[97], [120, 121], 0⟩] 100 1) [97] = (0, onS [⟨[97], [120, 121], 2⟩] 100 2) := syn_on fa_ (x := ⟨[97], [120, 121], 0⟩) rfl
  have h2 := h1.syn (n := [97])
  rw [h1.Sync (by decide) (by decide), a2]
  rw [a2] at h2
  simp only [Option.bind_some]
  rw [if_neg (by decide)]
  have a3 : appS (onS [⟨[97], [120, 121], 2⟩] 100 2) [97] [122, 119] = (0, onS [⟨[97], [120, 121, 122, 119], 2⟩] 100 3) := app_on fa_ (by decide) (by decide)
  have h3 := h2.app (n := [97]) (p := [122, 119]) (by decide)
  rw [h2.Append (by decide) (by decide), a3]
  rw [a3] at h3
  simp only [Option.bind_some]
  rw [if_neg (by decide), h3.Restart]
  have h4 := h3.rst [1]
  have a4 : rstS (onS [⟨[97], [120, 121, 122, 119], 2⟩] 100 3) [1] = onS [⟨[97], [120, 121, 122], 3⟩] 100 3 := rfl
  rw [a4] at h4 ⊢
  simp only [Option.bind_some]
  unfold law05_awake_j1
  rw [if_neg (by decide), h4.Read (by decide)]
  rfl
theorem byt_of {l : List Int} (h : gL 1 (gI .u8) l) : ∀ b ∈ l, 0 ≤ b ∧ b < 256 := fun x hx => by
  have := h.2 x hx
  unfold gI Lit.wf at this
  simp only [Bool.and_eq_true, decide_eq_true_eq] at this
  exact ⟨this.1, Int.lt_of_le_of_lt this.2 (by decide)⟩

theorem sure_tail (p q : List Int) (keep : Int) (n : List UInt8) (hn : n = [97] ∨ n = [98]) (hl : p.length + q.length ≤ 1000) {ops : Int} {k : Nat} (h : SI k (onS [⟨n, p ++ q, p.length⟩] 5000 ops)) :
    law05_FilesSure_j3 p q keep (some (onS [⟨n, p ++ q, p.length⟩] 5000 ops)) n = some true := by
  unfold law05_FilesSure_j3
  rw [h.Restart]
  simp only [Option.bind_some]
  have h2 := h.rst [keep]
  have hf : formN n = true := by rcases hn with rfl | rfl; exact fa_; exact fb_
  have hnl : n.length < 4611686018427387904 := by rcases hn with rfl | rfl <;> decide
  -- what is kept
  have j4 : ∀ (m : Nat), m ≤ q.length → cutF ⟨n, p ++ q, p.length⟩ keep = ⟨n, p ++ q.take m, ((p.length + m : Nat) : Int)⟩ →
      law05_FilesSure_j4 p q n (0, some (rstS (onS [⟨n, p ++ q, p.length⟩] 5000 ops) [keep])) (m : Int) = some true := by
    intro m hm hc
    have e : rstS (onS [⟨n, p ++ q, p.length⟩] 5000 ops) [keep] = onS [⟨n, p ++ q.take m, ((p.length + m : Nat) : Int)⟩] 5000 ops := by
      unfold rstS onS keepL
      simp only [List.mapIdx_cons, List.mapIdx_nil, List.getD_cons_zero, hc]
    rw [e] at h2 ⊢
    unfold law05_FilesSure_j4
    rw [h2.Read hnl]
    have hr : readS (onS [⟨n, p ++ q.take m, ((p.length + m : Nat) : Int)⟩] 5000 ops) n = (p ++ q.take m, 0) := by
      unfold readS
      rw [if_pos (look_on hf)]
      simp [onS, get]
    rw [hr]
    simp only [Option.bind_some]
    have hct := cut_nat (xs := q) (l := 0) (u := m) (by omega) hm
    rw [show ((0 : Nat) : Int) = 0 from rfl, List.drop_zero] at hct
    rw [if_pos (by decide), hct]
    simp only [Option.bind_some]
    rw [chk_pos (by unfold bts maxLen; simp; omega), if_pos (by unfold bts; simp), h2.Names]
    rfl
  have hwhole : ¬ (0 ≤ keep ∧ keep < q.length) → cutF ⟨n, p ++ q, p.length⟩ keep = ⟨n, p ++ q.take q.length, ((p.length + q.length : Nat) : Int)⟩ := by
    intro hc
    unfold cutF
    rw [if_neg (by simp only [List.length_append]; omega), List.take_length]
    simp
  by_cases c1 : keep < 0
  · rw [if_pos (by simpa using c1)]
    exact j4 q.length (Nat.le_refl _) (hwhole (by omega))
  rw [if_neg (by simpa using c1)]
  unfold law05_FilesSure_j5
  by_cases c2 : (q.length : Int) < keep
  · rw [if_pos (by simpa using c2)]
    exact j4 q.length (Nat.le_refl _) (hwhole (by omega))
  · rw [if_neg (by simpa using c2)]
    obtain ⟨m, rfl⟩ : ∃ m : Nat, keep = m := ⟨keep.toNat, by omega⟩
    refine j4 m (by omega) ?_
    by_cases c3 : (m : Int) < q.length
    · unfold cutF
      rw [if_pos (by simp only [List.length_append]; omega)]
      simp only [S73.mk.injEq, true_and]
      refine ⟨?_, by omega⟩
      rw [show ((p.length : Int) + (m : Int)).toNat = p.length + m by omega, List.take_length_add_append]
    · rw [hwhole (by omega), show q.length = m by omega]

theorem FilesSure (p q : List Int) (keep : Int) (rn : Bool) (h0 : gL 1 (gI .u8) p) (h1 : gL 1 (gI .u8) q) (h2 : gI .i64 keep) (h3 : gB rn) : law05_FilesSure p q keep rn = some true := by
  have hp := h0.1; have hq := h1.1
  have hpb := byt_of h0; have hqb := byt_of h1
  unfold law05_FilesSure
  unfold reachBytes at hp hq
  rw [awake_eq]
  simp only [Option.bind_some]
  rw [if_neg (by simp), lt_, w64 (by omega) (by omega)]
  unfold law05_FilesSure_j1
  by_cases hl : 1000 < p.length + q.length
  · rw [if_pos (by simp only [decide_eq_true_eq]; omega), awake_eq]
    rfl
  rw [if_neg (by simp only [decide_eq_true_eq]; omega), New_eq (by decide) (by decide)]
  have s0 := SI_new (r := 5000) (by decide) (by decide)
  simp only [Option.bind_some]
  have a1 : appS (onS [] 5000 0) [97] p = (0, onS [⟨[97], p, 0⟩] 5000 1) := app_on fa_ (by show ((0 : Nat) : Int) + _ ≤ _; omega) (by decide)
  have s1 := s0.app (n := [97]) (p := p) hpb
  rw [s0.Append (by decide) (by decide), a1]
  rw [a1] at s1
  simp only [Option.bind_some]
  rw [if_neg (by decide)]
  have a2 : synS (onS [⟨[97], p, 0⟩] 5000 1) [97] = (0, onS [⟨[97], p, p.length⟩] 5000 2) := syn_on fa_ (x := ⟨[97], p, 0⟩) rfl
  have s2 := s1.syn (n := [97])
  rw [s1.Sync (by decide) (by decide), a2]
  rw [a2] at s2
  simp only [Option.bind_some]
  rw [if_neg (by decide)]
  have a3 : appS (onS [⟨[97], p, p.length⟩] 5000 2) [97] q = (0, onS [⟨[97], p ++ q, p.length⟩] 5000 3) := app_on fa_ (by simp only [used_cons]; show ((p.length + 0 : Nat) : Int) + _ ≤ _; omega) (by simp)
  have s3 := s2.app (n := [97]) (p := q) hqb
  rw [s2.Append (by decide) (by decide), a3]
  rw [a3] at s3
  simp only [Option.bind_some]
  unfold law05_FilesSure_j2
  rw [if_neg (by decide)]
  cases rn with
  | false =>
    rw [if_neg (by simp)]
    exact sure_tail p q keep [97] (.inl rfl) (by omega) s3
  | true =>
    rw [if_pos rfl]
    have a4 : appS (onS [⟨[97], p ++ q, p.length⟩] 5000 3) [98] q = (0, onS [⟨[97], p ++ q, p.length⟩, ⟨[98], q, 0⟩] 5000 4) := app_on fb_ (by simp only [used_cons, List.length_append]; show ((p.length + q.length + 0 : Nat) : Int) + _ ≤ _; omega) (by simp)
    have s4 := s3.app (n := [98]) (p := q) hqb
    rw [s3.Append (by decide) (by decide), a4]
    rw [a4] at s4
    simp only [Option.bind_some]
    rw [if_neg (by decide)]
    have a5 : synS (onS [⟨[97], p ++ q, p.length⟩, ⟨[98], q, 0⟩] 5000 4) [98] = (0, onS [⟨[97], p ++ q, p.length⟩, ⟨[98], q, q.length⟩] 5000 5) := syn_on fb_ (x := ⟨[98], q, 0⟩) rfl
    have s5 := s4.syn (n := [98])
    rw [s4.Sync (by decide) (by decide), a5]
    rw [a5] at s5
    simp only [Option.bind_some]
    rw [if_neg (by decide)]
    have a6 : renS (onS [⟨[97], p ++ q, p.length⟩, ⟨[98], q, q.length⟩] 5000 5) [97] [98] = (0, onS [⟨[98], p ++ q, p.length⟩] 5000 6) := ren_on fa_ fb_ (x := ⟨[97], p ++ q, p.length⟩) rfl
    have s6 := s5.ren (a := [97]) (b := [98])
    rw [s5.Rename (by decide) (by decide) (by decide), a6]
    rw [a6] at s6
    simp only [Option.bind_some]
    unfold law05_FilesSure_j6
    rw [if_neg (by decide)]
    exact sure_tail p q keep [98] (.inr rfl) (by omega) s6

theorem FilesKeeps (p : List Int) (h0 : gL 1 (gI .u8) p) : law05_FilesKeeps p = some true := by
  have hp := h0.1; have hpb := byt_of h0
  unfold reachBytes at hp
  have hout : law05_FilesKeeps_j1 p true = some true := by
    unfold law05_FilesKeeps_j1; rw [if_pos rfl, awake_eq]; rfl
  unfold law05_FilesKeeps
  rw [awake_eq]
  simp only [Option.bind_some]
  rw [if_neg (by simp)]
  by_cases c0 : p = []
  · subst c0; rw [if_pos (by decide), hout]
  have hpos : 0 < p.length := List.length_pos_iff.2 c0
  rw [if_neg (by simp only [beq_iff_eq]; omega)]
  by_cases c1 : 1000 < p.length
  · rw [show decide (1000 < (p.length : Int)) = true by simp only [decide_eq_true_eq]; omega, hout]
  rw [show decide (1000 < (p.length : Int)) = false by simp only [decide_eq_false_iff_not]; omega]
  unfold law05_FilesKeeps_j1
  rw [if_neg (by simp), New_eq (by decide) (by decide)]
  have s0 := SI_new (r := 5000) (by decide) (by decide)
  simp only [Option.bind_some]
  rw [chk_pos (by simp only [List.length_nil]; omega)]
  have a1 : appS (onS [] 5000 0) [97] p = (0, onS [⟨[97], p, 0⟩] 5000 1) := app_on fa_ (by show ((0 : Nat) : Int) + _ ≤ _; omega) (by decide)
  have s1 := s0.app (n := [97]) (p := p) hpb
  rw [s0.Append (by decide) (by decide), a1]
  rw [a1] at s1
  simp only [Option.bind_some]
  have hx : at_ p 0 = some p[0] := at_int (n := 0) rfl (List.getElem?_eq_getElem (l := p) (i := 0) hpos)
  rw [if_neg (by decide), hx]
  simp only [Option.bind_some]
  have hr : ∀ o, readS (onS [⟨[97], p, 0⟩] 5000 o) [97] = (p, 0) := fun o => rfl
  rw [lt_, s1.Read (by decide), hr]
  simp only [Option.bind_some]
  rw [if_neg (by simp), hx]
  simp only [Option.bind_some]
  have a2 : appS (onS [⟨[97], p, 0⟩] 5000 1) [97] [] = (0, onS [⟨[97], p, 0⟩] 5000 2) := by
    rw [app_on fa_ (by simp only [used_cons]; show ((p.length + 0 : Nat) : Int) + 0 ≤ _; omega) (by simp)]
    show (0, onS [⟨[97], p ++ [], 0⟩] 5000 2) = _
    rw [List.append_nil]
  have s2 := s1.app (n := [97]) (p := []) (by simp)
  rw [lt_, s1.Append (by decide) (by decide), a2]
  rw [a2] at s2
  simp only [Option.bind_some]
  rw [s2.Names]
  simp only [Option.bind_some]
  rw [show at_ (List.map S73.f0 (onS [⟨[97], p, 0⟩] 5000 2).f0) 0 = some [97] from rfl]
  simp only [Option.bind_some]
  rw [s2.Read (by decide), hr]
  simp
end Go.Proofs.Ytgjhiojkkjaloaa.P
