/- Texts of the claim, joined: what it uses of Th. -/
import Derived.Test.YtffdckhgkhhbjaaGreatDoorZf
namespace Go.Proofs.YtffdckhgkhhbjaaGreatDoor.P
open Go Go.RowKit Go.Proofs.YtffdckhgkhhbjaaGreatDoor.E Go.Proofs.YtffdckhgkhhbjaaGreatDoor.M
set_option linter.unusedVariables false
set_option linter.unusedSectionVars false
section
variable {kk n : Nat} {s : S66}
theorem rec_step (h : SI kk s) (hon : s.f3 = false) (hn : n < 98) {i : Nat} (hi : i < n) {q : List S63} (hq : q.length ≤ 10) (hO : ∀ c ∈ q, OkC c) (hg : get s.f0 (fnm nOut (i + 1)) = some (full (fnm nOut (i + 1)) (ledB q))) {acc : List S63} (hl : acc.length ≤ 1000) (s0 : S66) :
    commit_Recover_l1 ((n : Int), 0, s0) s.f0 s.f1 s.f2 s.f3 s.f4 acc ((i + 1 : Nat) : Int) = some (.inl (acc ++ q.map backC, ((i + 1 + 1 : Nat) : Int))) := by
  unfold commit_Recover_l1
  rw [if_pos (by simp only [decide_eq_true_eq]; omega), show ([111, 117, 116] : List UInt8) = nOut from rfl, file_eq (w := nOut) (by decide) (show i + 1 < 100 by omega)]
  simp only [Option.bind_some]
  have hfl := form_32 (form_out (i + 1) (by omega))
  rw [show (⟨s.f0, s.f1, s.f2, s.f3, s.f4⟩ : S66) = s from rfl, h.Read (by omega)]
  simp only [Option.bind_some]
  have hrd : readS s (fnm nOut (i + 1)) = (ledB q, 0) := by
    unfold readS
    rw [if_pos (look_of (form_out (i + 1) (by omega)) hon), hg]
    rfl
  rw [hrd, if_neg (by simp), ledger_Read_eq (by omega) hO]
  simp only [Option.bind_some]
  rw [if_neg (by simp), chk_pos (by rw [List.length_map]; omega), lt_, u64w (by omega) (by omega)]
  rfl
theorem rec_miss (h : SI kk s) (hon : s.f3 = false) (hn : n < 98) {i : Nat} (hi : i < n) (hg : get s.f0 (fnm nOut (i + 1)) = none) (acc : List S63) (s0 : S66) :
    commit_Recover_l1 ((n : Int), 0, s0) s.f0 s.f1 s.f2 s.f3 s.f4 acc ((i + 1 : Nat) : Int) = some (.inr (.inr (0, [], [], 3, some s))) := by
  unfold commit_Recover_l1
  rw [if_pos (by simp only [decide_eq_true_eq]; omega), show ([111, 117, 116] : List UInt8) = nOut from rfl, file_eq (w := nOut) (by decide) (show i + 1 < 100 by omega)]
  simp only [Option.bind_some]
  have hfl := form_32 (form_out (i + 1) (by omega))
  rw [show (⟨s.f0, s.f1, s.f2, s.f3, s.f4⟩ : S66) = s from rfl, h.Read (by omega)]
  simp only [Option.bind_some]
  have hrd : readS s (fnm nOut (i + 1)) = ([], 5) := by
    unfold readS
    rw [if_pos (look_of (form_out (i + 1) (by omega)) hon), hg]
  rw [hrd, if_pos (by decide)]
  rfl
theorem miss_inner (h : SI kk s) (hon : s.f3 = false) (hn : n < 98) {i : Nat} (hi : i < n) (hg : get s.f0 (fnm nOut (i + 1)) = none) (s0 : S66) (ls : List (List S63)) (hO : ∀ q ∈ ls, q.length ≤ 10 ∧ ∀ c ∈ q, OkC c)
    (hb : ∀ j, j < i → ∃ q, ls[j]? = some q ∧ get s.f0 (fnm nOut (j + 1)) = some (full (fnm nOut (j + 1)) (ledB q))) : ∀ (m j : Nat) (acc : List S63), j + m = i → acc.length ≤ 10 * j →
    loop (fun t : List S63 × Int => commit_Recover_l1 ((n : Int), 0, s0) s.f0 s.f1 s.f2 s.f3 s.f4 t.1 t.2) (acc, ((j + 1 : Nat) : Int)) = some (.inr (0, [], [], 3, some s))
  | 0, j, acc, hj, hl => by
    obtain rfl : j = i := by omega
    exact loop_end (rec_miss h hon hn hi hg acc s0)
  | m + 1, j, acc, hj, hl => by
    obtain ⟨q, hq, hgq⟩ := hb j (by omega)
    obtain ⟨o1, o2⟩ := hO q (List.mem_of_getElem? hq)
    rw [loop_nxt (b := fun t : List S63 × Int => commit_Recover_l1 ((n : Int), 0, s0) s.f0 s.f1 s.f2 s.f3 s.f4 t.1 t.2) (rec_step h hon hn (by omega) o1 o2 hgq (acc := acc) (by omega) s0)]
    exact miss_inner h hon hn hi hg s0 ls hO hb m (j + 1) (acc ++ q.map backC) (by omega) (by rw [List.length_append, List.length_map]; omega)
theorem Recover_miss {st : List Int} {ls : List (List S63)} {l : List S72} (h : SI kk s) (hk : kk + 5000 < 4611686018427387904) (h2 : s.f2 = 0) (h3 : s.f3 = false) (hC : Cm n st ls l) (h0 : 0 < n) {f : List UInt8} (hf : f = fnm nState n ∨ ∃ i, i < n ∧ f = fnm nOut (i + 1))
    (hl : ∀ g, get s.f0 g = if f = g then none else get l g) : ∃ s', commit_Recover (some s) = some (0, [], [], 3, some s') := by
  have hlt := hC.lt
  have hlen := hC.len
  have hfm : f ≠ nMan := by
    rcases hf with rfl | ⟨i, hi, rfl⟩
    · exact state_man (by omega)
    · exact out_man (by omega)
  obtain ⟨e0, s0, w0, i0, k0, g0, m0, u0, o0⟩ := sweep_spec h (by omega) h3 (n : Int)
  obtain ⟨_, k3⟩ := k0.2 h2 h3
  refine ⟨s0, ?_⟩
  unfold commit_Recover
  dsimp only
  rw [last_some h h3 h0 hlt ((hl nMan).trans (by rw [if_neg hfm]; exact hC.man h0))]
  simp only [Option.bind_some]
  rw [if_pos (by simp), w0]
  simp only [Option.bind_some]
  unfold commit_Recover_j1
  rcases o0 with ⟨rfl, on0, cl0⟩ | ⟨_, off⟩
  rotate_left
  · rw [k3] at off; cases off
  rw [if_neg (by simp)]
  unfold commit_Recover_j2
  rw [if_neg (by simp; omega), show ([115, 116, 97, 116, 101] : List UInt8) = nState from rfl, file_eq (w := nState) (by decide) (show n < 100 by omega)]
  simp only [Option.bind_some]
  have hfl := form_32 (form_state n (by omega))
  rw [show (⟨s0.f0, s0.f1, s0.f2, s0.f3, s0.f4⟩ : S66) = s0 from rfl, i0.Read (by omega)]
  simp only [Option.bind_some]
  have pg : ∀ g, Prot n g → get s0.f0 g = if f = g then none else get l g := fun g hg => (g0 g (prot_stays (by omega) hg)).trans (hl g)
  rcases hf with rfl | ⟨i, hi, rfl⟩
  · have hrd : readS s0 (fnm nState n) = ([], 5) := by
      unfold readS
      rw [if_pos (look_of (form_state n (by omega)) on0), pg _ (.inr (.inl rfl)), if_pos rfl]
    rw [hrd, if_pos (by decide)]
    rfl
  · have hrd : readS s0 (fnm nState n) = (st, 0) := by
      unfold readS
      rw [if_pos (look_of (form_state n (by omega)) on0), pg _ (.inr (.inl rfl)), if_neg (out_state (by omega) (by omega)), hC.stt h0]
      rfl
    rw [hrd, if_neg (by simp)]
    have hm := miss_inner i0 on0 hlt hi (by rw [pg _ (.inr (.inr ⟨i, hi, rfl⟩)), if_pos rfl]) s ls hC.okl (fun j hj => by
      have hx := List.getElem?_eq_getElem (l := ls) (i := j) (by omega)
      refine ⟨_, hx, ?_⟩
      rw [pg _ (.inr (.inr ⟨j, by omega, rfl⟩)), if_neg (fun e => by have := out_inj (by omega) (by omega) e; omega)]
      exact hC.outs j _ hx) i 0 [] (by omega) (by simp)
    have hm2 : loop (fun t : List S63 × Int => commit_Recover_l1 ((n : Int), 0, s) s0.f0 s0.f1 s0.f2 s0.f3 s0.f4 t.1 t.2) ([], 1) = some (.inr (0, [], [], 3, some s0)) := hm
    rw [hm2]
    rfl
end
theorem miss_loop (a0 : Int) (ha : 0 ≤ a0 ∧ a0 < 256) {k : Nat} (hk : k ≤ 9) : ∀ (m i : Nat) (st : List Int) (ls : List (List S63)) (s : S66), i + m = k → SI (3000 * i) s → s.f2 = 0 → s.f3 = false → s.f1 = 1048576 → Ex false i st ls s.f0 → st.length ≤ 1 →
    ∃ st' ls' s', loop (fun t : Option S66 × Int => law18_CommitMissing_l1 a0 (k : Int) t.1 t.2) (some s, ((i + 1 : Nat) : Int)) = some (.inl (some s')) ∧ SI (3000 * k) s' ∧ s'.f2 = 0 ∧ s'.f3 = false ∧ Ex false k st' ls' s'.f0
  | 0, i, st, ls, s, hi, hS, h2, h3, h1, hE, hs => by
    obtain rfl : i = k := by omega
    refine ⟨st, ls, s, loop_end ?_, hS, h2, h3, hE⟩
    show law18_CommitMissing_l1 a0 (i : Int) (some s) ((i + 1 : Nat) : Int) = _
    unfold law18_CommitMissing_l1
    rw [if_neg (by simp only [decide_eq_true_eq]; omega)]
  | m + 1, i, st, ls, s, hi, hS, h2, h3, h1, hE, hs => by
    obtain ⟨s', w, b1, b2, b3, b4, b5⟩ := Put_ok (st' := [a0]) (q := []) hS (by omega) h2 h3 hE (by omega) (fun x hx => by simp at hx; omega) (by simp) (fun c hc => by cases hc) (by rw [h1]; simp only [List.length_singleton]; omega)
    obtain ⟨st', ls', s2, w2, c⟩ := miss_loop a0 ha hk m (i + 1) [a0] (ls ++ [[]]) s' (by omega) (b1.mono (by omega)) b2 b3 (b4.trans h1) b5 (by simp)
    refine ⟨st', ls', s2, (loop_nxt (b := fun t : Option S66 × Int => law18_CommitMissing_l1 a0 (k : Int) t.1 t.2) ?_).trans w2, c⟩
    show law18_CommitMissing_l1 a0 (k : Int) (some s) ((i + 1 : Nat) : Int) = _
    unfold law18_CommitMissing_l1
    rw [if_pos (by simp only [decide_eq_true_eq]; omega), w]
    simp only [Option.bind_some]
    rw [if_neg (by simp), lt_, u64w (by omega) (by omega)]
    rfl
theorem CommitMissing (a0 a1 : Int) (h0 : gI .u8 a0) (h1 : gI .u8 a1) : law18_CommitMissing a0 a1 = some true := by
  have hu0 := u8_of h0
  have hu1 := u8_of h1
  unfold law18_CommitMissing
  rw [awake18_eq]
  simp only [Option.bind_some]
  rw [if_neg (by simp), FNew_eq (by decide) (by decide)]
  simp only [Option.bind_some, lt_]
  obtain ⟨a, rfl⟩ := Int.eq_ofNat_of_zero_le hu0.1
  have hk9 : a % 9 < 9 := Nat.mod_lt _ (by omega)
  have hk : IntKind.u64.wrap (1 + (IntKind.u64.wrap (a : Int)).tmod 9) = ((a % 9 + 1 : Nat) : Int) := by
    rw [u64w (n := (a : Int)) (by omega) (by omega)]
    have e : ((a : Int)).tmod 9 = ((a % 9 : Nat) : Int) := by
      rw [Int.tmod_eq_emod_of_nonneg (by omega)]
      omega
    rw [e, u64w (by omega) (by omega)]
    omega
  rw [hk]
  generalize hkk : a % 9 + 1 = k at hk
  have hk1 : 1 ≤ k ∧ k ≤ 9 := by omega
  obtain ⟨st, ls, s, w, hS, h2, h3, hE⟩ := miss_loop (a : Int) hu0 hk1.2 k 0 [] [] (onS [] 1048576 0) (by omega) (SI_new (by decide) (by decide)) rfl rfl rfl (Ex_new false _ _ rfl) (by simp)
  have w' : loop (fun t : Option S66 × Int => law18_CommitMissing_l1 (a : Int) (k : Int) t.1 t.2) (some (onS [] 1048576 0), 1) = some (.inl (some s)) := w
  rw [w']
  show law18_CommitMissing_b1 a1 (some s) = _
  have hC := hE.cm
  have hL := hE.length hS.rise
  rw [if_neg (by simp), if_neg (by omega)] at hL
  unfold law18_CommitMissing_b1
  rw [hS.Names]
  simp only [Option.bind_some, lt_, List.length_map]
  rw [w64 (by omega) (by omega), chk_pos (by omega)]
  obtain ⟨b, rfl⟩ := Int.eq_ofNat_of_zero_le hu1.1
  have hj : ((b : Int)).tmod (s.f0.length : Int) = ((b % s.f0.length : Nat) : Int) := by
    rw [Int.tmod_eq_emod_of_nonneg (by omega)]
    rfl
  have hjl : b % s.f0.length < s.f0.length := Nat.mod_lt _ (by omega)
  rw [hj]
  generalize b % s.f0.length = j at hjl
  have hx := List.getElem?_eq_getElem hjl
  have hxm : s.f0[j] ∈ s.f0 := List.getElem_mem hjl
  generalize s.f0[j] = x at hx hxm
  rw [at_int (n := j) rfl (show (s.f0.map S72.f0)[j]? = some x.f0 by rw [List.getElem?_map, hx]; rfl)]
  simp only [Option.bind_some]
  have hg := mem_get hS.rise hxm
  have h32 := form_32 (hS.form x hxm)
  rw [hS.Delete (by omega) (by omega)]
  simp only [Option.bind_some]
  obtain ⟨kp, od⟩ := chg_spec hS h3 hg fun y => del s.f0 x.f0
  have hS1 := hS.del (n := x.f0)
  obtain ⟨kp2, kp3⟩ := kp.2 h2 h3
  rcases od with ⟨e0, on1, l1⟩ | ⟨_, off, _⟩
  rotate_left
  · rw [kp3] at off; cases off
  have l1' : (delS s x.f0).2.f0 = del s.f0 x.f0 := l1
  rw [show (delS s x.f0).1 = 0 from e0, if_neg (by simp)]
  have hgg : ∀ g, get (delS s x.f0).2.f0 g = if x.f0 = g then none else get s.f0 g := fun g => by rw [l1', get_del hS.rise]
  have hdom := hE.dom _ _ hg
  have hcl := hE.cl _ _ hg
  by_cases cm : x.f0 = nMan
  · obtain ⟨s2, i2, _, C2, g2, d2, _, oc⟩ := Recover_spec (n := 0) (st := []) (ls := []) hS1 (by omega) kp3 ⟨rfl, by omega, fun q hq => (by cases hq), fun _ => rfl, fun _ => by rw [hgg, if_pos cm], fun h => absurd h (by omega), fun h => absurd h (by omega), fun i q hq => (by simp at hq)⟩
    rcases oc with ⟨wr, _, cl2⟩ | ⟨_, off⟩
    · rw [wr]
      simp only [Option.bind_some]
      rw [if_pos (by rw [cm]; decide), if_pos (by decide), if_pos (by decide), i2.Names]
      simp only [Option.bind_some, List.length_map]
      have hnil : s2.f0 = [] := by
        refine List.eq_nil_iff_forall_not_mem.2 fun y hy => ?_
        have hy2 := mem_get i2.rise hy
        have hc2 := cl2 _ _ hy2
        have hy1 := d2 _ _ hy2
        rw [hgg] at hy1
        split at hy1
        · cases hy1
        · rename_i cne
          rcases hE.dom _ _ hy1 with e | e | e | ⟨i, a1, a2, e⟩ | ⟨i, a1, a2, e⟩
          · rw [e, hE.oth] at hy1; cases hy1
          · exact cne (cm.trans e.symm)
          · rw [e] at hc2; cases hc2
          · rw [e, goes_out _ a2] at hc2
            simp only [Bool.or_eq_false_iff, beq_eq_false_iff_ne, decide_eq_false_iff_not] at hc2
            omega
          · rw [e, goes_state _ a2] at hc2
            simp at hc2
            omega
      rw [hnil]
      rfl
    · obtain ⟨_, q3⟩ := (by assumption : Kp (delS s x.f0).2 s2).2 kp2 kp3
      rw [q3] at off; cases off
  · have hf : x.f0 = fnm nState k ∨ ∃ i, i < k ∧ x.f0 = fnm nOut (i + 1) := by
      rcases hdom with e | e | e | ⟨i, a1, a2, e⟩ | ⟨i, a1, a2, e⟩
      · rw [e, hE.oth] at hg; cases hg
      · exact absurd e cm
      · rw [e] at hcl; cases hcl
      · rw [e, goes_out _ a2] at hcl
        simp only [Bool.or_eq_false_iff, beq_eq_false_iff_ne, decide_eq_false_iff_not] at hcl
        exact .inr ⟨i - 1, by omega, by rw [e, show i - 1 + 1 = i by omega]⟩
      · rw [e, goes_state _ a2] at hcl
        have hi0 : (i : Int) = k := by simpa using hcl
        obtain rfl : i = k := by omega
        exact .inl e
    obtain ⟨s2, wr⟩ := Recover_miss hS1 (by omega) kp2 kp3 hC (by omega) hf hgg
    rw [wr]
    simp only [Option.bind_some]
    rw [show ([109, 97, 110] : List UInt8) = nMan from rfl, if_neg (show ¬ ((x.f0 == nMan) = true) by simpa using cm), if_pos (by decide)]
    rfl
end Go.Proofs.YtffdckhgkhhbjaaGreatDoor.P
