/- Texts of the claim, joined: what it uses of Sf. -/
import Derived.Test.YthokgnonmcgkcaaZf
namespace Go.Proofs.Ythokgnonmcgkcaa.P
open Go Go.RowKit Go.Proofs.Ythokgnonmcgkcaa.E Go.Proofs.Ythokgnonmcgkcaa.M
set_option linter.unusedVariables false
set_option linter.unusedSectionVars false
theorem pT_laid {s : List UInt8} (h : s.length ≤ 32) (r : List Int) : pT 32 (uv s.length ++ (stb s ++ r)) = some (s, r) := by
  unfold pT
  rw [show IntKind.u64.wrap 32 = 32 from u64w (by omega) (by omega), pU_uv (by omega) _ (by omega)]
  simp only
  rw [if_pos (by simp only [List.length_append, stb_len]; omega), Int.toNat_natCast, List.take_left' (stb_len s), List.drop_left' (stb_len s), bts_stb]
theorem pDict_laid : ∀ (D acc : List (List UInt8)) (r : List Int), Up (acc ++ D) → (∀ s ∈ D, s.length ≤ 32) → pDict acc D.length (flatT D ++ r) = some (acc ++ D, r)
  | [], acc, r, _, _ => by simp [pDict, flatT]
  | s :: D, acc, r, hU, h32 => by
    have e : flatT (s :: D) ++ r = uv s.length ++ (stb s ++ (flatT D ++ r)) := by
      show (uv s.length ++ stb s) ++ flatT D ++ r = _
      simp
    rw [e]
    show (match pT 32 (uv s.length ++ (stb s ++ (flatT D ++ r))) with
      | some (t, q) => if rises acc t = true then pDict (acc ++ [t]) D.length q else none
      | none => none) = _
    rw [pT_laid (h32 s List.mem_cons_self)]
    have hr : rises acc s = true := by
      unfold rises
      cases hx : acc[acc.length - 1]? with
      | none => rfl
      | some y => exact hU.get (i := acc.length - 1) (j := acc.length) (by rw [List.getElem?_append_left (by have := (List.getElem?_eq_some_iff.1 hx).1; omega), hx]) (by rw [List.getElem?_append_right (Nat.le_refl _), Nat.sub_self]; rfl) (by have := (List.getElem?_eq_some_iff.1 hx).1; omega)
    simp only [hr, if_true]
    rw [pDict_laid D (acc ++ [s]) r (by simpa using hU) fun x hx => h32 x (List.mem_cons_of_mem _ hx)]
    simp
theorem readT_laid {l : List (List UInt8)} (hl : l.length ≤ 4096) (h32 : ∀ s ∈ l, s.length ≤ 32) : readT (textsL l) = some l := by
  have hq := uq_len l
  have hU := uq_up l
  have h32' : ∀ s ∈ uq l, s.length ≤ 32 := fun s hs => h32 s ((uq_mem l s).1 hs)
  have hs : ∀ s ∈ l, s ∈ uq l := fun s hs => (uq_mem l s).2 hs
  have hi := ranks_i64 hs (by omega)
  have hr := read_ints (l := ranks (uq l) l) (by rw [ranks_len]; omega) hi
  have hp : pInts (intsL (ranks (uq l) l)) = some (ranks (uq l) l, []) := by
    unfold readL at hr
    split at hr
    · rename_i m he; cases hr; exact he
    · cases hr
  unfold readT pTexts textsL
  rw [List.append_assoc, pU_uv (by omega) _ (by omega)]
  simp only [Int.toNat_natCast]
  rw [pDict_laid (uq l) [] _ (by simpa using hU) h32']
  simp only [List.nil_append, hp]
  rw [if_pos]
  · simp only [Option.some.injEq]
    unfold tx ranks
    rw [List.map_map]
    have key : ∀ (m : List (List UInt8)), (∀ s ∈ m, s ∈ uq l) → m.map ((fun i : Int => (uq l).getD i.toNat []) ∘ fun s => ((ix (uq l) s : Nat) : Int)) = m := by
      intro m hm
      induction m with
      | nil => rfl
      | cons s m ih =>
        rw [List.map_cons, ih fun x hx => hm x (List.mem_cons_of_mem _ hx)]
        congr 1
        show (uq l).getD ((ix (uq l) s : Nat) : Int).toNat [] = s
        rw [Int.toNat_natCast, List.getD_eq_getElem?_getD, ix_get (hm s List.mem_cons_self)]
        rfl
    exact key l hs
  · refine ⟨?_, ?_⟩
    · unfold okI
      rw [List.all_eq_true]
      intro x hx
      unfold ranks at hx
      obtain ⟨s, hm, rfl⟩ := List.mem_map.1 hx
      have := ix_lt (hs s hm)
      simp only [decide_eq_true_eq]; omega
    · unfold usd
      intro hf
      obtain ⟨j, hj, e⟩ := List.mem_map.1 hf
      have hjl : j < (uq l).length := List.mem_range.1 hj
      refine absurd ?_ (of_decide_eq_false e)
      unfold ranks
      have hm : (uq l)[j]'hjl ∈ l := (uq_mem l _).1 (List.getElem_mem hjl)
      have hg := ix_get (hs _ hm)
      have := hU.nodup hg (List.getElem?_eq_getElem hjl)
      exact List.mem_map.2 ⟨_, hm, by rw [this]⟩
theorem Bs_intsL {m : List Int} (hi : I64 m) : Bs (intsL m) := by
  obtain ⟨w, hw, e⟩ := intsL_as m
  rw [e]; exact Bs_as hw hi
theorem Bs_flatT : ∀ U : List (List UInt8), Bs (flatT U)
  | [] => Bs.nil
  | s :: U => ((Bs.uv _).app (Bs.stb s)).app (Bs_flatT U)
theorem textsL_bs {l : List (List UInt8)} (hl : l.length ≤ 4096) : Bs (textsL l) :=
  ((Bs.uv _).app (Bs_flatT _)).app (Bs_intsL (ranks_i64 (fun s hs => (uq_mem l s).2 hs) (by have := uq_len l; omega)))
theorem textsL_len {l : List (List UInt8)} (hl : l.length ≤ 4096) (h32 : ∀ s ∈ l, s.length ≤ 32) : (textsL l).length ≤ 1300000 := by
  have hq := uq_len l
  have h1 := flatT_len (uq l) fun s hs => h32 s ((uq_mem l s).1 hs)
  have h2 := uv_length64 (n := (uq l).length) (by omega)
  have h3 := intsL_len (m := ranks (uq l) l) (by rw [ranks_len]; omega) (ranks_i64 (fun s hs => (uq_mem l s).2 hs) (by omega))
  unfold textsL
  simp only [List.length_append]
  omega
theorem ltexts_same (l : List (List UInt8)) (h : l.length < 1099511627776) : law03_texts l l = some true := by
  unfold law03_texts
  rw [if_neg (by simp)]
  have := loop_to (b := fun s => law03_texts_l1 l l s) (fun k => (k : Int)) (t := .inl ()) l.length (fun k hk => by
    have hx := List.getElem?_eq_getElem hk
    unfold law03_texts_l1
    rw [if_pos (by simp; omega), at_int rfl hx]
    simp only [Option.bind_some]
    rw [if_neg (by simp), lt_, w64 (by omega) (by omega)]
    rfl) (by
    unfold law03_texts_l1
    rw [if_neg (by simp)])
  rw [show (0 : Int) = ((0 : Nat) : Int) from rfl, this]
  rfl
theorem ColumnTexts (a0 : List (List UInt8)) (h : gL 16 gS a0) : law03_ColumnTexts a0 = some true := by
  have hlen : a0.length < 8796093022208 := by have := h.1; unfold reachBytes at this; omega
  have hj : law03_ColumnTexts_j1 a0 true = some true := by
    unfold law03_ColumnTexts_j1; rw [if_pos rfl, awake3_eq]; rfl
  unfold law03_ColumnTexts
  rw [awake3_eq]
  simp only [Option.bind_some]
  rw [if_neg (by simp)]
  by_cases h1 : 100 < a0.length
  · rw [show decide (100 < (a0.length : Int)) = true by simp; omega, hj]
  rw [show decide (100 < (a0.length : Int)) = false by simp; omega]
  unfold law03_ColumnTexts_j1
  rw [if_neg (by simp)]
  have key : ∀ (m k : Nat), k + m = a0.length → ∃ y, loop (fun s : Int => law03_ColumnTexts_l1 a0 s) (k : Int) = some y ∧ (y = .inr true ∨ y = .inl () ∧ ∀ s ∈ a0.drop k, s.length ≤ 32) := by
    intro m
    induction m with
    | zero =>
      intro k hk
      refine ⟨.inl (), loop_end ?_, .inr ⟨rfl, fun s hs => by rw [List.drop_of_length_le (by omega)] at hs; cases hs⟩⟩
      unfold law03_ColumnTexts_l1
      rw [if_neg (by simp only [decide_eq_true_eq]; omega)]
    | succ m ih =>
      intro k hk
      have hkl : k < a0.length := by omega
      have hx := List.getElem?_eq_getElem hkl
      by_cases h32 : 32 < (a0[k]'hkl).length
      · refine ⟨.inr true, loop_end ?_, .inl rfl⟩
        unfold law03_ColumnTexts_l1
        rw [if_pos (by simp only [decide_eq_true_eq]; omega), at_int rfl hx]
        simp only [Option.bind_some]
        rw [if_pos (by simp only [decide_eq_true_eq]; omega)]
      · obtain ⟨y, hy, hm⟩ := ih (k + 1) (by omega)
        refine ⟨y, (loop_nxt (s' := ((k + 1 : Nat) : Int)) ?_).trans hy, ?_⟩
        · unfold law03_ColumnTexts_l1
          rw [if_pos (by simp only [decide_eq_true_eq]; omega), at_int rfl hx]
          simp only [Option.bind_some]
          rw [if_neg (by simp only [decide_eq_true_eq]; omega), lt_, w64 (by omega) (by omega)]
          rfl
        · rcases hm with e | ⟨e, hall⟩
          · exact .inl e
          · refine .inr ⟨e, fun s hs => ?_⟩
            rw [List.drop_eq_getElem_cons hkl] at hs
            rcases List.mem_cons.1 hs with e2 | hs
            · rw [e2]; omega
            · exact hall s hs
  obtain ⟨y, hy, hm⟩ := key a0.length 0 (by omega)
  rw [show ((0 : Nat) : Int) = 0 from rfl] at hy
  rw [hy]
  simp only [Option.bind_some]
  rcases hm with rfl | ⟨rfl, h32⟩
  · rfl
  · rw [List.drop_zero] at h32
    unfold law03_ColumnTexts_x1_0 law03_ColumnTexts_b1
    rw [Texts_col (by omega) h32]
    simp only [Option.bind_some]
    rw [ReadTexts_col (textsL_bs (by omega)) (by have := textsL_len (l := a0) (by omega) h32; omega), readT_laid (by omega) h32]
    simp only [Option.bind_some]
    rw [Texts_ref (by omega) h32]
    simp only [Option.bind_some]
    rw [if_pos (by simp), if_pos (by simp), ltexts_same a0 (by omega)]
    rfl
end Go.Proofs.Ythokgnonmcgkcaa.P
