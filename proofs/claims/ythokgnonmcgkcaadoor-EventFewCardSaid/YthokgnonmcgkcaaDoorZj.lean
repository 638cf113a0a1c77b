/- Texts of the claim, joined: what it uses of Se, Sf, Sg. -/
import Derived.Test.YthokgnonmcgkcaaDoorZi
namespace Go.Proofs.YthokgnonmcgkcaaDoor.P
open Go Go.RowKit Go.Proofs.YthokgnonmcgkcaaDoor.E Go.Proofs.YthokgnonmcgkcaaDoor.M
set_option linter.unusedVariables false
set_option linter.unusedSectionVars false
theorem cmpS_eq (x y : List UInt8) : cmp_Less_string x y = some (Op.bytesLess x y) := by
  unfold cmp_Less_string cmp_isNaN_string
  simp
theorem bsS_eq {U : List (List UInt8)} (hU : Up U) (hlen : U.length < 1099511627776) {s : List UInt8} {k : Nat} (hk : U[k]? = some s) : slices_BinarySearch_string_string U s = some ((k : Int), true) := by
  have hkl := (List.getElem?_eq_some_iff.1 hk).1
  unfold slices_BinarySearch_string_string
  obtain ⟨y, hy, hm⟩ := loop_good (b := fun q : Int × Int => slices_BinarySearch_string_string_l1 U s q.1 q.2) (s := (0, (U.length : Int)))
    (fun q => ∃ i j : Nat, q = ((i : Int), (j : Int)) ∧ i ≤ k ∧ k ≤ j ∧ j ≤ U.length) (fun q => (q.2 - q.1).toNat) (fun t => t = (k : Int)) ⟨0, U.length, rfl, Nat.zero_le _, by omega, Nat.le_refl _⟩ (by
    rintro q ⟨i, j, rfl, h1, h2, h3⟩
    show (∃ s', slices_BinarySearch_string_string_l1 U s (i : Int) (j : Int) = some (.inl s') ∧ _) ∨ ∃ t, slices_BinarySearch_string_string_l1 U s (i : Int) (j : Int) = some (.inr t) ∧ _
    unfold slices_BinarySearch_string_string_l1
    by_cases hij : i < j
    · have hx := List.getElem?_eq_getElem (l := U) (i := (i + j) / 2) (by omega)
      have e1 : ishr .u64 (((i + j : Nat)) : Int) 1 = (((i + j) / 2 : Nat) : Int) := ishr_nat (k := .u64) (i + j) 1 (by decide)
      rw [if_pos (by simp only [decide_eq_true_eq]; omega)]
      simp only [lt_]
      rw [w64 (n := (i : Int) + (j : Int)) (by omega) (by omega), u64w (by omega) (by omega), show (i : Int) + (j : Int) = ((i + j : Nat) : Int) by omega, e1, w64 (by omega) (by omega), at_int rfl hx]
      simp only [Option.bind_some]
      rw [cmpS_eq]
      simp only [Option.bind_some]
      unfold slices_BinarySearch_string_string_b2
      by_cases hlt : (i + j) / 2 < k
      · have hb := hU.get hx hk hlt
        rw [if_pos hb, w64 (by omega) (by omega)]
        exact .inl ⟨_, rfl, ⟨(i + j) / 2 + 1, j, rfl, by omega, h2, h3⟩, by simp only; omega⟩
      · have hb : Op.bytesLess (U[(i + j) / 2]'(by omega)) s = false := by
          rcases Nat.lt_or_ge k ((i + j) / 2) with h | h
          · exact bl_asym (hU.get hk hx h)
          · have e : (i + j) / 2 = k := by omega
            have e2 : U[(i + j) / 2]'(by omega) = s := by
              have : U[(i + j) / 2]? = some s := by rw [e]; exact hk
              rw [hx] at this
              exact Option.some.inj this
            rw [e2, bl_irr]
        rw [if_neg (by rw [hb]; simp)]
        exact .inl ⟨_, rfl, ⟨i, (i + j) / 2, rfl, h1, by omega, by omega⟩, by simp only; omega⟩
    · rw [if_neg (by simp only [decide_eq_true_eq]; omega)]
      exact .inr ⟨_, rfl, by rw [show i = k by omega]⟩)
  rw [hy, hm]
  simp only [Option.bind_some]
  unfold slices_BinarySearch_string_string_x1_0 slices_BinarySearch_string_string_b1
  rw [if_pos (by simp only [decide_eq_true_eq]; omega), at_int rfl hk]
  simp
def flatT (U : List (List UInt8)) : List Int := (U.map fun s => uv s.length ++ stb s).flatten
theorem flatT_snoc (U : List (List UInt8)) (s : List UInt8) : flatT (U ++ [s]) = flatT U ++ (uv s.length ++ stb s) := by simp [flatT]
theorem flatT_len : ∀ (U : List (List UInt8)), (∀ s ∈ U, s.length ≤ 32) → (flatT U).length ≤ 42 * U.length
  | [], _ => by simp [flatT]
  | s :: U, h => by
    have h1 := flatT_len U fun x hx => h x (List.mem_cons_of_mem _ hx)
    have h2 := h s List.mem_cons_self
    have h3 := uv_length64 (n := s.length) (by omega)
    have e : flatT (s :: U) = (uv s.length ++ stb s) ++ flatT U := rfl
    rw [e]
    simp only [List.length_append, List.length_cons, stb_len]
    omega
def ranks (U l : List (List UInt8)) : List Int := l.map fun s => ((ix U s : Nat) : Int)
def textsL (l : List (List UInt8)) : List Int := uv (uq l).length ++ flatT (uq l) ++ intsL (ranks (uq l) l)
theorem ranks_snoc (U l : List (List UInt8)) (s : List UInt8) : ranks U (l ++ [s]) = ranks U l ++ [((ix U s : Nat) : Int)] := by simp [ranks]
theorem ranks_len (U l : List (List UInt8)) : (ranks U l).length = l.length := by simp [ranks]
theorem ix_lt {U : List (List UInt8)} {s : List UInt8} (h : s ∈ U) : ix U s < U.length := (List.getElem?_eq_some_iff.1 (ix_get h)).1
theorem ranks_i64 {U l : List (List UInt8)} (hs : ∀ s ∈ l, s ∈ U) (hU : U.length ≤ 4096) : I64 (ranks U l) := fun x hx => by
  unfold ranks at hx
  obtain ⟨s, hm, rfl⟩ := List.mem_map.1 hx
  have := ix_lt (hs s hm)
  unfold i64; omega
section
variable {l : List (List UInt8)} (hl : l.length ≤ 4096) (h32 : ∀ s ∈ l, s.length ≤ 32)
theorem intsL_len {m : List Int} (h : m.length ≤ 4096) (hi : I64 m) : (intsL m).length ≤ 1048576 := by
  obtain ⟨w, hw, e⟩ := intsL_as m
  rw [e]; exact len_as hw h hi
include hl h32
theorem col_tail {U : List (List UInt8)} (hU : Up U) (hs : ∀ s ∈ l, s ∈ U) (hUl : U.length ≤ 4096) {p : List Int} (hp : p.length ≤ 1000000) : column_Texts_b1 l U p = some (p ++ intsL (ranks U l)) := by
  have h := loop_to (b := fun s : List Int × Int => column_Texts_l1 l U s.1 s.2) (fun k => (ranks U (l.take k), (k : Int))) (t := ranks U l) l.length (fun k hk => by
    have hx := List.getElem?_eq_getElem hk
    have hm := hs _ (List.getElem_mem hk)
    show column_Texts_l1 l U (ranks U (l.take k)) (k : Int) = _
    unfold column_Texts_l1
    rw [if_pos (by simp only [decide_eq_true_eq]; omega), at_int rfl hx]
    simp only [Option.bind_some]
    rw [bsS_eq hU (by omega) (ix_get hm)]
    simp only [Option.bind_some]
    rw [chk_pos (by rw [ranks_len]; simp; omega), lt_, w64 (by omega) (by omega), List.take_add_one, hx]
    simp only [Option.toList_some]
    rw [ranks_snoc]
    rfl) (by
    show column_Texts_l1 l U (ranks U (l.take l.length)) (l.length : Int) = _
    unfold column_Texts_l1
    rw [if_neg (by simp), List.take_length])
  unfold column_Texts_b1
  rw [show (([], 0) : List Int × Int) = (ranks U (l.take 0), ((0 : Nat) : Int)) from rfl, h]
  simp only [Option.bind_some]
  unfold column_Texts_x1_2 column_Texts_b2
  have hi := ranks_i64 hs hUl
  rw [Ints_col (by rw [ranks_len]; omega) hi]
  simp only [Option.bind_some]
  have := intsL_len (m := ranks U l) (by rw [ranks_len]; omega) hi
  rw [chk_pos (by omega)]
theorem Texts_col : column_Texts l = some (textsL l) := by
  have hq := uq_len l
  have h32' : ∀ s ∈ uq l, s.length ≤ 32 := fun s hs => h32 s ((uq_mem l s).1 hs)
  unfold column_Texts slices_Sorted_string slices_Compact_string
  rw [chk_pos (by omega)]
  simp only [Option.bind_some]
  rw [show Lib.compact (l.mergeSort fun x y => decide (x ≤ y)) = uq l from rfl, lt_, u64w (by omega) (by omega), Uint_app _ [] (by omega) (by have := uv_length64 (n := (uq l).length) (by omega); simp; omega)]
  simp only [Option.bind_some, List.nil_append]
  have hu := uv_length64 (n := (uq l).length) (by omega)
  obtain ⟨p0, hp0⟩ : ∃ p0, p0 = uv (uq l).length := ⟨_, rfl⟩
  rw [← hp0] at hu ⊢
  have h := loop_to (b := fun s : List Int × Int => column_Texts_l2 (uq l) s.1 s.2) (fun k => (p0 ++ flatT ((uq l).take k), (k : Int))) (t := p0 ++ flatT (uq l)) (uq l).length (fun k hk => by
    have hx := List.getElem?_eq_getElem hk
    have hs := h32' _ (List.getElem_mem hk)
    have hf := flatT_len ((uq l).take k) fun s hs => h32' s (List.mem_of_mem_take hs)
    have hf' : (flatT ((uq l).take k)).length ≤ 42 * k := by simp at hf; omega
    show column_Texts_l2 (uq l) (p0 ++ flatT ((uq l).take k)) (k : Int) = _
    unfold column_Texts_l2
    rw [if_pos (by simp only [decide_eq_true_eq]; omega), at_int rfl hx]
    simp only [Option.bind_some]
    rw [Text_app _ _ (by omega) (by simp; omega)]
    simp only [Option.bind_some]
    rw [lt_, w64 (by omega) (by omega), List.take_add_one, hx]
    simp only [Option.toList_some]
    rw [flatT_snoc]
    simp) (by
    show column_Texts_l2 (uq l) (p0 ++ flatT ((uq l).take (uq l).length)) ((uq l).length : Int) = _
    unfold column_Texts_l2
    rw [if_neg (by simp), List.take_length])
  have e0 : p0 ++ flatT ((uq l).take 0) = p0 := by simp [flatT]
  rw [show ((p0, 0) : List Int × Int) = (p0 ++ flatT ((uq l).take 0), ((0 : Nat) : Int)) by rw [e0]; rfl, h]
  simp only [Option.bind_some]
  unfold column_Texts_x2_0
  have hfl := flatT_len (uq l) h32'
  rw [col_tail hl h32 (uq_up l) (fun s hs => (uq_mem l s).2 hs) (by omega) (by simp; omega)]
  unfold textsL
  rw [hp0]
end
section
variable {l : List (List UInt8)} (hl : l.length ≤ 4096)
include hl
end
end Go.Proofs.YthokgnonmcgkcaaDoor.P
namespace Go.Proofs.YthokgnonmcgkcaaDoor.P
open Go Go.RowKit Go.Proofs.YthokgnonmcgkcaaDoor.E Go.Proofs.YthokgnonmcgkcaaDoor.M
set_option linter.unusedVariables false
set_option linter.unusedSectionVars false
theorem pT_laid {s : List UInt8} (h : s.length ≤ 32) (r : List Int) : pT 32 (uv s.length ++ (stb s ++ r)) = some (s, r) := by
  unfold pT
  rw [show IntKind.u64.wrap 32 = 32 from u64w (by omega) (by omega), pU_uv (by omega) _ (by omega)]
  simp only
  rw [if_pos (by simp only [List.length_append, stb_len]; omega), Int.toNat_natCast, List.take_left' (stb_len s), List.drop_left' (stb_len s), bts_stb]
theorem pDict_laid : ∀ (D acc : List (List UInt8)) (r : List Int), Up (acc ++ D) → (∀ s ∈ D, s.length ≤ 32) → pDict acc D.length (flatT D ++ r) = some (acc ++ D, r)
  | [], acc, r, _, _ => by simp [pDict, flatT]
  | s :: D, acc, r, hU, h32 => by
    have e : flatT (s :: D) ++ r = uv s.length ++ (stb s ++ (flatT D ++ r)) := by
      show (uv s.length ++ stb s) ++ flatT D ++ r = _
      simp
    rw [e]
    show (match pT 32 (uv s.length ++ (stb s ++ (flatT D ++ r))) with
      | some (t, q) => if rises acc t = true then pDict (acc ++ [t]) D.length q else none
      | none => none) = _
    rw [pT_laid (h32 s List.mem_cons_self)]
    have hr : rises acc s = true := by
      unfold rises
      cases hx : acc[acc.length - 1]? with
      | none => rfl
      | some y => exact hU.get (i := acc.length - 1) (j := acc.length) (by rw [List.getElem?_append_left (by have := (List.getElem?_eq_some_iff.1 hx).1; omega), hx]) (by rw [List.getElem?_append_right (Nat.le_refl _), Nat.sub_self]; rfl) (by have := (List.getElem?_eq_some_iff.1 hx).1; omega)
    simp only [hr, if_true]
    rw [pDict_laid D (acc ++ [s]) r (by simpa using hU) fun x hx => h32 x (List.mem_cons_of_mem _ hx)]
    simp
theorem readT_laid {l : List (List UInt8)} (hl : l.length ≤ 4096) (h32 : ∀ s ∈ l, s.length ≤ 32) : readT (textsL l) = some l := by
  have hq := uq_len l
  have hU := uq_up l
  have h32' : ∀ s ∈ uq l, s.length ≤ 32 := fun s hs => h32 s ((uq_mem l s).1 hs)
  have hs : ∀ s ∈ l, s ∈ uq l := fun s hs => (uq_mem l s).2 hs
  have hi := ranks_i64 hs (by omega)
  have hr := read_ints (l := ranks (uq l) l) (by rw [ranks_len]; omega) hi
  have hp : pInts (intsL (ranks (uq l) l)) = some (ranks (uq l) l, []) := by
    unfold readL at hr
    split at hr
    · rename_i m he; cases hr; exact he
    · cases hr
  unfold readT pTexts textsL
  rw [List.append_assoc, pU_uv (by omega) _ (by omega)]
  simp only [Int.toNat_natCast]
  rw [pDict_laid (uq l) [] _ (by simpa using hU) h32']
  simp only [List.nil_append, hp]
  rw [if_pos]
  · simp only [Option.some.injEq]
    unfold tx ranks
    rw [List.map_map]
    have key : ∀ (m : List (List UInt8)), (∀ s ∈ m, s ∈ uq l) → m.map ((fun i : Int => (uq l).getD i.toNat []) ∘ fun s => ((ix (uq l) s : Nat) : Int)) = m := by
      intro m hm
      induction m with
      | nil => rfl
      | cons s m ih =>
        rw [List.map_cons, ih fun x hx => hm x (List.mem_cons_of_mem _ hx)]
        congr 1
        show (uq l).getD ((ix (uq l) s : Nat) : Int).toNat [] = s
        rw [Int.toNat_natCast, List.getD_eq_getElem?_getD, ix_get (hm s List.mem_cons_self)]
        rfl
    exact key l hs
  · refine ⟨?_, ?_⟩
    · unfold okI
      rw [List.all_eq_true]
      intro x hx
      unfold ranks at hx
      obtain ⟨s, hm, rfl⟩ := List.mem_map.1 hx
      have := ix_lt (hs s hm)
      simp only [decide_eq_true_eq]; omega
    · unfold usd
      intro hf
      obtain ⟨j, hj, e⟩ := List.mem_map.1 hf
      have hjl : j < (uq l).length := List.mem_range.1 hj
      refine absurd ?_ (of_decide_eq_false e)
      unfold ranks
      have hm : (uq l)[j]'hjl ∈ l := (uq_mem l _).1 (List.getElem_mem hjl)
      have hg := ix_get (hs _ hm)
      have := hU.nodup hg (List.getElem?_eq_getElem hjl)
      exact List.mem_map.2 ⟨_, hm, by rw [this]⟩
theorem Bs_intsL {m : List Int} (hi : I64 m) : Bs (intsL m) := by
  obtain ⟨w, hw, e⟩ := intsL_as m
  rw [e]; exact Bs_as hw hi
theorem Bs_flatT : ∀ U : List (List UInt8), Bs (flatT U)
  | [] => Bs.nil
  | s :: U => ((Bs.uv _).app (Bs.stb s)).app (Bs_flatT U)
theorem textsL_bs {l : List (List UInt8)} (hl : l.length ≤ 4096) : Bs (textsL l) :=
  ((Bs.uv _).app (Bs_flatT _)).app (Bs_intsL (ranks_i64 (fun s hs => (uq_mem l s).2 hs) (by have := uq_len l; omega)))
end Go.Proofs.YthokgnonmcgkcaaDoor.P
namespace Go.Proofs.YthokgnonmcgkcaaDoor.P
open Go Go.RowKit Go.Proofs.YthokgnonmcgkcaaDoor.E Go.Proofs.YthokgnonmcgkcaaDoor.M
set_option linter.unusedVariables false
set_option linter.unusedSectionVars false
def fourL (s : Nat) : List Int := [((s % 256 : Nat) : Int), ((s / 256 % 256 : Nat) : Int), ((s / 65536 % 256 : Nat) : Int), ((s / 16777216 % 256 : Nat) : Int)]
theorem fourL_bs (s : Nat) : Bs (fourL s) := fun x hx => by simp [fourL] at hx; omega
theorem fourL_len (s : Nat) : (fourL s).length = 4 := rfl
theorem numN_four {s : Nat} (h : s < 4294967296) (r : List Int) : numN (fourL s ++ r) = s := by
  show numN (((s % 256 : Nat) : Int) :: ((s / 256 % 256 : Nat) : Int) :: ((s / 65536 % 256 : Nat) : Int) :: ((s / 16777216 % 256 : Nat) : Int) :: r) = s
  rw [numN_mk]; omega
def headL (kind : Int) (b : List Int) : List Int := fourL b.length ++ [kind] ++ b
def pageL (kind : Int) (b : List Int) : List Int := headL kind b ++ fourL (crc (headL kind b))
theorem headL_len (kind : Int) (b : List Int) : (headL kind b).length = 5 + b.length := by simp [headL, fourL_len]; omega
theorem pageL_len (kind : Int) (b : List Int) : (pageL kind b).length = 9 + b.length := by simp [pageL, headL_len, fourL_len]; omega
theorem headL_bs {kind : Int} {b : List Int} (hk : 0 ≤ kind ∧ kind < 256) (hB : Bs b) : Bs (headL kind b) := ((fourL_bs _).app (Bs.mk hk Bs.nil)).app hB
theorem pageL_bs {kind : Int} {b : List Int} (hk : 0 ≤ kind ∧ kind < 256) (hB : Bs b) : Bs (pageL kind b) := (headL_bs hk hB).app (fourL_bs _)
theorem page_four_eq {s : Nat} (hs : s < 4294967296) : page_four (s : Int) = some (fourL s) := by
  unfold page_four fourL
  simp only [lt_]
  rw [show (8 : Int) = ((8 : Nat) : Int) from rfl, show (16 : Int) = ((16 : Nat) : Int) from rfl, show (24 : Int) = ((24 : Nat) : Int) from rfl,
    ishr_nat _ _ (by decide), ishr_nat _ _ (by decide), ishr_nat _ _ (by decide), u8_nat, u8_nat, u8_nat, u8_nat]
theorem page_Lay_eq {p b : List Int} {kind : Int} (hk : 0 ≤ kind ∧ kind < 256) (hB : Bs b) (hb : b.length < 4294967000) (hp : p.length < 1099511627776) : page_Lay p kind b = some (p ++ pageL kind b) := by
  unfold page_Lay
  rw [lt_, u32_nat, Nat.mod_eq_of_lt (by omega), page_four_eq (by omega)]
  simp only [Option.bind_some]
  rw [show fourL b.length ++ [kind] ++ b = headL kind b from rfl]
  have hl := headL_len kind b
  have h4 := fourL_len (crc (headL kind b))
  rw [chk_pos (by simp [fourL_len]), chk_pos (by simp [fourL_len]; omega), chk_pos (by omega), page_Sum_eq (headL_bs hk hB) (by omega)]
  simp only [Option.bind_some]
  rw [page_four_eq (crc_lt _)]
  simp only [Option.bind_some]
  rw [chk_pos (by simp only [List.length_append]; omega), List.append_assoc]
  rfl
theorem pageR_laid {p b q : List Int} {kind : Int} (hb : b.length ≤ 1048576) : pageR (p ++ pageL kind b ++ q) (p.length : Int) = (kind, b, ((p.length + (pageL kind b).length : Nat) : Int), 0) := by
  have hv : (p ++ pageL kind b ++ q).drop p.length = pageL kind b ++ q := by rw [List.append_assoc, List.drop_left]
  have hl := headL_len kind b
  have hpl := pageL_len kind b
  have hn : numN (pageL kind b ++ q) = b.length := by
    show numN (fourL b.length ++ [kind] ++ b ++ fourL (crc (headL kind b)) ++ q) = _
    rw [List.append_assoc, List.append_assoc, List.append_assoc, numN_four (by omega)]
  have ht : (pageL kind b ++ q).take (5 + b.length) = headL kind b := by
    show (headL kind b ++ fourL (crc (headL kind b)) ++ q).take (5 + b.length) = _
    rw [List.append_assoc, List.take_left' hl]
  have hd : (pageL kind b ++ q).drop (5 + b.length) = fourL (crc (headL kind b)) ++ q := by
    show (headL kind b ++ fourL (crc (headL kind b)) ++ q).drop (5 + b.length) = _
    rw [List.append_assoc, List.drop_left' hl]
  unfold pageR
  rw [if_neg (by simp only [List.length_append]; omega), Int.toNat_natCast, hv, hn, ht, hd, numN_four (crc_lt _), if_neg (by simp only [List.length_append]; omega), if_neg (by simp only [List.length_append]; omega), if_pos rfl]
  refine Prod.ext ?_ (Prod.ext ?_ (Prod.ext ?_ rfl))
  · rfl
  · show (headL kind b).drop 5 = b
    rfl
  · show (p.length : Int) + (b.length : Int) + 9 = ((p.length + (pageL kind b).length : Nat) : Int)
    rw [hpl]; omega
def offsL (l : List S39) : List Int := l.map fun e => IntKind.i64.wrap e.f0
def partsL (l : List S39) : List Int := l.map fun e => e.f1
def timesL (l : List S39) : List Int := l.map fun e => e.f2
def keysL (l : List S39) : List (List UInt8) := l.map fun e => e.f3
def valsL (l : List S39) : List Nat := l.map fun e => e.f4
def oneL (c : List Int) : List Int := uv c.length ++ c
def bodyL (l : List S39) : List Int := oneL (intsL (offsL l)) ++ (oneL (intsL (partsL l)) ++ (oneL (intsL (timesL l)) ++ (oneL (textsL (keysL l)) ++ oneL (intsL (rl (valsL l))))))
def Laid (l : List S39) : Prop := ∀ e ∈ l, (0 ≤ e.f0 ∧ e.f0 < 18446744073709551616) ∧ i64 e.f1 ∧ i64 e.f2 ∧ e.f3.length ≤ 32 ∧ e.f4 < 18446744073709551616
section
variable {l : List S39} (hl : l.length ≤ 4096) (hL : Laid l)
theorem offs_i64 : I64 (offsL l) := fun x hx => by
  obtain ⟨e, _, rfl⟩ := List.mem_map.1 hx
  exact i64_wrap _
include hL
theorem parts_i64 : I64 (partsL l) := fun x hx => by
  obtain ⟨e, he, rfl⟩ := List.mem_map.1 hx
  exact (hL e he).2.1
theorem times_i64 : I64 (timesL l) := fun x hx => by
  obtain ⟨e, he, rfl⟩ := List.mem_map.1 hx
  exact (hL e he).2.2.1
theorem keys_32 : ∀ s ∈ keysL l, s.length ≤ 32 := fun s hs => by
  obtain ⟨e, he, rfl⟩ := List.mem_map.1 hs
  exact (hL e he).2.2.2.1
theorem vals_lt : ∀ x ∈ valsL l, x < 18446744073709551616 := fun x hx => by
  obtain ⟨e, he, rfl⟩ := List.mem_map.1 hx
  exact (hL e he).2.2.2.2
omit hL
theorem intsL_short {m : List Int} (hm : m.length ≤ 4096) (hi : I64 m) : (intsL m).length ≤ 11 + 10 * m.length := by
  have h1 := intsL_le m (w := 0) (by decide)
  have h2 := len_b0 hi
  have h3 := uv_length64 (n := m.length) (by omega)
  have e : (asL 0 m).length = 1 + (uv m.length).length + (b0 m).length := by
    show ((0 : Int) :: (uv m.length ++ b0 m)).length = _
    simp; omega
  omega
theorem textsL_short {m : List (List UInt8)} (hm : m.length ≤ 4096) (h32 : ∀ s ∈ m, s.length ≤ 32) : (textsL m).length ≤ 21 + 52 * m.length := by
  have hq := uq_len m
  have h1 := flatT_len (uq m) fun s hs => h32 s ((uq_mem m s).1 hs)
  have h2 := uv_length64 (n := (uq m).length) (by omega)
  have h3 := intsL_short (m := ranks (uq m) m) (by rw [ranks_len]; omega) (ranks_i64 (fun s hs => (uq_mem m s).2 hs) (by omega))
  rw [ranks_len] at h3
  unfold textsL
  simp only [List.length_append]
  omega
theorem oneL_len {c : List Int} (h : c.length < 18446744073709551616) : (oneL c).length ≤ 10 + c.length := by
  have := uv_length64 h
  unfold oneL; simp; omega
theorem oneL_bs {c : List Int} (h : Bs c) : Bs (oneL c) := (Bs.uv _).app h
include hl hL
theorem cols_len : (intsL (offsL l)).length ≤ 11 + 10 * l.length ∧ (intsL (partsL l)).length ≤ 11 + 10 * l.length ∧ (intsL (timesL l)).length ≤ 11 + 10 * l.length ∧ (textsL (keysL l)).length ≤ 21 + 52 * l.length ∧ (intsL (rl (valsL l))).length ≤ 11 + 10 * l.length := by
  have e0 : (offsL l).length = l.length := by simp [offsL]
  have e1 : (partsL l).length = l.length := by simp [partsL]
  have e2 : (timesL l).length = l.length := by simp [timesL]
  have e3 : (keysL l).length = l.length := by simp [keysL]
  have e4 : (rl (valsL l)).length = l.length := by rw [rl_length]; simp [valsL]
  have h0 := intsL_short (m := offsL l) (by omega) offs_i64
  have h1 := intsL_short (m := partsL l) (by omega) (parts_i64 hL)
  have h2 := intsL_short (m := timesL l) (by omega) (times_i64 hL)
  have h3 := textsL_short (m := keysL l) (by omega) (keys_32 hL)
  have h4 := intsL_short (m := rl (valsL l)) (by omega) (rl_i64 _)
  rw [e0] at h0; rw [e1] at h1; rw [e2] at h2; rw [e3] at h3; rw [e4] at h4
  exact ⟨h0, h1, h2, h3, h4⟩
theorem cols_bs : Bs (intsL (offsL l)) ∧ Bs (intsL (partsL l)) ∧ Bs (intsL (timesL l)) ∧ Bs (textsL (keysL l)) ∧ Bs (intsL (rl (valsL l))) :=
  ⟨Bs_intsL offs_i64, Bs_intsL (parts_i64 hL), Bs_intsL (times_i64 hL), textsL_bs (by simp [keysL]; omega), Bs_intsL (rl_i64 _)⟩
theorem bodyL_len : (bodyL l).length ≤ 115 + 92 * l.length := by
  obtain ⟨h0, h1, h2, h3, h4⟩ := cols_len hl hL
  have q0 := oneL_len (c := intsL (offsL l)) (by omega)
  have q1 := oneL_len (c := intsL (partsL l)) (by omega)
  have q2 := oneL_len (c := intsL (timesL l)) (by omega)
  have q3 := oneL_len (c := textsL (keysL l)) (by omega)
  have q4 := oneL_len (c := intsL (rl (valsL l))) (by omega)
  unfold bodyL
  simp only [List.length_append]
  omega
theorem bodyL_bs : Bs (bodyL l) := by
  obtain ⟨h0, h1, h2, h3, h4⟩ := cols_bs hl hL
  exact (oneL_bs h0).app ((oneL_bs h1).app ((oneL_bs h2).app ((oneL_bs h3).app (oneL_bs h4))))
theorem pT_one {c : List Int} (hB : Bs c) (h : c.length ≤ 1048576) (r : List Int) : pT 1048576 (oneL c ++ r) = some (bts c, r) := by
  unfold pT oneL
  rw [show IntKind.u64.wrap 1048576 = 1048576 from u64w (by omega) (by omega), List.append_assoc, pU_uv (by omega) _ (by omega)]
  simp only
  rw [if_pos (by simp only [List.length_append]; omega), Int.toNat_natCast, List.take_left' rfl, List.drop_left' rfl]
theorem pTx_body : pTx 5 (bodyL l) = some ([bts (intsL (offsL l)), bts (intsL (partsL l)), bts (intsL (timesL l)), bts (textsL (keysL l)), bts (intsL (rl (valsL l)))], []) := by
  obtain ⟨h0, h1, h2, h3, h4⟩ := cols_len hl hL
  obtain ⟨b0, b1, b2, b3, b4⟩ := cols_bs hl hL
  unfold bodyL
  have e4 := pT_one hl hL b4 (by omega) []
  rw [List.append_nil] at e4
  simp only [pTx, pT_one hl hL b0 (by omega), pT_one hl hL b1 (by omega), pT_one hl hL b2 (by omega), pT_one hl hL b3 (by omega), e4]
end
def backE (e : S39) : S39 := ⟨e.f0, e.f1, e.f2, e.f3, canon e.f4⟩
theorem rows_back (s : Int) : ∀ (l : List S39), (∀ e ∈ l, 0 ≤ e.f0 ∧ e.f0 < 18446744073709551616) →
    rowsL s (offsL l) (partsL l) (timesL l) (keysL l) ((valsL l).map canon) = if l.all (fun e => formB e s) = true then some (l.map backE) else none
  | [], _ => rfl
  | e :: l, h => by
    have ih := rows_back s l fun x hx => h x (List.mem_cons_of_mem _ hx)
    have h0 := h e List.mem_cons_self
    have hw : IntKind.u64.wrap (IntKind.i64.wrap e.f0) = e.f0 := by
      rw [IntKind.wrap_u64, IntWalk.i64_left]
      unfold wrap64
      omega
    show rowsL s (IntKind.i64.wrap e.f0 :: offsL l) (e.f1 :: partsL l) (e.f2 :: timesL l) (e.f3 :: keysL l) (canon e.f4 :: (valsL l).map canon) = _
    unfold rowsL
    rw [hw, ih, show (⟨e.f0, e.f1, e.f2, e.f3, canon e.f4⟩ : S39) = backE e from rfl, show formB (backE e) s = formB e s from rfl, List.all_cons]
    cases formB e s with
    | false => rfl
    | true =>
      rw [if_pos rfl, Bool.true_and]
      cases l.all fun e => formB e s <;> rfl
theorem evL_back {l : List S39} (hl : l.length ≤ 4096) (hL : Laid l) (s : Int) :
    evL s (bts (intsL (offsL l))) (bts (intsL (partsL l))) (bts (intsL (timesL l))) (bts (textsL (keysL l))) (bts (intsL (rl (valsL l)))) = if l.all (fun e => formB e s) = true then some (l.map backE) else none := by
  obtain ⟨b0, b1, b2, b3, b4⟩ := cols_bs hl hL
  unfold evL
  rw [stb_bts b0, stb_bts b1, stb_bts b2, stb_bts b3, stb_bts b4, read_ints (by simp [offsL]; omega) offs_i64, read_ints (by simp [partsL]; omega) (parts_i64 hL), read_ints (by simp [timesL]; omega) (times_i64 hL),
    readT_laid (by simp [keysL]; omega) (keys_32 hL), show readR (intsL (rl (valsL l))) = some ((valsL l).map canon) by
      unfold readR
      rw [read_ints (by rw [rl_length]; simp [valsL]; omega) (rl_i64 _)]
      exact reals_back (vals_lt hL)]
  simp only
  rw [if_pos (by simp [offsL, partsL, timesL, keysL, valsL]), rows_back s l fun e he => (hL e he).1]
theorem evR_back {l : List S39} (hl : l.length ≤ 4096) (hL : Laid l) (s : Int) (p q : List Int) :
    evR (p ++ pageL 101 (bodyL l) ++ q) (p.length : Int) s = if l.all (fun e => formB e s) = true then (l.map backE, ((p.length + (pageL 101 (bodyL l)).length : Nat) : Int), 0) else ([], 0, 3) := by
  have hb := bodyL_len hl hL
  unfold evR
  rw [pageR_laid (by omega)]
  simp only
  rw [if_neg (by simp), if_neg (by simp), pTx_body hl hL]
  simp only
  rw [evL_back hl hL s]
  cases l.all fun e => formB e s <;> rfl
theorem Lay_cols {l : List S39} (hl : l.length ≤ 4096) : ∀ (m k : Nat), k + m = l.length →
    loop (fun s : List Int × List Int × List Int × List (List UInt8) × List Nat × Int => event_Lay_l2 l s.1 s.2.1 s.2.2.1 s.2.2.2.1 s.2.2.2.2.1 s.2.2.2.2.2) (offsL (l.take k), partsL (l.take k), timesL (l.take k), keysL (l.take k), valsL (l.take k), (k : Int)) = some (offsL l, partsL l, timesL l, keysL l, valsL l)
  | 0, k, hk => by
    rw [List.take_of_length_le (by omega)]
    refine loop_end ?_
    show event_Lay_l2 l (offsL l) (partsL l) (timesL l) (keysL l) (valsL l) (k : Int) = _
    unfold event_Lay_l2
    rw [if_neg (by simp only [decide_eq_true_eq]; omega)]
  | m + 1, k, hk => by
    have hx := List.getElem?_eq_getElem (l := l) (i := k) (by omega)
    have ht : l.take (k + 1) = l.take k ++ [l[k]'(by omega)] := by rw [List.take_add_one, hx]; rfl
    have ih := Lay_cols hl m (k + 1) (by omega)
    rw [ht] at ih
    have e0 : (offsL (l.take k)).length = k := by simp [offsL]; omega
    have e1 : (partsL (l.take k)).length = k := by simp [partsL]; omega
    have e2 : (timesL (l.take k)).length = k := by simp [timesL]; omega
    have e3 : (keysL (l.take k)).length = k := by simp [keysL]; omega
    have e4 : (valsL (l.take k)).length = k := by simp [valsL]; omega
    refine (loop_nxt ?_).trans ih
    show event_Lay_l2 l (offsL (l.take k)) (partsL (l.take k)) (timesL (l.take k)) (keysL (l.take k)) (valsL (l.take k)) (k : Int) = _
    unfold event_Lay_l2 event_Lay_j1 event_Lay_b3
    rw [if_pos (by simp only [decide_eq_true_eq]; omega), at_int rfl hx]
    simp only [Option.bind_some, lt_]
    rw [chk_pos (by simp; omega), chk_pos (by simp; omega), chk_pos (by simp; omega), chk_pos (by simp; omega), chk_pos (by simp; omega), w64 (n := (k : Int) + 1) (by omega) (by omega)]
    simp only [offsL, partsL, timesL, keysL, valsL, List.map_append, List.map_cons, List.map_nil]
    rfl
theorem Text_one {c p : List Int} (hB : Bs c) (hc : c.length ≤ 1048576) (hp : p.length ≤ 100000000) : column_Text p (bts c) = some (p ++ oneL c) := by
  have hbl : (bts c).length = c.length := by simp [bts]
  rw [Text_app _ _ (by omega) (by omega), stb_bts hB, hbl, List.append_assoc]
  rfl
theorem event_Lay_eq {l : List S39} (hl : l.length ≤ 4096) (hL : Laid l) {p : List Int} (hp : p.length < 1099511627776) : event_Lay p l = some (p ++ pageL 101 (bodyL l)) := by
  obtain ⟨h0, h1, h2, h3, h4⟩ := cols_len hl hL
  obtain ⟨b0, b1, b2, b3, b4⟩ := cols_bs hl hL
  have hb := bodyL_len hl hL
  unfold event_Lay
  have hc := Lay_cols hl l.length 0 (by omega)
  rw [show ((0 : Nat) : Int) = 0 from rfl] at hc
  rw [show (([], [], [], [], [], 0) : List Int × List Int × List Int × List (List UInt8) × List Nat × Int) = (offsL (l.take 0), partsL (l.take 0), timesL (l.take 0), keysL (l.take 0), valsL (l.take 0), 0) from rfl, hc]
  simp only [Option.bind_some]
  unfold event_Lay_x2_0 event_Lay_b1
  rw [Ints_col (by simp [offsL]; omega) offs_i64]
  simp only [Option.bind_some]
  rw [Ints_col (by simp [partsL]; omega) (parts_i64 hL)]
  simp only [Option.bind_some]
  rw [Ints_col (by simp [timesL]; omega) (times_i64 hL)]
  simp only [Option.bind_some]
  rw [Texts_col (by simp [keysL]; omega) (keys_32 hL)]
  simp only [Option.bind_some]
  rw [Reals_col (by simp [valsL]; omega)]
  simp only [Option.bind_some]
  have eb : bodyL l = oneL (intsL (offsL l)) ++ (oneL (intsL (partsL l)) ++ (oneL (intsL (timesL l)) ++ (oneL (textsL (keysL l)) ++ oneL (intsL (rl (valsL l)))))) := rfl
  rw [eb]
  clear eb hc hb
  generalize intsL (offsL l) = c0 at *
  generalize intsL (partsL l) = c1 at *
  generalize intsL (timesL l) = c2 at *
  generalize textsL (keysL l) = c3 at *
  generalize intsL (rl (valsL l)) = c4 at *
  have st : ∀ (k : Nat) (c acc : List Int), ([c0, c1, c2, c3, c4] : List (List Int))[k]? = some c → Bs c → c.length ≤ 1048576 → acc.length ≤ 100000000 → event_Lay_l1 c0 c1 c2 c3 c4 acc (k : Int) = some (.inl (acc ++ oneL c, ((k + 1 : Nat) : Int))) := by
    intro k c acc hg hB hcl ha
    have hk5 : k < 5 := by have := (List.getElem?_eq_some_iff.1 hg).1; simpa using this
    unfold event_Lay_l1
    rw [if_pos (by simp only [decide_eq_true_eq, List.length_cons, List.length_nil]; omega), at_int rfl hg]
    simp only [Option.bind_some]
    rw [Text_one hB hcl ha]
    simp only [Option.bind_some]
    rw [lt_, w64 (by omega) (by omega)]
    rfl
  have ol : ∀ c : List Int, c.length ≤ 1048576 → (oneL c).length ≤ 1048586 := fun c h => by have := oneL_len (c := c) (by omega); omega
  have q0 := ol c0 (by omega); have q1 := ol c1 (by omega); have q2 := ol c2 (by omega); have q3 := ol c3 (by omega)
  have hlp : loop (fun s : List Int × Int => event_Lay_l1 c0 c1 c2 c3 c4 s.1 s.2) ([], 0) = some (((([] ++ oneL c0) ++ oneL c1) ++ oneL c2) ++ oneL c3 ++ oneL c4) := by
    refine (loop_nxt (st 0 c0 [] rfl b0 (by omega) (by simp))).trans ?_
    refine (loop_nxt (st 1 c1 _ rfl b1 (by omega) (by simp; omega))).trans ?_
    refine (loop_nxt (st 2 c2 _ rfl b2 (by omega) (by simp; omega))).trans ?_
    refine (loop_nxt (st 3 c3 _ rfl b3 (by omega) (by simp; omega))).trans ?_
    refine (loop_nxt (st 4 c4 _ rfl b4 (by omega) (by simp; omega))).trans ?_
    refine loop_end ?_
    show event_Lay_l1 c0 c1 c2 c3 c4 _ ((4 + 1 : Nat) : Int) = _
    unfold event_Lay_l1
    rw [if_neg (by simp)]
  rw [hlp]
  simp only [Option.bind_some]
  unfold event_Lay_x1_2 event_Lay_b2
  have hbl : ((([] ++ oneL c0) ++ oneL c1) ++ oneL c2) ++ oneL c3 ++ oneL c4 = oneL c0 ++ (oneL c1 ++ (oneL c2 ++ (oneL c3 ++ oneL c4))) := by simp
  rw [hbl]
  have q4 := ol c4 (by omega)
  rw [page_Lay_eq (by decide) ((oneL_bs b0).app ((oneL_bs b1).app ((oneL_bs b2).app ((oneL_bs b3).app (oneL_bs b4))))) (by simp only [List.length_append]; omega) hp]
  rfl
theorem rForm_is (x : S39) (k : Int) : r06_Form x k = some (formB x k) := Form_is x k
theorem fine_eq (l : List S39) (k : Int) (h : l.length < 1099511627776 * 1024) : law06_fine l k = some (l.all fun e => formB e k) := by
  unfold law06_fine
  have key : ∀ (m q : Nat), q + m = l.length → ∃ y, loop (fun s : Int => law06_fine_l1 l k s) (q : Int) = some y ∧ (match y with | .inl _ => true | .inr b => b) = (l.drop q).all (fun e => formB e k) ∧ y ≠ .inr true := by
    intro m
    induction m with
    | zero =>
      intro q hq
      refine ⟨.inl (), loop_end ?_, by rw [List.drop_of_length_le (by omega)]; rfl, by simp⟩
      unfold law06_fine_l1
      rw [if_neg (by simp only [decide_eq_true_eq]; omega)]
    | succ m ih =>
      intro q hq
      have hql : q < l.length := by omega
      have hx := List.getElem?_eq_getElem hql
      rw [List.drop_eq_getElem_cons hql, List.all_cons]
      cases hf : formB (l[q]'hql) k with
      | false =>
        refine ⟨.inr false, loop_end ?_, rfl, by simp⟩
        unfold law06_fine_l1
        rw [if_pos (by simp only [decide_eq_true_eq]; omega), at_int rfl hx]
        simp only [Option.bind_some]
        rw [rForm_is, hf]
        rfl
      | true =>
        obtain ⟨y, hy, hm⟩ := ih (q + 1) (by omega)
        refine ⟨y, (loop_nxt (s' := ((q + 1 : Nat) : Int)) ?_).trans hy, by rw [Bool.true_and]; exact hm⟩
        unfold law06_fine_l1
        rw [if_pos (by simp only [decide_eq_true_eq]; omega), at_int rfl hx]
        simp only [Option.bind_some]
        rw [rForm_is, hf]
        simp only [Option.bind_some]
        rw [if_neg (by simp), lt_, w64 (by omega) (by omega)]
        rfl
  obtain ⟨y, hy, hm, _⟩ := key l.length 0 (by omega)
  rw [show ((0 : Nat) : Int) = 0 from rfl] at hy
  rw [List.drop_zero] at hm
  rw [hy, ← hm]
  cases y <;> rfl
theorem laid_of {l : List S39} (h : gL 48 g39 l) {k : Int} (hf : l.all (fun e => formB e k) = true) : Laid l := fun e he => by
  obtain ⟨q0, q1, q2, q3, q4⟩ := h.2 e he
  have hk := List.all_eq_true.1 hf e he
  unfold formB at hk
  simp only [Bool.and_eq_true, decide_eq_true_eq] at hk
  unfold gI Lit.wf at q0
  simp only [Bool.and_eq_true, decide_eq_true_eq] at q0
  refine ⟨⟨q0.1, Int.lt_of_le_of_lt q0.2 (by decide)⟩, gI64 q1, gI64 q2, by omega, ?_⟩
  unfold gF Lit.wf at q4
  simpa using q4
theorem EventFew (a0 : List S39) (a1 : Int) (h0 : gL 48 g39 a0) (h1 : gI .u8 a1) : law06_EventFew a0 a1 = some true := by
  have hlen : a0.length < 1099511627776 * 1024 := by have := h0.1; unfold reachBytes at this; omega
  unfold law06_EventFew
  simp only [lt_]
  generalize IntKind.i64.wrap (1 + (IntKind.i64.wrap a1).tmod 8) = k
  have hj : law06_EventFew_j1 a0 k true = some true := by
    unfold law06_EventFew_j1; rw [if_pos rfl, awake6_eq]; rfl
  rw [awake6_eq]
  simp only [Option.bind_some]
  rw [if_neg (by simp)]
  by_cases hl : 60 < a0.length
  · rw [if_pos (by simp only [decide_eq_true_eq]; omega), hj]
  rw [if_neg (by simp only [decide_eq_true_eq]; omega), fine_eq _ _ hlen]
  simp only [Option.bind_some]
  cases hf : a0.all (fun e => formB e 8) with
  | false => exact hj
  | true =>
    have hL := laid_of h0 hf
    unfold law06_EventFew_j1
    rw [if_neg (by simp), event_Lay_eq (by omega) hL (by simp)]
    simp only [Option.bind_some, List.nil_append]
    have hb := bodyL_len (l := a0) (by omega) hL
    have hpl := pageL_len 101 (bodyL a0)
    rw [event_Read_eq (pageL_bs (by decide) (bodyL_bs (by omega) hL)) (by omega)]
    have he := evR_back (l := a0) (by omega) hL k [] []
    rw [List.nil_append, List.append_nil, show ((([] : List Int).length : Nat) : Int) = 0 from rfl] at he
    rw [he]
    simp only [Option.bind_some]
    rw [fine_eq _ _ hlen]
    simp only [Option.bind_some]
    cases a0.all fun e => formB e k <;> rfl
end Go.Proofs.YthokgnonmcgkcaaDoor.P
