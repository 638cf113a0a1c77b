/- Texts of the claim, joined: what it uses of Sg, Si, Sj, Sl, Sm, Sn, So, Sr, Ss, St, Ta, Tb, Tc, Td, Te, Tf, Tg, Th, Ti. -/
import Derived.Test.YtffdckhgkhhbjaaGreatDoorZf
import Derived.Lib.ParseIntB
namespace Go.Proofs.YtffdckhgkhhbjaaGreatDoor.P
open Go Go.RowKit Go.Proofs.YtffdckhgkhhbjaaGreatDoor.E Go.Proofs.YtffdckhgkhhbjaaGreatDoor.M
set_option linter.unusedVariables false
set_option linter.unusedSectionVars false
def fourL (s : Nat) : List Int := [((s % 256 : Nat) : Int), ((s / 256 % 256 : Nat) : Int), ((s / 65536 % 256 : Nat) : Int), ((s / 16777216 % 256 : Nat) : Int)]
theorem fourL_bs (s : Nat) : Bs (fourL s) := fun x hx => by simp [fourL] at hx; omega
theorem fourL_len (s : Nat) : (fourL s).length = 4 := rfl
theorem numN_four {s : Nat} (h : s < 4294967296) (r : List Int) : numN (fourL s ++ r) = s := by
 show numN (((s % 256 : Nat) : Int) :: ((s / 256 % 256 : Nat) : Int) :: ((s / 65536 % 256 : Nat) : Int) :: ((s / 16777216 % 256 : Nat) : Int) :: r) = s
 rw [numN_mk]; omega
def headL (kind : Int) (b : List Int) : List Int := fourL b.length ++ [kind] ++ b
def pageL (kind : Int) (b : List Int) : List Int := headL kind b ++ fourL (crc (headL kind b))
theorem headL_len (kind : Int) (b : List Int) : (headL kind b).length = 5 + b.length := by simp [headL, fourL_len]; omega
theorem pageL_len (kind : Int) (b : List Int) : (pageL kind b).length = 9 + b.length := by simp [pageL, headL_len, fourL_len]; omega
theorem headL_bs {kind : Int} {b : List Int} (hk : 0 ≤ kind ∧ kind < 256) (hB : Bs b) : Bs (headL kind b) := ((fourL_bs _).app (Bs.mk hk Bs.nil)).app hB
theorem pageL_bs {kind : Int} {b : List Int} (hk : 0 ≤ kind ∧ kind < 256) (hB : Bs b) : Bs (pageL kind b) := (headL_bs hk hB).app (fourL_bs _)
theorem page_four_eq {s : Nat} (hs : s < 4294967296) : page_four (s : Int) = some (fourL s) := by
 unfold page_four fourL
 simp only [lt_]
 rw [show (8 : Int) = ((8 : Nat) : Int) from rfl, show (16 : Int) = ((16 : Nat) : Int) from rfl, show (24 : Int) = ((24 : Nat) : Int) from rfl,
  ishr_nat _ _ (by decide), ishr_nat _ _ (by decide), ishr_nat _ _ (by decide), u8_nat, u8_nat, u8_nat, u8_nat]
theorem page_Lay_eq {p b : List Int} {kind : Int} (hk : 0 ≤ kind ∧ kind < 256) (hB : Bs b) (hb : b.length < 4294967000) (hp : p.length < 1099511627776) : page_Lay p kind b = some (p ++ pageL kind b) := by
 unfold page_Lay
 rw [lt_, u32_nat, Nat.mod_eq_of_lt (by omega), page_four_eq (by omega)]
 simp only [Option.bind_some]
 rw [show fourL b.length ++ [kind] ++ b = headL kind b from rfl]
 have hl := headL_len kind b
 have h4 := fourL_len (crc (headL kind b))
 rw [chk_pos (by simp [fourL_len]), chk_pos (by simp [fourL_len]; omega), chk_pos (by omega), page_Sum_eq (headL_bs hk hB) (by omega)]
 simp only [Option.bind_some]
 rw [page_four_eq (crc_lt _)]
 simp only [Option.bind_some]
 rw [chk_pos (by simp only [List.length_append]; omega), List.append_assoc]
 rfl
theorem pageR_laid {p b q : List Int} {kind : Int} (hb : b.length ≤ 1048576) : pageR (p ++ pageL kind b ++ q) (p.length : Int) = (kind, b, ((p.length + (pageL kind b).length : Nat) : Int), 0) := by
 have hv : (p ++ pageL kind b ++ q).drop p.length = pageL kind b ++ q := by rw [List.append_assoc, List.drop_left]
 have hl := headL_len kind b
 have hpl := pageL_len kind b
 have hn : numN (pageL kind b ++ q) = b.length := by
  show numN (fourL b.length ++ [kind] ++ b ++ fourL (crc (headL kind b)) ++ q) = _
  rw [List.append_assoc, List.append_assoc, List.append_assoc, numN_four (by omega)]
 have ht : (pageL kind b ++ q).take (5 + b.length) = headL kind b := by
  show (headL kind b ++ fourL (crc (headL kind b)) ++ q).take (5 + b.length) = _
  rw [List.append_assoc, List.take_left' hl]
 have hd : (pageL kind b ++ q).drop (5 + b.length) = fourL (crc (headL kind b)) ++ q := by
  show (headL kind b ++ fourL (crc (headL kind b)) ++ q).drop (5 + b.length) = _
  rw [List.append_assoc, List.drop_left' hl]
 unfold pageR
 rw [if_neg (by simp only [List.length_append]; omega), Int.toNat_natCast, hv, hn, ht, hd, numN_four (crc_lt _), if_neg (by simp only [List.length_append]; omega), if_neg (by simp only [List.length_append]; omega), if_pos rfl]
 refine Prod.ext ?_ (Prod.ext ?_ (Prod.ext ?_ rfl))
 ·rfl
 ·show (headL kind b).drop 5 = b
  rfl
 ·show (p.length : Int) + (b.length : Int) + 9 = ((p.length + (pageL kind b).length : Nat) : Int)
  rw [hpl]; omega
section
end
section
variable {k : Int} (hk : k ≤ 8)
include hk
end
section
end
section
variable {p : List Int} {k a2 : Nat}
end
section
end
section
end
theorem One_eq {kind : Int} {b : List Int} (hk : 0 ≤ kind ∧ kind < 256) (hB : Bs b) (hb : b.length ≤ 1048576) : page_One (pageL kind b) kind = some (b, 0) := by
  have h1 : page_Read (pageL kind b) 0 = some (kind, b, ((pageL kind b).length : Int), 0) := by
    have h2 := page_Read_eq (b := pageL kind b) (a := 0) (pageL_bs hk hB) (by rw [pageL_len]; omega)
    have h3 := pageR_laid (p := []) (q := []) (kind := kind) hb
    rw [List.nil_append, List.append_nil] at h3
    rw [h2]
    congr 1
    refine h3.trans ?_
    simp
  unfold page_One
  rw [h1]
  simp only [Option.bind_some]
  rw [if_pos (by simp), if_neg (by simp)]
  unfold page_One_j2
  rw [if_neg (by simp)]
  unfold page_One_j1
  rw [if_neg (by simp)]
def agB (a : S59) : List Int := uv a.f0.toNat ++ (uv (canon a.f1) ++ (uv (if a.f2 = true then 1 else 0) ++ (uv (canon a.f3) ++ uv (canon a.f4))))
def backA (a : S59) : S59 := ⟨a.f0, canon a.f1, a.f2, canon a.f3, canon a.f4⟩
def OkA (a : S59) : Prop := (0 ≤ a.f0 ∧ a.f0 ≤ 1099511627776) ∧ a.f1 < 18446744073709551616 ∧ a.f3 < 18446744073709551616 ∧ a.f4 < 18446744073709551616
theorem agB_len {a : S59} (h : OkA a) : (agB a).length ≤ 50 := by
  obtain ⟨⟨h0, h0'⟩, h1, h3, h4⟩ := h
  have l0 := uv_length64 (n := a.f0.toNat) (by omega)
  have l1 := uv_length64 (canon_lt h1)
  have l2 : (uv (if a.f2 = true then 1 else 0)).length ≤ 10 := uv_length64 (by split <;> omega)
  have l3 := uv_length64 (canon_lt h3)
  have l4 := uv_length64 (canon_lt h4)
  unfold agB
  simp only [List.length_append]
  omega
theorem agB_bs (a : S59) : Bs (agB a) := (Bs.uv _).app ((Bs.uv _).app ((Bs.uv _).app ((Bs.uv _).app (Bs.uv _))))
theorem LayValue_eq {a : S59} (h : OkA a) (p : List Int) (hp : p.length ≤ 1099511627776) : agg_LayValue p a = some (p ++ agB a) := by
  have hl := agB_len h
  obtain ⟨⟨h0, h0'⟩, h1, h3, h4⟩ := h
  have l0 := uv_length64 (n := a.f0.toNat) (by omega)
  have l1 := uv_length64 (canon_lt h1)
  have l3 := uv_length64 (canon_lt h3)
  have l4 := uv_length64 (canon_lt h4)
  have j : ∀ (q : List Int) (x : Nat), x < 2 → q.length ≤ 1099511627900 → agg_LayValue_j1 a q (x : Int) = some (q ++ (uv x ++ (uv (canon a.f3) ++ uv (canon a.f4)))) := by
    intro q x hx hq
    have l2 : (uv x).length ≤ 10 := uv_length64 (by omega)
    unfold agg_LayValue_j1
    rw [Uint_app x q (by omega) (by omega)]
    simp only [Option.bind_some]
    rw [cBits_eq]
    simp only [Option.bind_some]
    rw [Uint_app (canon a.f3) _ (canon_lt h3) (by rw [List.length_append]; omega)]
    simp only [Option.bind_some]
    rw [cBits_eq]
    simp only [Option.bind_some]
    rw [Uint_app (canon a.f4) _ (canon_lt h4) (by rw [List.length_append, List.length_append]; omega)]
    simp only [Option.bind_some, List.append_assoc]
  have hn : a.f0 = (a.f0.toNat : Int) := by omega
  unfold agg_LayValue
  rw [hn, Uint_app a.f0.toNat p (by omega) (by omega)]
  simp only [Option.bind_some]
  rw [cBits_eq]
  simp only [Option.bind_some]
  rw [Uint_app (canon a.f1) _ (canon_lt h1) (by rw [List.length_append]; omega)]
  simp only [Option.bind_some]
  have hq : (p ++ uv a.f0.toNat ++ uv (canon a.f1)).length ≤ 1099511627900 := by rw [List.length_append, List.length_append]; omega
  unfold agB
  cases a.f2 with
  | true => rw [if_pos rfl, show (1 : Int) = ((1 : Nat) : Int) from rfl, j _ 1 (by omega) hq]; simp [List.append_assoc]
  | false => rw [if_neg (by simp), show (0 : Int) = ((0 : Nat) : Int) from rfl, j _ 0 (by omega) hq]; simp [List.append_assoc]
theorem IsR.of {ρ : Type} {o : Option ((ρ × S121) ⊕ S121)} {a : ρ} {r : List Int} (h : IsR o (some (a, r))) : o = some (.inl (a, ⟨r⟩)) := by
  rcases h.cases with ⟨a', r', e, e2⟩ | ⟨e, _⟩
  · cases e; exact e2
  · cases e
theorem Uint_laid {m : Nat} {most : Int} {r : List Int} (hm : m < 18446744073709551616) (h : (m : Int) ≤ most) (hB : Bs r) : column_Reader_Uint ⟨uv m ++ r⟩ most = some (.inl ((m : Int), ⟨r⟩)) := by
  have h1 := Uint_is most (xs := uv m ++ r) ((Bs.uv m).app hB)
  rw [pU_uv hm r h] at h1
  exact h1.of
theorem Int_laid {x : Int} {r : List Int} (hx : i64 x) (hB : Bs r) : column_Reader_Int ⟨uv (zz x) ++ r⟩ = some (.inl (x, ⟨r⟩)) := by
  have h1 := Int_is (xs := uv (zz x) ++ r) ((Bs.uv _).app hB)
  rw [pI_uv hx r] at h1
  exact h1.of
theorem pT32 {s : List UInt8} (h : s.length ≤ 32) (r : List Int) : pT 32 (uv s.length ++ (stb s ++ r)) = some (s, r) := by
  unfold pT
  rw [show IntKind.u64.wrap 32 = 32 from by decide, pU_uv (m := s.length) (by omega) (stb s ++ r) (most := 32) (by omega)]
  dsimp only
  rw [if_pos (by simp [stb]; omega), show (s.length : Int).toNat = (stb s).length by simp [stb], List.take_left, List.drop_left]
  congr 2
  exact bts_stb s
theorem Text_laid {s : List UInt8} {r : List Int} (h : s.length ≤ 32) (hB : Bs r) (hl : r.length < 1099511627776) : column_Reader_Text ⟨uv s.length ++ (stb s ++ r)⟩ 32 = some (.inl (s, ⟨r⟩)) := by
  have hu := uv_length64 (n := s.length) (by omega)
  have h1 := Text_is 32 (xs := uv s.length ++ (stb s ++ r)) ((Bs.uv _).app ((Bs.stb s).app hB)) (by simp only [List.length_append]; simp [stb]; omega)
  rw [pT32 h r] at h1
  exact h1.of
theorem Byte_laid {b : Int} {r : List Int} : column_Reader_Byte ⟨b :: r⟩ = some (.inl (b, ⟨r⟩)) := (Byte_is (b :: r)).of
theorem number_laid {x : Nat} {r : List Int} (h : x < 18446744073709551616) (hB : Bs r) : agg_number ⟨uv (canon x) ++ r⟩ = some (.inl (canon x, ⟨r⟩)) := by
  have hc := canon_lt h
  unfold agg_number
  rw [Uint_laid hc (by omega) hB]
  simp only [Option.bind_some, s_inl]
  rw [cOf_eq]
  simp only [Option.bind_some]
  rw [cBits_eq, Int.toNat_natCast, canon_canon, canon_canon]
  simp only [Option.bind_some]
  rw [show ((canon x : Int) == (canon x : Int)) = true by simp, Check_t]
  rfl
theorem ReadValue_laid {a : S59} (h : OkA a) {r : List Int} (hB : Bs r) : agg_ReadValue ⟨agB a ++ r⟩ = some (.inl (backA a, ⟨r⟩)) := by
  obtain ⟨⟨h0, h0'⟩, h1, h3, h4⟩ := h
  have b4 : Bs (uv (canon a.f4) ++ r) := (Bs.uv _).app hB
  have b3 : Bs (uv (canon a.f3) ++ (uv (canon a.f4) ++ r)) := (Bs.uv _).app b4
  have b2 : Bs (uv (if a.f2 = true then 1 else 0) ++ (uv (canon a.f3) ++ (uv (canon a.f4) ++ r))) := (Bs.uv _).app b3
  have b1 : Bs (uv (canon a.f1) ++ (uv (if a.f2 = true then 1 else 0) ++ (uv (canon a.f3) ++ (uv (canon a.f4) ++ r)))) := (Bs.uv _).app b2
  unfold agg_ReadValue agB
  simp only [List.append_assoc]
  rw [Uint_laid (m := a.f0.toNat) (by omega) (by omega) b1]
  simp only [Option.bind_some, s_inl]
  rw [number_laid h1 b2]
  simp only [Option.bind_some, s_inl]
  rw [Uint_laid (m := if a.f2 = true then 1 else 0) (by split <;> omega) (by split <;> omega) b3]
  simp only [Option.bind_some, s_inl]
  rw [number_laid h3 b4]
  simp only [Option.bind_some, s_inl]
  rw [number_laid h4 hB]
  simp only [Option.bind_some, s_inl]
  unfold backA
  rw [show (a.f0.toNat : Int) = a.f0 by omega]
  cases a.f2 <;> rfl
def chB (c : S63) : List Int := (if c.f0 = true then 1 else 0) :: (uv c.f1.toNat ++ (uv c.f2.f0.length ++ (stb c.f2.f0 ++ (uv (zz c.f2.f1.f0) ++ (uv (zz c.f2.f1.f1) ++ agB c.f2.f2)))))
def backC (c : S63) : S63 := ⟨c.f0, c.f1, ⟨c.f2.f0, c.f2.f1, backA c.f2.f2⟩⟩
def OkC (c : S63) : Prop := (0 ≤ c.f1 ∧ c.f1 ≤ 1099511627776) ∧ c.f2.f0.length ≤ 32 ∧ (i64 c.f2.f1.f0 ∧ i64 c.f2.f1.f1) ∧ OkA c.f2.f2
def chsB (l : List S63) : List Int := uv l.length ++ l.flatMap chB
def ledB (l : List S63) : List Int := pageL 108 (chsB l)
theorem chB_len {c : S63} (h : OkC c) : (chB c).length ≤ 123 := by
  obtain ⟨h1, h2, ⟨h3, h4⟩, h5⟩ := h
  have l1 := uv_length64 (n := c.f1.toNat) (by omega)
  have l2 := uv_length64 (n := c.f2.f0.length) (by omega)
  have l3 := uv_length64 (zz_lt h3)
  have l4 := uv_length64 (zz_lt h4)
  have l5 := agB_len h5
  unfold chB
  simp only [List.length_cons, List.length_append]
  simp [stb]
  omega
theorem chB_bs (c : S63) : Bs (chB c) := by
  unfold chB
  refine Bs.mk (by split <;> omega) ((Bs.uv _).app ((Bs.uv _).app ((Bs.stb _).app ((Bs.uv _).app ((Bs.uv _).app (agB_bs _))))))
theorem flat_bs : ∀ l : List S63, Bs (l.flatMap chB)
  | [] => Bs.nil
  | c :: l => (chB_bs c).app (flat_bs l)
theorem flat_len : ∀ {l : List S63}, (∀ c ∈ l, OkC c) → (l.flatMap chB).length ≤ 123 * l.length
  | [], _ => Nat.le_refl _
  | c :: l, h => by
    have h1 := chB_len (h c List.mem_cons_self)
    have h2 := flat_len (l := l) fun x hx => h x (List.mem_cons_of_mem _ hx)
    rw [List.flatMap_cons, List.length_append, List.length_cons]
    omega
section
variable {l : List S63} (hl : l.length ≤ 100) (hO : ∀ c ∈ l, OkC c)
include hl hO
theorem chsB_len : (chsB l).length ≤ 10 + 123 * l.length := by
  have h1 := uv_length64 (n := l.length) (by omega)
  have h2 := flat_len hO
  unfold chsB
  rw [List.length_append]
  omega
theorem ledB_len : (ledB l).length ≤ 19 + 123 * l.length := by
  have := chsB_len hl hO
  unfold ledB
  rw [pageL_len]
  omega
theorem chsB_bs : Bs (chsB l) := (Bs.uv _).app (flat_bs l)
theorem ledB_bs : Bs (ledB l) := pageL_bs (by decide) (chsB_bs hl hO)
theorem Lay_step {k : Nat} (hk : k < l.length) : ledger_Lay_l1 l (uv l.length ++ (l.take k).flatMap chB) (k : Int) = some (.inl (uv l.length ++ (l.take (k + 1)).flatMap chB, ((k + 1 : Nat) : Int))) := by
  have hx := List.getElem?_eq_getElem hk
  have ho := hO _ (List.getElem_mem hk)
  have h1 := uv_length64 (n := l.length) (by omega)
  have h2 := flat_len (l := l.take k) fun c hc => hO c (List.mem_of_mem_take hc)
  have h3 : (l.take k).length ≤ 100 := by rw [List.length_take]; omega
  have e : (l.take (k + 1)).flatMap chB = (l.take k).flatMap chB ++ chB l[k] := by rw [List.take_add_one, hx, List.flatMap_append]; simp
  rw [e]
  generalize hp : uv l.length ++ (l.take k).flatMap chB = p
  have hpl : p.length ≤ 20000 := by rw [← hp, List.length_append]; omega
  rw [← List.append_assoc, hp]
  clear hp e h1 h2 h3
  generalize l[k] = c at hx ho
  obtain ⟨o1, o2, ⟨o3, o4⟩, o5⟩ := ho
  have l1 := uv_length64 (n := c.f1.toNat) (by omega)
  have l2 := uv_length64 (n := c.f2.f0.length) (by omega)
  have l3 := uv_length64 (zz_lt o3)
  have l4 := uv_length64 (zz_lt o4)
  have ls : (stb c.f2.f0).length ≤ 32 := by simp [stb]; exact o2
  have j : ∀ b : Int, ledger_Lay_j1 p (k : Int) c b = some (.inl (p ++ (b :: (uv c.f1.toNat ++ (uv c.f2.f0.length ++ (stb c.f2.f0 ++ (uv (zz c.f2.f1.f0) ++ (uv (zz c.f2.f1.f1) ++ agB c.f2.f2)))))), ((k + 1 : Nat) : Int))) := by
    intro b
    unfold ledger_Lay_j1
    have hn : c.f1 = (c.f1.toNat : Int) := by omega
    have e1 : column_Uint (p ++ [b]) c.f1 = some (p ++ [b] ++ uv c.f1.toNat) := by
      have := Uint_app c.f1.toNat (p ++ [b]) (by omega) (by simp only [List.length_append, List.length_singleton]; omega)
      rwa [← hn] at this
    rw [chk_pos (by simp only [List.length_singleton]; omega), e1]
    simp only [Option.bind_some]
    rw [Text_app _ _ (by omega) (by simp only [List.length_append, List.length_singleton]; omega)]
    simp only [Option.bind_some]
    rw [Int_app o3 _ (by simp only [List.length_append, List.length_singleton]; omega)]
    simp only [Option.bind_some]
    rw [Int_app o4 _ (by simp only [List.length_append, List.length_singleton]; omega)]
    simp only [Option.bind_some]
    rw [LayValue_eq o5 _ (by simp only [List.length_append, List.length_singleton]; omega)]
    simp only [Option.bind_some, lt_]
    rw [w64 (by omega) (by omega)]
    simp [List.append_assoc]
  unfold ledger_Lay_l1
  rw [if_pos (by simp only [decide_eq_true_eq]; omega), at_int rfl hx]
  simp only [Option.bind_some]
  unfold chB
  cases c.f0 with
  | true => rw [if_pos rfl, j]; rfl
  | false => rw [if_neg (by simp), j]; rfl
theorem ledger_Lay_eq : ledger_Lay l = some (ledB l) := by
  unfold ledger_Lay
  simp only [lt_]
  have h1 := uv_length64 (n := l.length) (by omega)
  rw [u64w (by omega) (by omega), Uint_app l.length [] (by omega) (by simp only [List.length_nil]; omega)]
  simp only [Option.bind_some, List.nil_append]
  have h := loop_to (b := fun s : List Int × Int => ledger_Lay_l1 l s.1 s.2) (fun k => (uv l.length ++ (l.take k).flatMap chB, (k : Int))) (t := chsB l) l.length (fun k hk => Lay_step hl hO hk) (by
    show ledger_Lay_l1 l _ _ = _
    unfold ledger_Lay_l1
    rw [if_neg (by simp only [decide_eq_true_eq]; omega), List.take_length]
    rfl)
  rw [List.take_zero, List.flatMap_nil, List.append_nil] at h
  rw [show (0 : Int) = ((0 : Nat) : Int) from rfl, h]
  show ledger_Lay_b1 (chsB l) = _
  unfold ledger_Lay_b1
  rw [page_Lay_eq (p := []) (by decide) (chsB_bs hl hO) (by have := chsB_len hl hO; omega) (by simp)]
  rfl
theorem Read_step {k : Nat} (hk : k < l.length) (r0 : S121) : ledger_Read_1_l1 ((l.length : Int), r0) ((l.drop k).flatMap chB) ((l.take k).map backC) (k : Int) = some (.inl ((l.drop (k + 1)).flatMap chB, (l.take (k + 1)).map backC, ((k + 1 : Nat) : Int))) := by
  have hx := List.getElem?_eq_getElem hk
  have ho := hO _ (List.getElem_mem hk)
  have hB := flat_bs (l.drop (k + 1))
  have hrl := flat_len (l := l.drop (k + 1)) fun c hc => hO c (List.mem_of_mem_drop hc)
  have hdl : (l.drop (k + 1)).length ≤ 100 := by rw [List.length_drop]; omega
  rw [List.drop_eq_getElem_cons hk, List.flatMap_cons, List.take_add_one, hx, List.map_append]
  generalize (l.drop (k + 1)).flatMap chB = r at hB hrl
  have htl : ((l.take k).map backC).length ≤ 100 := by rw [List.length_map, List.length_take]; omega
  generalize (l.take k).map backC = acc at htl
  generalize l[k] = c at hx ho
  obtain ⟨o1, o2, ⟨o3, o4⟩, o5⟩ := ho
  have b5 : Bs (agB c.f2.f2 ++ r) := (agB_bs _).app hB
  have b4 : Bs (uv (zz c.f2.f1.f1) ++ (agB c.f2.f2 ++ r)) := (Bs.uv _).app b5
  have b3 : Bs (uv (zz c.f2.f1.f0) ++ (uv (zz c.f2.f1.f1) ++ (agB c.f2.f2 ++ r))) := (Bs.uv _).app b4
  have b2 : Bs (uv c.f2.f0.length ++ (stb c.f2.f0 ++ (uv (zz c.f2.f1.f0) ++ (uv (zz c.f2.f1.f1) ++ (agB c.f2.f2 ++ r))))) := (Bs.uv _).app ((Bs.stb _).app b3)
  have l3 := uv_length64 (zz_lt o3)
  have l4 := uv_length64 (zz_lt o4)
  have l5 := agB_len o5
  unfold ledger_Read_1_l1 chB
  rw [if_pos (by simp only [decide_eq_true_eq]; omega)]
  simp only [List.cons_append, List.append_assoc]
  rw [Byte_laid]
  simp only [Option.bind_some, s_inl]
  rw [show (decide ((if c.f0 = true then (1 : Int) else 0) < 2)) = true by simp only [decide_eq_true_eq]; split <;> omega, Check_t]
  simp only [Option.bind_some, s_inl]
  rw [Uint_laid (m := c.f1.toNat) (by omega) (by omega) b2]
  simp only [Option.bind_some, s_inl]
  rw [Text_laid o2 b3 (by simp only [List.length_append]; omega)]
  simp only [Option.bind_some, s_inl]
  rw [Int_laid o3 b4]
  simp only [Option.bind_some, s_inl]
  rw [Int_laid o4 b5]
  simp only [Option.bind_some, s_inl]
  rw [ReadValue_laid o5 hB]
  simp only [Option.bind_some, s_inl, lt_]
  rw [chk_pos (by simp only [List.length_singleton]; omega), u64w (by omega) (by omega)]
  rw [show (c.f1.toNat : Int) = c.f1 by omega]
  have hput : ((if c.f0 = true then (1 : Int) else 0) == 1) = c.f0 := by cases c.f0 <;> rfl
  rw [hput]
  rfl
theorem ledger_Read_eq : ledger_Read (ledB l) = some (l.map backC, 0) := by
  have hcl := chsB_len hl hO
  unfold ledger_Read ledB
  rw [One_eq (by decide) (chsB_bs hl hO) (by omega)]
  simp only [Option.bind_some]
  rw [if_neg (by simp)]
  have hr : ledger_Read_1 ⟨chsB l⟩ [] = some (.inl (⟨[]⟩, l.map backC)) := by
    unfold ledger_Read_1
    unfold chsB
    rw [Uint_laid (m := l.length) (by omega) (by omega) (flat_bs l)]
    simp only [Option.bind_some, s_inl]
    have h := loop_to (b := fun s : List Int × List S63 × Int => ledger_Read_1_l1 ((l.length : Int), (⟨l.flatMap chB⟩ : S121)) s.1 s.2.1 s.2.2) (fun k => ((l.drop k).flatMap chB, (l.take k).map backC, (k : Int))) (t := .inl ([], l.map backC)) l.length (fun k hk => Read_step hl hO hk _) (by
      show ledger_Read_1_l1 _ _ _ _ = _
      unfold ledger_Read_1_l1
      rw [if_neg (by simp only [decide_eq_true_eq]; omega), List.take_length, List.drop_length]
      rfl)
    rw [List.take_zero, List.drop_zero, List.map_nil] at h
    rw [show (0 : Int) = ((0 : Nat) : Int) from rfl, h]
    rfl
  unfold Try_ledger_Read_1
  rw [hr]
  rfl
end
def nOut : List UInt8 := [111, 117, 116]
def nState : List UInt8 := [115, 116, 97, 116, 101]
def nMan : List UInt8 := [109, 97, 110]
def nTmp : List UInt8 := [109, 97, 110, 46, 116, 109, 112]
def nOther : List UInt8 := [111, 116, 104, 101, 114]
def decN (n : Nat) : List UInt8 := if n < 10 then [UInt8.ofNat (48 + n)] else [UInt8.ofNat (48 + n / 10), UInt8.ofNat (48 + n % 10)]
def fnm (w : List UInt8) (n : Nat) : List UInt8 := (w ++ [46]) ++ decN n
theorem decN_len (n : Nat) : (decN n).length ≤ 2 := by unfold decN; split <;> simp
theorem FormatUint_eq : ∀ n : Nat, n < 100 → strconv_FormatUint (n : Int) 10 = some (decN n) := by decide +kernel
theorem file_eq {w : List UInt8} {n : Nat} (hw : w.length ≤ 100) (hn : n < 100) : commit_file w (n : Int) = some (fnm w n) := by
  have := decN_len n
  unfold commit_file
  rw [chk_pos (by simp only [List.length_singleton, maxLen]; omega), FormatUint_eq n hn]
  simp only [Option.bind_some]
  rw [chk_pos (by simp only [List.length_append, List.length_singleton, maxLen]; omega)]
  rfl
theorem cut_out : ∀ n < 100, Lib.cut (fnm nOut n) [46] = (nOut, decN n, true) := by decide +kernel
theorem cut_state : ∀ n < 100, Lib.cut (fnm nState n) [46] = (nState, decN n, true) := by decide +kernel
theorem cut_man : Lib.cut nMan [46] = (nMan, [], false) := by decide +kernel
theorem cut_other : Lib.cut nOther [46] = (nOther, [], false) := by decide +kernel
theorem parse_dec : ∀ n < 100, Lib.parseUintB 32 (decN n) = .ok n := by decide +kernel
theorem form_out : ∀ n < 100, formN (fnm nOut n) = true := by decide +kernel
theorem form_state : ∀ n < 100, formN (fnm nState n) = true := by decide +kernel
theorem form_man : formN nMan = true := by decide
theorem form_tmp : formN nTmp = true := by decide
theorem dec_inj {m n : Nat} (hm : m < 100) (hn : n < 100) (h : decN m = decN n) : m = n := by
  have h1 := parse_dec m hm
  rw [h, parse_dec n hn] at h1
  injection h1 with h1
  exact h1.symm
theorem out_inj {m n : Nat} (hm : m < 100) (hn : n < 100) (h : fnm nOut m = fnm nOut n) : m = n := by
  have h1 := cut_out m hm
  rw [h, cut_out n hn] at h1
  injection h1 with _ h2
  injection h2 with h2 _
  exact (dec_inj hn hm h2).symm
theorem state_inj {m n : Nat} (hm : m < 100) (hn : n < 100) (h : fnm nState m = fnm nState n) : m = n := by
  have h1 := cut_state m hm
  rw [h, cut_state n hn] at h1
  injection h1 with _ h2
  injection h2 with h2 _
  exact (dec_inj hn hm h2).symm
theorem out_state {m n : Nat} (hm : m < 100) (hn : n < 100) : fnm nOut m ≠ fnm nState n := fun h => by
  have h1 := cut_out m hm
  rw [h, cut_state n hn] at h1
  injection h1 with h1 _
  exact absurd h1 (by decide)
theorem out_man {m : Nat} (hm : m < 100) : fnm nOut m ≠ nMan := fun h => by
  have h1 := cut_out m hm
  rw [h, cut_man] at h1
  injection h1 with h1 _
  exact absurd h1 (by decide)
theorem state_man {m : Nat} (hm : m < 100) : fnm nState m ≠ nMan := fun h => by
  have h1 := cut_state m hm
  rw [h, cut_man] at h1
  injection h1 with h1 _
  exact absurd h1 (by decide)
theorem cut_tmp : Lib.cut nTmp [46] = (nMan, [116, 109, 112], true) := by decide +kernel
theorem out_tmp {m : Nat} (hm : m < 100) : fnm nOut m ≠ nTmp := fun h => by
  have h1 := cut_out m hm
  rw [h, cut_tmp] at h1
  injection h1 with h1 _
  exact absurd h1 (by decide)
theorem state_tmp {m : Nat} (hm : m < 100) : fnm nState m ≠ nTmp := fun h => by
  have h1 := cut_state m hm
  rw [h, cut_tmp] at h1
  injection h1 with h1 _
  exact absurd h1 (by decide)
theorem out_other {m : Nat} (hm : m < 100) : fnm nOut m ≠ nOther := fun h => by
  have h1 := cut_out m hm
  rw [h, cut_other] at h1
  injection h1 with h1 _
  exact absurd h1 (by decide)
theorem state_other {m : Nat} (hm : m < 100) : fnm nState m ≠ nOther := fun h => by
  have h1 := cut_state m hm
  rw [h, cut_other] at h1
  injection h1 with h1 _
  exact absurd h1 (by decide)
def prs (t : List UInt8) : Int × Bool := match Lib.parseUintB 32 t with | .ok u => ((u : Int), false) | .range => (4294967295, true) | _ => (0, true)
def goesB (k : Int) (f : List UInt8) : Bool :=
  (f == nTmp) || (((Lib.cut f [46]).1 == nState || (Lib.cut f [46]).1 == nOut) && ((prs (Lib.cut f [46]).2.1).2 || ((Lib.cut f [46]).1 == nState && (prs (Lib.cut f [46]).2.1).1 != k) || ((Lib.cut f [46]).1 == nOut && ((prs (Lib.cut f [46]).2.1).1 == 0 || decide (k < (prs (Lib.cut f [46]).2.1).1)))))
theorem prs_dec {n : Nat} (hn : n < 100) : prs (decN n) = ((n : Int), false) := by unfold prs; rw [parse_dec n hn]
theorem goes_man (k : Int) : goesB k nMan = false := by
  unfold goesB
  rw [cut_man]
  rfl
theorem goes_other (k : Int) : goesB k nOther = false := by
  unfold goesB
  rw [cut_other]
  rfl
theorem goes_state (k : Int) {n : Nat} (hn : n < 100) : goesB k (fnm nState n) = ((n : Int) != k) := by
  unfold goesB
  rw [cut_state n hn, show (fnm nState n == nTmp) = false by rw [beq_eq_false_iff_ne]; exact state_tmp hn]
  dsimp only
  rw [prs_dec hn, show (nState == nState) = true from rfl, show (nState == nOut) = false from rfl]
  simp
theorem goes_out (k : Int) {n : Nat} (hn : n < 100) : goesB k (fnm nOut n) = ((n : Int) == 0 || decide (k < (n : Int))) := by
  unfold goesB
  rw [cut_out n hn, show (fnm nOut n == nTmp) = false by rw [beq_eq_false_iff_ne]; exact out_tmp hn]
  dsimp only
  rw [prs_dec hn, show (nOut == nState) = false from rfl, show (nOut == nOut) = true from rfl]
  simp
def swp (k : Int) : List (List UInt8) → S66 → Int × S66
  | [], s => (0, s)
  | f :: r, s => if goesB k f = true then (if (delS s f).1 = 0 then swp k r (delS s f).2 else delS s f) else swp k r s
theorem cut_le (f : List UInt8) : (Lib.cut f [46]).2.1.length ≤ f.length := by
  unfold Lib.cut
  split
  · simp only [List.length_drop]; omega
  · simp
theorem swp_j1 (k x : Int) (l : List S72) (a b : Int) (c : Bool) (d : Int) (f : List UInt8) (y : List UInt8 × List UInt8 × Bool) (o : Bool) :
    commit_sweep_j1 l a b c d x f y o = commit_sweep_j2 l a b c d x f ((f == nTmp) || ((y.1 == nState || y.1 == nOut) && o)) := by
  unfold commit_sweep_j1
  rw [show ([109, 97, 110, 46, 116, 109, 112] : List UInt8) = nTmp from rfl, show ([115, 116, 97, 116, 101] : List UInt8) = nState from rfl, show ([111, 117, 116] : List UInt8) = nOut from rfl]
  cases (f == nTmp) <;> cases (y.1 == nState) <;> cases (y.1 == nOut) <;> rfl
theorem swp_round {kk : Nat} {s : S66} (h : SI kk s) (hk : kk < 4611686018427387904) (k : Int) {L : List (List UInt8)} {i : Nat} {f : List UInt8} (hf : L[i]? = some f) (hl : f.length ≤ 32) (hL : L.length ≤ 500) :
    commit_sweep_l1 k L s.f0 s.f1 s.f2 s.f3 s.f4 (i : Int) = if goesB k f = true then (if (delS s f).1 = 0 then some (.inl ((delS s f).2.f0, (delS s f).2.f1, (delS s f).2.f2, (delS s f).2.f3, (delS s f).2.f4, ((i + 1 : Nat) : Int))) else some (.inr (.inr (delS s f)))) else some (.inl (s.f0, s.f1, s.f2, s.f3, s.f4, ((i + 1 : Nat) : Int))) := by
  have hi := (List.getElem?_eq_some_iff.1 hf).1
  have hb2 : ∀ (l : List S72) (a b : Int) (c : Bool) (d : Int), commit_sweep_b2 (i : Int) l a b c d = some (.inl (l, a, b, c, d, ((i + 1 : Nat) : Int))) := by
    intro l a b c d
    unfold commit_sweep_b2
    rw [lt_, w64 (by omega) (by omega)]
    rfl
  have hj2 : ∀ g : Bool, commit_sweep_j2 s.f0 s.f1 s.f2 s.f3 s.f4 (i : Int) f g = if g = true then (if (delS s f).1 = 0 then some (.inl ((delS s f).2.f0, (delS s f).2.f1, (delS s f).2.f2, (delS s f).2.f3, (delS s f).2.f4, ((i + 1 : Nat) : Int))) else some (.inr (.inr (delS s f)))) else some (.inl (s.f0, s.f1, s.f2, s.f3, s.f4, ((i + 1 : Nat) : Int))) := by
    intro g
    unfold commit_sweep_j2
    cases g with
    | false => rw [if_neg (by simp), if_neg (by simp), hb2]
    | true =>
      rw [if_pos rfl, if_pos rfl, show (⟨s.f0, s.f1, s.f2, s.f3, s.f4⟩ : S66) = s from rfl, h.Delete hk (by omega)]
      simp only [Option.bind_some]
      by_cases c : (delS s f).1 = 0
      · rw [if_neg (by simp [c]), if_pos c, hb2]
      · rw [if_pos (by simpa using c), if_neg c]
  unfold commit_sweep_l1
  rw [if_pos (by simp only [decide_eq_true_eq]; omega), at_int rfl hf]
  simp only [Option.bind_some]
  have hc : strings_Cut f [46] = some (Lib.cut f [46]) := by unfold strings_Cut; rw [chk_pos (by omega)]
  have hp : strconv_ParseUint (Lib.cut f [46]).2.1 10 32 = some (prs (Lib.cut f [46]).2.1) := by
    have := cut_le f
    unfold strconv_ParseUint
    rw [chk_pos ⟨rfl, rfl, by omega⟩]
    unfold prs
    split <;> simp_all
  rw [hc]
  simp only [Option.bind_some]
  rw [hp]
  simp only [Option.bind_some]
  rw [show ([115, 116, 97, 116, 101] : List UInt8) = nState from rfl, show ([111, 117, 116] : List UInt8) = nOut from rfl]
  simp only [swp_j1 k]
  have key : ∀ (t bs bo e d1 z g : Bool) (J : Bool → Option (((List S72) × Int × Int × Bool × Int × Int) ⊕ (((List S72) × Int × Int × Bool × Int) ⊕ (Int × S66)))),
      (if e = true then J (t || ((bs || bo) && true)) else (if bs = true then (if d1 = true then J (t || ((bs || bo) && true)) else (if bo = true then (if z = true then J (t || ((bs || bo) && true)) else J (t || ((bs || bo) && g))) else J (t || ((bs || bo) && false)))) else (if bo = true then (if z = true then J (t || ((bs || bo) && true)) else J (t || ((bs || bo) && g))) else J (t || ((bs || bo) && false))))) = J (t || ((bs || bo) && (e || (bs && d1) || (bo && (z || g))))) := by
    intro t bs bo e d1 z g J
    cases bs <;> cases bo <;> cases e <;> cases d1 <;> cases z <;> cases g <;> rfl
  rw [key (f == nTmp) ((Lib.cut f [46]).1 == nState) ((Lib.cut f [46]).1 == nOut) (prs (Lib.cut f [46]).2.1).2 ((prs (Lib.cut f [46]).2.1).1 != k) ((prs (Lib.cut f [46]).2.1).1 == 0) (decide (k < (prs (Lib.cut f [46]).2.1).1)) (fun o => commit_sweep_j2 s.f0 s.f1 s.f2 s.f3 s.f4 (i : Int) f o), hj2]
  rfl
theorem swp_loop (k : Int) {L : List (List UInt8)} (hL : L.length ≤ 500) (h32 : ∀ f ∈ L, f.length ≤ 32) : ∀ (m i kk : Nat) (s : S66), i + m = L.length → SI kk s → kk + m < 4611686018427387904 →
    ((loop (fun q : List S72 × Int × Int × Bool × Int × Int => commit_sweep_l1 k L q.1 q.2.1 q.2.2.1 q.2.2.2.1 q.2.2.2.2.1 q.2.2.2.2.2) (s.f0, s.f1, s.f2, s.f3, s.f4, (i : Int))).bind fun t => match t with | (.inl t) => commit_sweep_x1_0 t.1 t.2.1 t.2.2.1 t.2.2.2.1 t.2.2.2.2 | (.inr t) => some t) = some (swp k (L.drop i) s)
  | 0, i, kk, s, hi, h, hk => by
    rw [loop_end (b := fun q : List S72 × Int × Int × Bool × Int × Int => commit_sweep_l1 k L q.1 q.2.1 q.2.2.1 q.2.2.2.1 q.2.2.2.2.1 q.2.2.2.2.2) (t := .inl (s.f0, s.f1, s.f2, s.f3, s.f4)) (by
      show commit_sweep_l1 k L s.f0 s.f1 s.f2 s.f3 s.f4 (i : Int) = _
      unfold commit_sweep_l1
      rw [if_neg (by simp only [decide_eq_true_eq]; omega)]), List.drop_of_length_le (by omega)]
    rfl
  | m + 1, i, kk, s, hi, h, hk => by
    have hx := List.getElem?_eq_getElem (l := L) (i := i) (by omega)
    have hr := swp_round h (by omega) k hx (h32 _ (List.getElem_mem (by omega))) hL
    rw [List.drop_eq_getElem_cons (by omega)]
    unfold swp
    by_cases c : goesB k L[i] = true
    · rw [if_pos c] at hr ⊢
      by_cases c2 : (delS s L[i]).1 = 0
      · rw [if_pos c2] at hr ⊢
        rw [loop_nxt (b := fun q : List S72 × Int × Int × Bool × Int × Int => commit_sweep_l1 k L q.1 q.2.1 q.2.2.1 q.2.2.2.1 q.2.2.2.2.1 q.2.2.2.2.2) hr]
        exact swp_loop k hL h32 m (i + 1) (kk + 1) _ (by omega) (h.del (n := L[i])) (by omega)
      · rw [if_neg c2] at hr ⊢
        rw [loop_end (b := fun q : List S72 × Int × Int × Bool × Int × Int => commit_sweep_l1 k L q.1 q.2.1 q.2.2.1 q.2.2.2.1 q.2.2.2.2.1 q.2.2.2.2.2) hr]
        rfl
    · rw [if_neg c] at hr ⊢
      rw [loop_nxt (b := fun q : List S72 × Int × Int × Bool × Int × Int => commit_sweep_l1 k L q.1 q.2.1 q.2.2.1 q.2.2.2.1 q.2.2.2.2.1 q.2.2.2.2.2) hr]
      exact swp_loop k hL h32 m (i + 1) kk _ (by omega) h (by omega)
theorem form_32 {f : List UInt8} (h : formN f = true) : f.length ≤ 32 := by
  unfold formN at h
  simp only [Bool.and_eq_true, decide_eq_true_eq] at h
  exact h.2
theorem sweep_eq {kk : Nat} {s : S66} (h : SI kk s) (hk : kk + 500 < 4611686018427387904) (k : Int) : commit_sweep s k = some (swp k (s.f0.map S72.f0) s) := by
  have hl := h.len
  unfold commit_sweep
  rw [h.Names]
  simp only [Option.bind_some]
  have := swp_loop k (L := s.f0.map S72.f0) (by simpa using hl) (fun f hf => by
    obtain ⟨x, hx, rfl⟩ := List.mem_map.1 hf
    exact form_32 (h.form x hx)) s.f0.length 0 kk s (by simp) h (by omega)
  rw [List.drop_zero] at this
  exact this
def Kp (s s' : S66) : Prop := s'.f1 = s.f1 ∧ (s.f2 = 0 → s.f3 = false → s'.f2 = 0 ∧ s'.f3 = false)
theorem Kp.refl (s : S66) : Kp s s := ⟨rfl, fun a b => ⟨a, b⟩⟩
theorem Kp.trans {a b c : S66} (h : Kp a b) (h' : Kp b c) : Kp a c := ⟨h'.1.trans h.1, fun x y => h'.2 (h.2 x y).1 (h.2 x y).2⟩
theorem Kp.off {s s' : S66} (h : Kp s s') (h2 : s.f2 = 0) (h3 : s.f3 = false) (h' : s'.f3 = true) : False := by
  have := (h.2 h2 h3).2
  rw [h'] at this; cases this
theorem step_kp (s : S66) (l : List S72) : Kp s { step s with f0 := l } := by
  refine ⟨rfl, fun h2 h3 => ?_⟩
  unfold step
  rw [h2, h3]
  exact ⟨rfl, rfl⟩
theorem look_of {s : S66} {n : List UInt8} (hn : formN n = true) (h : s.f3 = false) : lookS s n = 0 := by unfold lookS; rw [if_pos hn, h]; rfl
theorem get_form {kk : Nat} {s : S66} (h : SI kk s) {n : List UInt8} {x : S72} (hx : get s.f0 n = some x) : formN n = true := by
  obtain ⟨h1, rfl⟩ := get_mem hx
  exact h.form x h1
theorem chg_spec {kk : Nat} {s : S66} (h : SI kk s) (hon : s.f3 = false) {n : List UInt8} {x : S72} (hx : get s.f0 n = some x) (f : S72 → List S72) :
    Kp s (chgS s n f).2 ∧ (((chgS s n f).1 = 0 ∧ (chgS s n f).2.f3 = false ∧ (chgS s n f).2.f0 = f x) ∨ ((chgS s n f).1 = 9 ∧ (chgS s n f).2.f3 = true ∧ (chgS s n f).2.f0 = s.f0)) := by
  unfold chgS
  rw [if_pos (look_of (get_form h hx) hon), hx]
  dsimp only
  split
  · rename_i c
    exact ⟨step_kp s s.f0, .inr ⟨rfl, c, rfl⟩⟩
  · rename_i c
    exact ⟨step_kp s (f x), .inl ⟨rfl, by simpa using c, rfl⟩⟩
theorem app_spec {kk : Nat} {s : S66} (h : SI kk s) (hon : s.f3 = false) {n : List UInt8} (hn : formN n = true) (p : List Int) :
    Kp s (appS s n p).2 ∧ (((appS s n p).1 = 10 ∧ (appS s n p).2 = s ∧ (s.f1 - used s.f0 < p.length ∨ 500 ≤ s.f0.length)) ∨
      (((appS s n p).1 = 0 ∧ (appS s n p).2.f3 = false ∨ (appS s n p).1 = 9 ∧ (appS s n p).2.f3 = true) ∧ (appS s n p).2.f0 = put s.f0 ⟨n, ((get s.f0 n).getD ⟨n, [], 0⟩).f1 ++ p, ((get s.f0 n).getD ⟨n, [], 0⟩).f2⟩)) := by
  unfold appS
  rw [if_pos (look_of hn hon)]
  split
  · rename_i c
    exact ⟨Kp.refl s, .inl ⟨rfl, rfl, c.elim .inl fun c => .inr c.2⟩⟩
  · refine ⟨step_kp s _, .inr ⟨?_, rfl⟩⟩
    dsimp only
    split
    · rename_i c
      exact .inr ⟨rfl, c⟩
    · rename_i c
      exact .inl ⟨rfl, by simpa using c⟩
theorem swp_spec (k : Int) : ∀ (L : List (List UInt8)) (s : S66) (kk : Nat), SI kk s → s.f3 = false → L.Nodup → (∀ f ∈ L, ∃ x, get s.f0 f = some x) →
    SI (kk + L.length) (swp k L s).2 ∧ Kp s (swp k L s).2 ∧ (∀ f, goesB k f = false → get (swp k L s).2.f0 f = get s.f0 f) ∧ (∀ f x, get (swp k L s).2.f0 f = some x → get s.f0 f = some x) ∧
      (used (swp k L s).2.f0 ≤ used s.f0 ∧ (swp k L s).2.f0.length ≤ s.f0.length) ∧
      (((swp k L s).1 = 0 ∧ (swp k L s).2.f3 = false ∧ ∀ f ∈ L, goesB k f = true → get (swp k L s).2.f0 f = none) ∨ ((swp k L s).1 = 9 ∧ (swp k L s).2.f3 = true))
  | [], s, kk, h, hon, hnd, hL => ⟨h, Kp.refl s, fun _ _ => rfl, fun _ _ q => q, ⟨Nat.le_refl _, Nat.le_refl _⟩, .inl ⟨rfl, hon, fun f hf => by cases hf⟩⟩
  | f :: L, s, kk, h, hon, hnd, hL => by
    obtain ⟨hf, hnd'⟩ := List.nodup_cons.1 hnd
    unfold swp
    by_cases c : goesB k f = true
    · rw [if_pos c]
      obtain ⟨x, hx⟩ := hL f List.mem_cons_self
      have h1 := h.del (n := f)
      obtain ⟨kp, hd⟩ := chg_spec h hon hx fun x => del s.f0 f
      have hud := used_del h.rise f
      have hld := len_del h.rise f
      rcases hd with ⟨e0, on1, l1⟩ | ⟨e9, off1, l1⟩
      · have e0' : (delS s f).1 = 0 := e0
        have l1' : (delS s f).2.f0 = del s.f0 f := l1
        rw [if_pos e0']
        have hL' : ∀ g ∈ L, ∃ x, get (delS s f).2.f0 g = some x := fun g hg => by
          obtain ⟨y, hy⟩ := hL g (List.mem_cons_of_mem _ hg)
          refine ⟨y, ?_⟩
          rw [l1', get_del h.rise, if_neg (fun e => hf (by rw [e]; exact hg))]
          exact hy
        obtain ⟨i1, i2, i3, i4, ⟨i5, i5'⟩, i6⟩ := swp_spec k L (delS s f).2 (kk + 1) h1 on1 hnd' hL'
        refine ⟨by rw [List.length_cons, show kk + (L.length + 1) = kk + 1 + L.length by omega]; exact i1, Kp.trans kp i2, fun g hg => ?_, fun g y hy => ?_, ⟨?_, ?_⟩, ?_⟩
        · rw [i3 g hg, l1', get_del h.rise, if_neg (fun e => by subst e; rw [c] at hg; cases hg)]
        · have := i4 g y hy
          rw [l1', get_del h.rise] at this
          split at this
          · cases this
          · exact this
        · rw [l1'] at i5; omega
        · rw [l1'] at i5'; omega
        · rcases i6 with ⟨a, b, d⟩ | q
          · refine .inl ⟨a, b, fun g hg cg => ?_⟩
            rcases List.mem_cons.1 hg with rfl | hg
            · cases hq : get (swp k L (delS s g).2).2.f0 g with
              | none => rfl
              | some y =>
                have := i4 g y hq
                rw [l1', get_del h.rise, if_pos rfl] at this
                cases this
            · exact d g hg cg
          · exact .inr q
      · have e9' : (delS s f).1 = 9 := e9
        have l1' : (delS s f).2.f0 = s.f0 := l1
        rw [if_neg (by rw [e9']; decide)]
        exact ⟨h1.mono (by rw [List.length_cons]; omega), kp, fun g _ => by rw [l1'], fun g y hy => by rw [l1'] at hy; exact hy, ⟨by rw [l1']; exact Nat.le_refl _, by rw [l1']; exact Nat.le_refl _⟩, .inr ⟨e9', off1⟩⟩
    · rw [if_neg c]
      obtain ⟨i1, i2, i3, i4, i5, i6⟩ := swp_spec k L s kk h hon hnd' fun g hg => hL g (List.mem_cons_of_mem _ hg)
      refine ⟨i1.mono (by rw [List.length_cons]; omega), i2, i3, i4, i5, ?_⟩
      rcases i6 with ⟨a, b, d⟩ | q
      · refine .inl ⟨a, b, fun g hg cg => ?_⟩
        rcases List.mem_cons.1 hg with rfl | hg
        · exact absurd cg c
        · exact d g hg cg
      · exact .inr q
theorem names_nodup : ∀ {l : List S72}, RiseF l → (l.map S72.f0).Nodup
  | [], _ => List.nodup_nil
  | x :: l, h => by
    obtain ⟨h1, h2⟩ := List.pairwise_cons.1 h
    refine List.nodup_cons.2 ⟨fun hm => ?_, names_nodup h2⟩
    obtain ⟨y, hy, e⟩ := List.mem_map.1 hm
    have := h1 y hy
    rw [e, bl_irr] at this
    cases this
theorem mem_get : ∀ {l : List S72}, RiseF l → ∀ {x : S72}, x ∈ l → get l x.f0 = some x
  | [], _, x, hx => by cases hx
  | y :: l, h, x, hx => by
    obtain ⟨h1, h2⟩ := List.pairwise_cons.1 h
    rcases List.mem_cons.1 hx with rfl | hx
    · simp [get]
    · have hne : (y.f0 == x.f0) = false := by
        rw [beq_eq_false_iff_ne]
        intro e
        have := h1 x hx
        rw [e, bl_irr] at this
        cases this
      have := mem_get h2 hx
      unfold get at this ⊢
      rw [List.find?_cons_of_neg (by simp [hne])]
      exact this
def Clean (k : Int) (l : List S72) : Prop := ∀ f x, get l f = some x → goesB k f = false
theorem sweep_spec {kk : Nat} {s : S66} (h : SI kk s) (hk : kk + 500 < 4611686018427387904) (hon : s.f3 = false) (k : Int) :
    ∃ e s', commit_sweep s k = some (e, s') ∧ SI (kk + 500) s' ∧ Kp s s' ∧ (∀ f, goesB k f = false → get s'.f0 f = get s.f0 f) ∧ (∀ f x, get s'.f0 f = some x → get s.f0 f = some x) ∧ (used s'.f0 ≤ used s.f0 ∧ s'.f0.length ≤ s.f0.length) ∧
      ((e = 0 ∧ s'.f3 = false ∧ Clean k s'.f0) ∨ (e = 9 ∧ s'.f3 = true)) := by
  obtain ⟨i1, i2, i3, i4, i5, i6⟩ := swp_spec k (s.f0.map S72.f0) s kk h hon (names_nodup h.rise) fun f hf => by
    obtain ⟨x, hx, rfl⟩ := List.mem_map.1 hf
    exact ⟨x, mem_get h.rise hx⟩
  refine ⟨_, _, sweep_eq h hk k, i1.mono (by have := h.len; rw [List.length_map]; omega), i2, i3, i4, i5, ?_⟩
  rcases i6 with ⟨a, b, d⟩ | q
  · refine .inl ⟨a, b, fun f x hx => ?_⟩
    cases c : goesB k f with
    | false => rfl
    | true =>
      have h1 := i4 f x hx
      have h2 := d f (List.mem_map.2 ⟨x, (get_mem h1).1, (get_mem h1).2⟩) c
      rw [h2] at hx
      cases hx
  · exact .inr q
def full (f : List UInt8) (p : List Int) : S72 := ⟨f, p, p.length⟩
def manB (n : Nat) : List Int := pageL 109 (uv n)
structure Cm (n : Nat) (st : List Int) (ls : List (List S63)) (l : List S72) : Prop where
  len : ls.length = n
  lt : n < 98
  okl : ∀ q ∈ ls, q.length ≤ 10 ∧ ∀ c ∈ q, OkC c
  st0 : n = 0 → st = []
  man0 : n = 0 → get l nMan = none
  man : 0 < n → get l nMan = some (full nMan (manB n))
  stt : 0 < n → get l (fnm nState n) = some (full (fnm nState n) st)
  outs : ∀ i q, ls[i]? = some q → get l (fnm nOut (i + 1)) = some (full (fnm nOut (i + 1)) (ledB q))
def Prot (n : Nat) (f : List UInt8) : Prop := f = nMan ∨ f = fnm nState n ∨ ∃ i, i < n ∧ f = fnm nOut (i + 1)
theorem Cm.of {n : Nat} {st : List Int} {ls : List (List S63)} {l l' : List S72} (h : Cm n st ls l) (hp : ∀ f, Prot n f → get l' f = get l f) : Cm n st ls l' :=
  ⟨h.len, h.lt, h.okl, h.st0, fun e => (hp _ (.inl rfl)).trans (h.man0 e), fun e => (hp _ (.inl rfl)).trans (h.man e), fun e => (hp _ (.inr (.inl rfl))).trans (h.stt e),
    fun i q hq => (hp _ (.inr (.inr ⟨i, by have := (List.getElem?_eq_some_iff.1 hq).1; have := h.len; omega, rfl⟩))).trans (h.outs i q hq)⟩
theorem prot_stays {n : Nat} (hn : n < 98) {f : List UInt8} (h : Prot n f) : goesB (n : Int) f = false := by
  rcases h with rfl | rfl | ⟨i, hi, rfl⟩
  · exact goes_man _
  · rw [goes_state _ (by omega)]; simp
  · rw [goes_out _ (by omega)]
    simp only [Bool.or_eq_false_iff, beq_eq_false_iff_ne, decide_eq_false_iff_not]
    omega
theorem manB_bs (n : Nat) : Bs (manB n) := pageL_bs (by decide) (Bs.uv n)
theorem manB_len {n : Nat} (h : n < 98) : (manB n).length = 10 := by unfold manB; rw [pageL_len, uv_small (by omega)]; rfl
def Fit (s : S66) (m c : Nat) : Prop := (used s.f0 : Int) + m ≤ s.f1 ∧ s.f0.length + c ≤ 500
theorem put_spec {kk : Nat} {s : S66} (h : SI kk s) (hk : kk + 500 < 4611686018427387904) (hon : s.f3 = false) {n : List UInt8} (hn : formN n = true) (hg : get s.f0 n = none) {p : List Int} (hp : Bs p) :
    ∃ e s', commit_put s n p = some (e, s') ∧ SI (kk + 2) s' ∧ Kp s s' ∧ (∀ f, f ≠ n → get s'.f0 f = get s.f0 f) ∧
      ((e = 0 ∧ s'.f3 = false ∧ get s'.f0 n = some (full n p)) ∨ (e = 9 ∧ s'.f3 = true) ∨ (e = 10 ∧ s' = s)) ∧
      (∀ m c, Fit s (p.length + m) (c + 1) → e ≠ 10 ∧ (e = 0 → Fit s' m c)) := by
  have h32 := form_32 hn
  obtain ⟨k1, o1⟩ := app_spec h hon hn p
  have h1 := h.app (n := n) (p := p) hp
  have hE : commit_put s n p = (if ((appS s n p).1 == 0) = true then some ((synS (appS s n p).2 n).1, (synS (appS s n p).2 n).2) else some ((appS s n p).1, (appS s n p).2)) := by
    unfold commit_put
    rw [h.Append (by omega) (by omega) p]
    simp only [Option.bind_some]
    split
    · rw [show files_Store_Sync (some (appS s n p).2) n = _ from h1.Sync (by omega) (by omega)]
      rfl
    · rfl
  rw [hg] at o1
  have hu := used_put h.rise ⟨n, [] ++ p, 0⟩
  have hl := len_put h.rise ⟨n, [] ++ p, 0⟩
  rw [hg] at hu hl
  simp only [Option.getD_none, List.nil_append, Option.isSome_none, List.length_nil, Nat.add_zero] at hu hl
  rcases o1 with ⟨e, es, hr⟩ | ⟨⟨e, on⟩ | ⟨e, off⟩, l1⟩
  · refine ⟨10, s, ?_, h.mono (by omega), Kp.refl s, fun _ _ => rfl, .inr (.inr ⟨rfl, rfl⟩), fun m c hf => ?_⟩
    · rw [hE, e, es]; rfl
    · exfalso
      obtain ⟨f1, f2⟩ := hf
      rcases hr with hr | hr <;> omega
  · simp only [Option.getD_none, List.nil_append] at l1 hu hl
    have hx : get (appS s n p).2.f0 n = some ⟨n, p, 0⟩ := by rw [l1, get_put h.rise, if_pos rfl]
    obtain ⟨k2, o2⟩ := chg_spec h1 on hx fun x => put (appS s n p).2.f0 ⟨x.f0, x.f1, x.f1.length⟩
    have h2 := h1.syn (n := n)
    have hu2 := used_put h1.rise ⟨n, p, p.length⟩
    have hl2 := len_put h1.rise ⟨n, p, p.length⟩
    rw [hx] at hu2 hl2
    simp only [Option.getD_some, Option.isSome_some, if_true] at hu2 hl2
    refine ⟨(synS (appS s n p).2 n).1, (synS (appS s n p).2 n).2, ?_, h2, Kp.trans k1 k2, fun f hf => ?_, ?_, fun m c hfit => ?_⟩
    · rw [hE, e]; rfl
    · rcases o2 with ⟨_, _, l2⟩ | ⟨_, _, l2⟩
      · rw [show (synS (appS s n p).2 n).2.f0 = _ from l2, get_put h1.rise, if_neg (fun q => hf q.symm), l1, get_put h.rise, if_neg (fun q => hf q.symm)]
      · rw [show (synS (appS s n p).2 n).2.f0 = _ from l2, l1, get_put h.rise, if_neg (fun q => hf q.symm)]
    · rcases o2 with ⟨a, b, l2⟩ | ⟨a, b, l2⟩
      · exact .inl ⟨a, b, by rw [show (synS (appS s n p).2 n).2.f0 = _ from l2, get_put h1.rise, if_pos rfl]; rfl⟩
      · exact .inr (.inl ⟨a, b⟩)
    · rcases o2 with ⟨a, b, l2⟩ | ⟨a, b, l2⟩
      · refine ⟨by rw [show (synS (appS s n p).2 n).1 = 0 from a]; decide, fun _ => ?_⟩
        obtain ⟨f1, f2⟩ := hfit
        have l2' : (synS (appS s n p).2 n).2.f0 = put (appS s n p).2.f0 ⟨n, p, p.length⟩ := l2
        have r2 := (Kp.trans k1 k2).1
        refine ⟨?_, ?_⟩
        · rw [show (synS (appS s n p).2 n).2.f1 = s.f1 from r2, l2']
          have hu3 : used (put (appS s n p).2.f0 ⟨n, p, p.length⟩) = used (appS s n p).2.f0 := by omega
          rw [hu3, l1]
          omega
        · rw [l2', hl2, l1, hl]
          simp only [if_neg (by simp : ¬ (false = true))]
          omega
      · refine ⟨by rw [show (synS (appS s n p).2 n).1 = 9 from a]; decide, fun q => ?_⟩
        rw [show (synS (appS s n p).2 n).1 = 9 from a] at q
        cases q
  · simp only [Option.getD_none, List.nil_append] at l1
    refine ⟨9, (appS s n p).2, ?_, h1.mono (by omega), k1, fun f hf => ?_, .inr (.inl ⟨rfl, off⟩), fun m c hfit => ⟨by decide, fun q => by cases q⟩⟩
    · rw [hE, e]; rfl
    · rw [l1, get_put h.rise, if_neg (fun q => hf q.symm)]
theorem last_none {kk : Nat} {s : S66} (h : SI kk s) (hon : s.f3 = false) (hg : get s.f0 nMan = none) : commit_last s = some (0, 0, s) := by
  unfold commit_last
  rw [h.Read (n := [109, 97, 110]) (by decide)]
  simp only [Option.bind_some]
  unfold readS
  rw [if_pos (show lookS s [109, 97, 110] = 0 from look_of form_man hon), show get s.f0 [109, 97, 110] = none from hg]
  rfl
theorem last_some {kk n : Nat} {s : S66} (h : SI kk s) (hon : s.f3 = false) (h0 : 0 < n) (hlt : n < 98) (hg : get s.f0 nMan = some (full nMan (manB n))) : commit_last s = some ((n : Int), 0, s) := by
  unfold commit_last
  rw [h.Read (n := [109, 97, 110]) (by decide)]
  simp only [Option.bind_some]
  unfold readS
  rw [if_pos (show lookS s [109, 97, 110] = 0 from look_of form_man hon), show get s.f0 [109, 97, 110] = _ from hg]
  dsimp only [full]
  rw [if_neg (by decide), if_pos (by decide)]
  have hs := uv_small (n := n) (by omega)
  rw [show page_One (manB n) 109 = some (uv n, 0) from One_eq (by decide) (Bs.uv n) (by rw [hs]; simp)]
  simp only [Option.bind_some]
  rw [if_neg (by decide)]
  have ht : Try_commit_last_1 (uv n) 0 = some (true, (n : Int)) := by
    have hr : commit_last_1 ⟨uv n⟩ 0 = some (.inl (⟨[]⟩, (n : Int))) := by
      unfold commit_last_1
      have := Uint_laid (m := n) (most := 500) (r := []) (by omega) (by omega) Bs.nil
      rw [List.append_nil] at this
      rw [this]
      rfl
    unfold Try_commit_last_1
    rw [hr]
    rfl
  rw [ht]
  simp only [Option.bind_some]
  rw [if_neg (by simp)]
  unfold commit_last_j1
  rw [if_neg (by simp; omega)]
theorem last_eq {kk n : Nat} {s : S66} {st : List Int} {ls : List (List S63)} (h : SI kk s) (hon : s.f3 = false) (hC : Cm n st ls s.f0) : commit_last s = some ((n : Int), 0, s) := by
  rcases Nat.eq_zero_or_pos n with h0 | h0
  · subst h0
    exact last_none h hon (hC.man0 rfl)
  · exact last_some h hon h0 hC.lt (hC.man h0)
section
variable {kk n : Nat} {s : S66} {st st' : List Int} {ls : List (List S63)} {q : List S63}
theorem write_spec (h : SI kk s) (hk : kk + 5000 < 4611686018427387904) (hon : s.f3 = false) (hC : Cm n st ls s.f0) (hcl : Clean (n : Int) s.f0) (hn : n < 97) (hst : Bs st') (hq : q.length ≤ 10) (hO : ∀ c ∈ q, OkC c) :
    ∃ e s', commit_write s ((n + 1 : Nat) : Int) st' q = some (e, s') ∧ SI (kk + 10) s' ∧ Kp s s' ∧
      (∀ f, f ≠ fnm nOut (n + 1) → f ≠ fnm nState (n + 1) → f ≠ nTmp → f ≠ nMan → get s'.f0 f = get s.f0 f) ∧
      ((e = 0 ∧ s'.f3 = false ∧ Cm (n + 1) st' (ls ++ [q]) s'.f0 ∧ get s'.f0 nTmp = none) ∨ (e = 9 ∧ s'.f3 = true ∧ Cm n st ls s'.f0) ∨ (e = 10 ∧ s'.f3 = false ∧ Cm n st ls s'.f0)) ∧
      (Fit s (1249 + st'.length + 10) 3 → e ≠ 10) := by
  have hlt := hC.lt
  have dOS : fnm nOut (n + 1) ≠ fnm nState (n + 1) := out_state (by omega) (by omega)
  have dOM : fnm nOut (n + 1) ≠ nMan := out_man (by omega)
  have dOT : fnm nOut (n + 1) ≠ nTmp := out_tmp (by omega)
  have dSM : fnm nState (n + 1) ≠ nMan := state_man (by omega)
  have dST : fnm nState (n + 1) ≠ nTmp := state_tmp (by omega)
  have dTM : nTmp ≠ nMan := by decide
  have none_of : ∀ f, goesB (n : Int) f = true → get s.f0 f = none := fun f hf => by
    cases hg : get s.f0 f with
    | none => rfl
    | some x => rw [hcl f x hg] at hf; cases hf
  have gO : get s.f0 (fnm nOut (n + 1)) = none := none_of _ (by rw [goes_out _ (by omega)]; simp; omega)
  have gS : get s.f0 (fnm nState (n + 1)) = none := none_of _ (by rw [goes_state _ (by omega)]; simp; omega)
  have gT : get s.f0 nTmp = none := none_of _ rfl
  -- names of the elder commit are others
  have pr : ∀ f, Prot n f → f ≠ fnm nOut (n + 1) ∧ f ≠ fnm nState (n + 1) ∧ f ≠ nTmp := by
    intro f hf
    rcases hf with rfl | rfl | ⟨i, hi, rfl⟩
    · exact ⟨dOM.symm, dSM.symm, dTM.symm⟩
    · exact ⟨(out_state (by omega) (by omega)).symm, fun e => by have := state_inj (by omega) (by omega) e; omega, state_tmp (by omega)⟩
    · exact ⟨fun e => by have := out_inj (by omega) (by omega) e; omega, out_state (by omega) (by omega), out_tmp (by omega)⟩
  unfold commit_write
  rw [show ([111, 117, 116] : List UInt8) = nOut from rfl, file_eq (w := nOut) (by decide) (show n + 1 < 100 by omega)]
  simp only [Option.bind_some]
  rw [ledger_Lay_eq (by omega) hO]
  simp only [Option.bind_some]
  have hll := ledB_len (l := q) (by omega) hO
  obtain ⟨e1, s1, w1, i1, k1, g1, o1, t1⟩ := put_spec h (by omega) hon (form_out (n + 1) (by omega)) gO (ledB_bs (l := q) (by omega) hO)
  rw [w1]
  simp only [Option.bind_some]
  have C1 : Cm n st ls s1.f0 := hC.of fun f hf => g1 f (pr f hf).1
  have fit1 : Fit s (1249 + st'.length + 10) 3 → e1 ≠ 10 ∧ (e1 = 0 → Fit s1 (st'.length + 10) 2) := fun hf => t1 (st'.length + 10) 2 ⟨by have := hf.1; omega, by have := hf.2; omega⟩
  by_cases c1 : e1 = 0
  rotate_left
  · rw [if_pos (by simpa using c1)]
    refine ⟨e1, s1, rfl, i1.mono (by omega), k1, fun f a b c d => g1 f a, ?_, fun hf => (fit1 hf).1⟩
    rcases o1 with ⟨a, _⟩ | ⟨a, b⟩ | ⟨a, b⟩
    · exact absurd a c1
    · exact .inr (.inl ⟨a, b, C1⟩)
    · exact .inr (.inr ⟨a, by rw [b]; exact hon, C1⟩)
  rw [if_neg (by simp [c1])]
  obtain ⟨on1, v1⟩ : s1.f3 = false ∧ get s1.f0 (fnm nOut (n + 1)) = some (full (fnm nOut (n + 1)) (ledB q)) := by
    rcases o1 with ⟨_, a, b⟩ | ⟨a, _⟩ | ⟨a, _⟩
    · exact ⟨a, b⟩
    · rw [c1] at a; cases a
    · rw [c1] at a; cases a
  rw [show ([115, 116, 97, 116, 101] : List UInt8) = nState from rfl, file_eq (w := nState) (by decide) (show n + 1 < 100 by omega)]
  simp only [Option.bind_some]
  obtain ⟨e2, s2, w2, i2, k2, g2, o2, t2⟩ := put_spec i1 (by omega) on1 (form_state (n + 1) (by omega)) ((g1 _ dOS.symm).trans gS) hst
  rw [w2]
  simp only [Option.bind_some]
  have C2 : Cm n st ls s2.f0 := C1.of fun f hf => g2 f (pr f hf).2.1
  have fit2 : Fit s (1249 + st'.length + 10) 3 → e2 ≠ 10 ∧ (e2 = 0 → Fit s2 10 1) := fun hf => t2 10 1 ((fit1 hf).2 c1)
  by_cases c2 : e2 = 0
  rotate_left
  · rw [if_pos (by simpa using c2)]
    refine ⟨e2, s2, rfl, i2.mono (by omega), Kp.trans k1 k2, fun f a b c d => (g2 f b).trans (g1 f a), ?_, fun hf => (fit2 hf).1⟩
    rcases o2 with ⟨a, _⟩ | ⟨a, b⟩ | ⟨a, b⟩
    · exact absurd a c2
    · exact .inr (.inl ⟨a, b, C2⟩)
    · exact .inr (.inr ⟨a, by rw [b]; exact on1, C2⟩)
  rw [if_neg (by simp [c2])]
  obtain ⟨on2, v2⟩ : s2.f3 = false ∧ get s2.f0 (fnm nState (n + 1)) = some (full (fnm nState (n + 1)) st') := by
    rcases o2 with ⟨_, a, b⟩ | ⟨a, _⟩ | ⟨a, _⟩
    · exact ⟨a, b⟩
    · rw [c2] at a; cases a
    · rw [c2] at a; cases a
  have hu := uv_small (n := n + 1) (by omega)
  rw [Uint_app (n + 1) [] (by omega) (by rw [hu]; simp)]
  simp only [Option.bind_some, List.nil_append]
  rw [page_Lay_eq (p := []) (kind := 109) (by decide) (Bs.uv (n + 1)) (by rw [hu]; simp) (by simp)]
  simp only [Option.bind_some, List.nil_append]
  rw [show pageL 109 (uv (n + 1)) = manB (n + 1) from rfl, show ([109, 97, 110, 46, 116, 109, 112] : List UInt8) = nTmp from rfl]
  have hml := manB_len (n := n + 1) (by omega)
  obtain ⟨e3, s3, w3, i3, k3, g3, o3, t3⟩ := put_spec i2 (by omega) on2 form_tmp ((g2 _ dST.symm).trans ((g1 _ dOT.symm).trans gT)) (manB_bs (n + 1))
  rw [w3]
  simp only [Option.bind_some]
  have C3 : Cm n st ls s3.f0 := C2.of fun f hf => g3 f (pr f hf).2.2
  have fit3 : Fit s (1249 + st'.length + 10) 3 → e3 ≠ 10 := fun hf => (t3 0 0 (by rw [hml]; exact (fit2 hf).2 c2)).1
  by_cases c3 : e3 = 0
  rotate_left
  · rw [if_pos (by simpa using c3)]
    refine ⟨e3, s3, rfl, i3.mono (by omega), Kp.trans (Kp.trans k1 k2) k3, fun f a b c d => (g3 f c).trans ((g2 f b).trans (g1 f a)), ?_, fun hf => fit3 hf⟩
    rcases o3 with ⟨a, _⟩ | ⟨a, b⟩ | ⟨a, b⟩
    · exact absurd a c3
    · exact .inr (.inl ⟨a, b, C3⟩)
    · exact .inr (.inr ⟨a, by rw [b]; exact on2, C3⟩)
  rw [if_neg (by simp [c3])]
  obtain ⟨on3, v3⟩ : s3.f3 = false ∧ get s3.f0 nTmp = some (full nTmp (manB (n + 1))) := by
    rcases o3 with ⟨_, a, b⟩ | ⟨a, _⟩ | ⟨a, _⟩
    · exact ⟨a, b⟩
    · rw [c3] at a; cases a
    · rw [c3] at a; cases a
  rw [show ([109, 97, 110] : List UInt8) = nMan from rfl, i3.Rename (by omega) (by decide) (by decide)]
  simp only [Option.bind_some]
  have hren : renS s3 nTmp nMan = chgS s3 nTmp fun x => put (del s3.f0 nTmp) ⟨nMan, x.f1, x.f2⟩ := by
    unfold renS
    rw [if_pos form_tmp, if_pos (look_of form_man on3)]
  obtain ⟨k4, o4⟩ := chg_spec i3 on3 v3 fun x => put (del s3.f0 nTmp) ⟨nMan, x.f1, x.f2⟩
  have i4 := i3.ren (a := nTmp) (b := nMan)
  rw [← hren] at k4 o4
  refine ⟨_, _, rfl, i4.mono (by omega), Kp.trans (Kp.trans (Kp.trans k1 k2) k3) k4, fun f a b c d => ?_, ?_, fun hf => ?_⟩
  · rcases o4 with ⟨_, _, l4⟩ | ⟨_, _, l4⟩
    · rw [l4, get_put (del_rise i3.rise _), if_neg (fun e => d e.symm), get_del i3.rise, if_neg (fun e => c e.symm)]
      exact (g3 f c).trans ((g2 f b).trans (g1 f a))
    · rw [l4]
      exact (g3 f c).trans ((g2 f b).trans (g1 f a))
  · rcases o4 with ⟨a, b, l4⟩ | ⟨a, b, l4⟩
    · refine .inl ⟨a, b, ?_, ?_⟩
      · have gg : ∀ f, f ≠ nTmp → f ≠ nMan → get (renS s3 nTmp nMan).2.f0 f = get s3.f0 f := fun f c d => by
          rw [l4, get_put (del_rise i3.rise _), if_neg (fun e => d e.symm), get_del i3.rise, if_neg (fun e => c e.symm)]
        refine ⟨by rw [List.length_append, hC.len]; rfl, by omega, fun x hx => ?_, fun e => by omega, fun e => by omega, fun _ => ?_, fun _ => ?_, fun i x hx => ?_⟩
        · rcases List.mem_append.1 hx with hx | hx
          · exact hC.okl x hx
          · obtain rfl := List.mem_singleton.1 hx
            exact ⟨hq, hO⟩
        · rw [l4, get_put (del_rise i3.rise _), if_pos rfl]
          rfl
        · rw [gg _ dST dSM, g3 _ dST, v2]
        · have hil := (List.getElem?_eq_some_iff.1 hx).1
          rw [List.length_append, List.length_singleton, hC.len] at hil
          rw [gg _ (out_tmp (by omega)) (out_man (by omega)), g3 _ (out_tmp (by omega)), g2 _ (out_state (by omega) (by omega))]
          by_cases hi : i < n
          · rw [List.getElem?_append_left (by rw [hC.len]; exact hi)] at hx
            rw [g1 _ (fun e => by have := out_inj (by omega) (by omega) e; omega)]
            exact hC.outs i x hx
          · have hi' : i = n := by omega
            subst hi'
            rw [List.getElem?_append_right (by rw [hC.len]; exact Nat.le_refl _), hC.len, Nat.sub_self] at hx
            cases hx
            exact v1
      · rw [l4, get_put (del_rise i3.rise _), if_neg dTM.symm, get_del i3.rise, if_pos rfl]
    · exact .inr (.inl ⟨a, b, by rw [l4]; exact C3⟩)
  · rcases o4 with ⟨a, _⟩ | ⟨a, _⟩ <;> rw [a] <;> decide
theorem Put_spec (h : SI kk s) (hk : kk + 10000 < 4611686018427387904) (hon : s.f3 = false) (hC : Cm n st ls s.f0) (hn : n < 97) (hst : Bs st') (hq : q.length ≤ 10) (hO : ∀ c ∈ q, OkC c) :
    ∃ e s', commit_Put (some s) ((n + 1 : Nat) : Int) st' q = some (e, some s') ∧ SI (kk + 2000) s' ∧ Kp s s' ∧
      (∀ f x, get s'.f0 f = some x → get s.f0 f = some x ∨ f = fnm nOut (n + 1) ∨ f = fnm nState (n + 1) ∨ f = nTmp ∨ f = nMan) ∧ get s'.f0 nOther = get s.f0 nOther ∧
      ((e = 0 ∧ s'.f3 = false ∧ Cm (n + 1) st' (ls ++ [q]) s'.f0 ∧ Clean ((n + 1 : Nat) : Int) s'.f0) ∨ (e = 9 ∧ s'.f3 = true ∧ (Cm n st ls s'.f0 ∨ Cm (n + 1) st' (ls ++ [q]) s'.f0)) ∨ (e = 10 ∧ Cm n st ls s'.f0)) ∧
      (Fit s (1249 + st'.length + 10) 3 → e ≠ 10) := by
  have hlt := hC.lt
  have oth : ∀ f, f = nOther → f ≠ fnm nOut (n + 1) ∧ f ≠ fnm nState (n + 1) ∧ f ≠ nTmp ∧ f ≠ nMan := fun f hf => by
    subst hf
    exact ⟨(out_other (by omega)).symm, (state_other (by omega)).symm, by decide, by decide⟩
  unfold commit_Put
  dsimp only
  rw [if_neg (by simp; omega)]
  unfold commit_Put_j1
  rw [if_neg (by simp; omega), last_eq h hon hC]
  simp only [Option.bind_some]
  rw [if_pos (by simp), lt_, u64w (by omega) (by omega)]
  unfold commit_Put_j6
  rw [if_neg (by simp)]
  unfold commit_Put_j2
  rw [if_pos (by simp)]
  obtain ⟨e0, s0, w0, i0, k0, g0, m0, ⟨u0, u0'⟩, o0⟩ := sweep_spec h (by omega) hon (n : Int)
  dsimp only
  rw [w0]
  simp only [Option.bind_some]
  have C0 : Cm n st ls s0.f0 := hC.of fun f hf => g0 f (prot_stays (by omega) hf)
  unfold commit_Put_j3
  rcases o0 with ⟨rfl, on0, cl0⟩ | ⟨rfl, off0⟩
  · rw [if_pos (by simp), show (⟨s0.f0, s0.f1, s0.f2, s0.f3, s0.f4⟩ : S66) = s0 from rfl]
    obtain ⟨e, s1, w1, i1, k1, g1, o1, t1⟩ := write_spec i0 (by omega) on0 C0 cl0 hn hst hq hO
    rw [w1]
    simp only [Option.bind_some]
    unfold commit_Put_j4
    have fit0 : Fit s (1249 + st'.length + 10) 3 → e ≠ 10 := fun hf => t1 ⟨by have := hf.1; rw [k0.1]; omega, by have := hf.2; omega⟩
    have ot1 : get s1.f0 nOther = get s.f0 nOther := by
      obtain ⟨a, b, c, d⟩ := oth _ rfl
      rw [g1 _ a b c d, g0 _ (goes_other _)]
    have dom1 : ∀ f x, get s1.f0 f = some x → get s.f0 f = some x ∨ f = fnm nOut (n + 1) ∨ f = fnm nState (n + 1) ∨ f = nTmp ∨ f = nMan := fun f x hx => by
      by_cases a : f = fnm nOut (n + 1)
      · exact .inr (.inl a)
      by_cases b : f = fnm nState (n + 1)
      · exact .inr (.inr (.inl b))
      by_cases c : f = nTmp
      · exact .inr (.inr (.inr (.inl c)))
      by_cases d : f = nMan
      · exact .inr (.inr (.inr (.inr d)))
      rw [g1 f a b c d] at hx
      exact .inl (m0 f x hx)
    rcases o1 with ⟨rfl, on1, C1, _⟩ | ⟨rfl, off1, C1⟩ | ⟨rfl, on1, C1⟩
    · rw [if_neg (by simp)]
      unfold commit_Put_j5
      rw [if_neg (by simp), if_pos (by simp), show (⟨s1.f0, s1.f1, s1.f2, s1.f3, s1.f4⟩ : S66) = s1 from rfl]
      obtain ⟨e2, s2, w2, i2, k2, g2, m2, _, o2⟩ := sweep_spec i1 (by omega) on1 ((n + 1 : Nat) : Int)
      rw [w2]
      have C2 : Cm (n + 1) st' (ls ++ [q]) s2.f0 := C1.of fun f hf => g2 f (prot_stays (by omega) hf)
      refine ⟨e2, s2, rfl, i2.mono (by omega), Kp.trans (Kp.trans k0 k1) k2, fun f x hx => dom1 f x (m2 f x hx), (g2 _ (goes_other _)).trans ot1, ?_, fun _ => ?_⟩
      · rcases o2 with ⟨rfl, on2, cl2⟩ | ⟨rfl, off2⟩
        · exact .inl ⟨rfl, on2, C2, cl2⟩
        · exact .inr (.inl ⟨rfl, off2, .inr C2⟩)
      · rcases o2 with ⟨rfl, _⟩ | ⟨rfl, _⟩ <;> decide
    · rw [if_pos (by simp)]
      unfold commit_Put_j5
      rw [if_neg (by simp), if_neg (by simp)]
      exact ⟨9, s1, rfl, i1.mono (by omega), Kp.trans k0 k1, dom1, ot1, .inr (.inl ⟨rfl, off1, .inl C1⟩), fun _ => by decide⟩
    · rw [if_pos (by simp)]
      unfold commit_Put_j5
      rw [if_pos (by simp), show (⟨s1.f0, s1.f1, s1.f2, s1.f3, s1.f4⟩ : S66) = s1 from rfl]
      obtain ⟨e2, s2, w2, i2, k2, g2, m2, _, o2⟩ := sweep_spec i1 (by omega) on1 (n : Int)
      dsimp only
      rw [w2]
      exact ⟨10, s2, rfl, i2.mono (by omega), Kp.trans (Kp.trans k0 k1) k2, fun f x hx => dom1 f x (m2 f x hx), (g2 _ (goes_other _)).trans ot1, .inr (.inr ⟨rfl, C1.of fun f hf => g2 f (prot_stays (by omega) hf)⟩), fit0⟩
  · rw [if_neg (by simp)]
    unfold commit_Put_j4
    rw [if_pos (by simp)]
    unfold commit_Put_j5
    rw [if_neg (by simp), if_neg (by simp)]
    exact ⟨9, s0, rfl, i0.mono (by omega), k0, fun f x hx => .inl (m0 f x hx), g0 _ (goes_other _), .inr (.inl ⟨rfl, off0, .inl C0⟩), fun _ => by decide⟩
theorem rec_loop (h : SI kk s) (hon : s.f3 = false) (hC : Cm n st ls s.f0) : ∀ (m i : Nat) (acc : List S63), i + m = n → acc.length ≤ 10 * i →
    loop (fun t : List S63 × Int => commit_Recover_l1 ((n : Int), 0, s) s.f0 s.f1 s.f2 s.f3 s.f4 t.1 t.2) (acc, ((i + 1 : Nat) : Int)) = some (.inl (acc ++ ((ls.drop i).flatten).map backC))
  | 0, i, acc, hi, hl => by
    have := hC.len
    have := hC.lt
    rw [List.drop_of_length_le (by omega)]
    refine loop_end ?_
    show commit_Recover_l1 _ _ _ _ _ _ _ _ = _
    unfold commit_Recover_l1
    rw [if_neg (by simp only [decide_eq_true_eq]; omega)]
    simp
  | m + 1, i, acc, hi, hl => by
    have hlen := hC.len
    have hlt := hC.lt
    have hx := List.getElem?_eq_getElem (l := ls) (i := i) (by omega)
    obtain ⟨hq, hO⟩ := hC.okl _ (List.getElem_mem (by omega : i < ls.length))
    have hg := hC.outs i _ hx
    rw [List.drop_eq_getElem_cons (by omega), List.flatten_cons, List.map_append]
    generalize ls[i] = q at hx hq hO hg
    have hst : commit_Recover_l1 ((n : Int), 0, s) s.f0 s.f1 s.f2 s.f3 s.f4 acc ((i + 1 : Nat) : Int) = some (.inl (acc ++ q.map backC, ((i + 1 + 1 : Nat) : Int))) := by
      unfold commit_Recover_l1
      rw [if_pos (by simp only [decide_eq_true_eq]; omega), show ([111, 117, 116] : List UInt8) = nOut from rfl, file_eq (w := nOut) (by decide) (show i + 1 < 100 by omega)]
      simp only [Option.bind_some]
      have hfl := form_32 (form_out (i + 1) (by omega))
      rw [show (⟨s.f0, s.f1, s.f2, s.f3, s.f4⟩ : S66) = s from rfl, h.Read (by omega)]
      simp only [Option.bind_some]
      have hrd : readS s (fnm nOut (i + 1)) = (ledB q, 0) := by
        unfold readS
        rw [if_pos (look_of (form_out (i + 1) (by omega)) hon), hg]
        rfl
      rw [hrd, if_neg (by simp), ledger_Read_eq (by omega) hO]
      simp only [Option.bind_some]
      rw [if_neg (by simp), chk_pos (by rw [List.length_map]; omega), lt_, u64w (by omega) (by omega)]
      rfl
    rw [loop_nxt (b := fun t : List S63 × Int => commit_Recover_l1 ((n : Int), 0, s) s.f0 s.f1 s.f2 s.f3 s.f4 t.1 t.2) hst, rec_loop h hon hC m (i + 1) (acc ++ q.map backC) (by omega) (by rw [List.length_append, List.length_map]; omega), List.append_assoc]
theorem Recover_spec (h : SI kk s) (hk : kk + 5000 < 4611686018427387904) (hon : s.f3 = false) (hC : Cm n st ls s.f0) :
    ∃ s', SI (kk + 500) s' ∧ Kp s s' ∧ Cm n st ls s'.f0 ∧ (∀ f, goesB (n : Int) f = false → get s'.f0 f = get s.f0 f) ∧ (∀ f x, get s'.f0 f = some x → get s.f0 f = some x) ∧ (used s'.f0 ≤ used s.f0 ∧ s'.f0.length ≤ s.f0.length) ∧
      ((commit_Recover (some s) = some ((n : Int), st, ls.flatten.map backC, 0, some s') ∧ s'.f3 = false ∧ Clean (n : Int) s'.f0) ∨ (commit_Recover (some s) = some (0, [], [], 9, some s') ∧ s'.f3 = true)) := by
  have hlt := hC.lt
  obtain ⟨e0, s0, w0, i0, k0, g0, m0, u0, o0⟩ := sweep_spec h (by omega) hon (n : Int)
  have C0 : Cm n st ls s0.f0 := hC.of fun f hf => g0 f (prot_stays (by omega) hf)
  refine ⟨s0, i0, k0, C0, g0, m0, u0, ?_⟩
  unfold commit_Recover
  dsimp only
  rw [last_eq h hon hC]
  simp only [Option.bind_some]
  rw [if_pos (by simp), w0]
  simp only [Option.bind_some]
  unfold commit_Recover_j1
  rcases o0 with ⟨rfl, on0, cl0⟩ | ⟨rfl, off0⟩
  · refine .inl ⟨?_, on0, cl0⟩
    rw [if_neg (by simp)]
    unfold commit_Recover_j2
    rcases Nat.eq_zero_or_pos n with h0 | h0
    · subst h0
      have := hC.st0 rfl
      have hl := hC.len
      rw [if_pos (by simp), this, List.eq_nil_of_length_eq_zero hl]
      rfl
    · rw [if_neg (by simp; omega), show ([115, 116, 97, 116, 101] : List UInt8) = nState from rfl, file_eq (w := nState) (by decide) (show n < 100 by omega)]
      simp only [Option.bind_some]
      have hfl := form_32 (form_state n (by omega))
      rw [show (⟨s0.f0, s0.f1, s0.f2, s0.f3, s0.f4⟩ : S66) = s0 from rfl, i0.Read (by omega)]
      simp only [Option.bind_some]
      have hrd : readS s0 (fnm nState n) = (st, 0) := by
        unfold readS
        rw [if_pos (look_of (form_state n (by omega)) on0), C0.stt h0]
        rfl
      rw [hrd, if_neg (by simp)]
      have hl := rec_loop i0 on0 C0 n 0 [] (by omega) (by simp)
      rw [List.drop_zero, List.nil_append] at hl
      have hl2 : loop (fun t : List S63 × Int => commit_Recover_l1 ((n : Int), 0, s) s0.f0 s0.f1 s0.f2 s0.f3 s0.f4 t.1 t.2) ([], 1) = some (.inl (ls.flatten.map backC)) := hl
      rw [hl2]
      rfl
  · refine .inr ⟨?_, off0⟩
    rw [if_pos (by simp)]
    unfold commit_Recover_j2
    rw [if_pos rfl]
end
def okT (c : S63) : Bool := decide (c.f1 ≤ 1099511627776) && (decide ((c.f2.f0.length : Int) ≤ 32) && decide (c.f2.f2.f0 ≤ 1099511627776))
def fineL (l : List S63) : List S63 := (l.take 10).filter okT
theorem fine18_step {l : List S63} {k : Nat} (hk : k < l.length) (h10 : k < 10) : law18_fine_l1 l ((l.take k).filter okT) (k : Int) = some (.inl ((l.take (k + 1)).filter okT, ((k + 1 : Nat) : Int))) := by
  have hx := List.getElem?_eq_getElem hk
  have hfl : ((l.take k).filter okT).length ≤ 10 := Nat.le_trans (List.length_filter_le _ _) (by rw [List.length_take]; omega)
  have e : (l.take (k + 1)).filter okT = (l.take k).filter okT ++ (if okT l[k] = true then [l[k]] else []) := by
    rw [List.take_add_one, hx, List.filter_append]
    congr 1
    cases c : okT l[k] <;> simp [c]
  rw [e]
  generalize (l.take k).filter okT = acc at hfl
  have hb2 : ∀ a : List S63, law18_fine_b2 (k : Int) a = some (.inl (a, ((k + 1 : Nat) : Int))) := fun a => by
    unfold law18_fine_b2
    rw [lt_, w64 (by omega) (by omega)]
    rfl
  have hj2 : ∀ b : Bool, law18_fine_j2 l acc (k : Int) b = some (.inl (acc ++ (if b = true then [l[k]] else []), ((k + 1 : Nat) : Int))) := fun b => by
    unfold law18_fine_j2
    cases b with
    | true => rw [if_pos rfl, if_pos rfl, at_int rfl hx]; simp only [Option.bind_some]; rw [chk_pos (by simp only [List.length_singleton]; omega), hb2]
    | false => rw [if_neg (by simp), if_neg (by simp), hb2, List.append_nil]
  unfold law18_fine_l1
  rw [if_pos (by simp only [decide_eq_true_eq]; omega)]
  unfold law18_fine_j1
  rw [if_pos (by simp only [decide_eq_true_eq]; omega), at_int rfl hx]
  simp only [Option.bind_some, hj2]
  unfold okT
  cases decide (l[k].f1 ≤ 1099511627776) <;> cases decide ((l[k].f2.f0.length : Int) ≤ 32) <;> rfl
theorem fine18_eq (l : List S63) : law18_fine l = some (fineL l) := by
  unfold law18_fine
  have h := loop_to (b := fun s : List S63 × Int => law18_fine_l1 l s.1 s.2) (fun k => ((l.take k).filter okT, (k : Int))) (t := fineL l) (min l.length 10) (fun k hk => fine18_step (by omega) (by omega)) (by
    show law18_fine_l1 l _ _ = _
    unfold law18_fine_l1 fineL
    by_cases c : l.length ≤ 10
    · rw [if_neg (by simp only [decide_eq_true_eq]; omega), Nat.min_eq_left c, List.take_length, List.take_of_length_le c]
      unfold law18_fine_j1
      rw [if_neg (by simp)]
    · rw [if_pos (by simp only [decide_eq_true_eq]; omega)]
      unfold law18_fine_j1
      rw [if_neg (by simp only [decide_eq_true_eq]; omega), Nat.min_eq_right (by omega)])
  rw [List.take_zero, List.filter_nil] at h
  rw [show (0 : Int) = ((0 : Nat) : Int) from rfl, h]
  rfl
theorem fineL_len (l : List S63) : (fineL l).length ≤ 10 := Nat.le_trans (List.length_filter_le _ _) (by rw [List.length_take]; omega)
theorem u64_of {x : Int} (h : gI .u64 x) : 0 ≤ x ∧ x < 18446744073709551616 := by
  unfold gI Lit.wf at h
  simp only [Bool.and_eq_true, decide_eq_true_eq] at h
  exact ⟨h.1, Int.lt_of_le_of_lt h.2 (by decide)⟩
theorem f64_of {x : Nat} (h : gF x) : x < 18446744073709551616 := by
  unfold gF Lit.wf at h
  simpa using h
theorem fineL_ok {l : List S63} (h : ∀ c ∈ l, g63 c) : ∀ c ∈ fineL l, OkC c := fun c hc => by
  obtain ⟨hc1, hc2⟩ := List.mem_filter.1 hc
  obtain ⟨_, q1, q2, ⟨q3, q4⟩, q5, q6, _, q7, q8⟩ := h c (List.mem_of_mem_take hc1)
  unfold okT at hc2
  simp only [Bool.and_eq_true, decide_eq_true_eq] at hc2
  obtain ⟨a, b, d⟩ := hc2
  exact ⟨⟨(u64_of q1).1, a⟩, by omega, ⟨gI64 q3, gI64 q4⟩, ⟨(u64_of q5).1, d⟩, f64_of q6, f64_of q7, f64_of q8⟩
def Univ (f : List UInt8) : Prop := f = nOther ∨ f = nMan ∨ f = nTmp ∨ (∃ i, 1 ≤ i ∧ i < 100 ∧ f = fnm nOut i) ∨ ∃ i, 1 ≤ i ∧ i < 100 ∧ f = fnm nState i
def outsL : Nat → List (List S63) → List S72
  | _, [] => []
  | i, q :: ls => full (fnm nOut (i + 1)) (ledB q) :: outsL (i + 1) ls
def filesL (o : Bool) (n : Nat) (st : List Int) (ls : List (List S63)) : List S72 :=
  (if o = true then [⟨nOther, [120], 0⟩] else []) ++ ((if n = 0 then [] else [full nMan (manB n), full (fnm nState n) st]) ++ outsL 0 ls)
structure Ex (o : Bool) (n : Nat) (st : List Int) (ls : List (List S63)) (l : List S72) : Prop where
  cm : Cm n st ls l
  cl : Clean (n : Int) l
  dom : ∀ f x, get l f = some x → Univ f
  oth : get l nOther = if o = true then some ⟨nOther, [120], 0⟩ else none
theorem outs_mem : ∀ (ls : List (List S63)) (i : Nat) (x : S72), x ∈ outsL i ls ↔ ∃ j q, ls[j]? = some q ∧ x = full (fnm nOut (i + j + 1)) (ledB q)
  | [], i, x => by simp [outsL]
  | q :: ls, i, x => by
    rw [outsL, List.mem_cons, outs_mem ls (i + 1) x]
    constructor
    · rintro (rfl | ⟨j, r, hr, rfl⟩)
      · exact ⟨0, q, rfl, rfl⟩
      · exact ⟨j + 1, r, hr, by rw [show i + 1 + j + 1 = i + (j + 1) + 1 by omega]⟩
    · rintro ⟨j, r, hr, rfl⟩
      cases j with
      | zero => cases hr; exact .inl rfl
      | succ j => exact .inr ⟨j, r, hr, by rw [show i + 1 + j + 1 = i + (j + 1) + 1 by omega]⟩
theorem outs_nodup : ∀ (ls : List (List S63)) (i : Nat), i + ls.length < 99 → ((outsL i ls).map S72.f0).Nodup
  | [], i, h => List.nodup_nil
  | q :: ls, i, h => by
    rw [List.length_cons] at h
    refine List.nodup_cons.2 ⟨fun hm => ?_, outs_nodup ls (i + 1) (by omega)⟩
    obtain ⟨x, hx, e⟩ := List.mem_map.1 hm
    obtain ⟨j, r, hr, rfl⟩ := (outs_mem ls (i + 1) x).1 hx
    have hj := (List.getElem?_eq_some_iff.1 hr).1
    have := out_inj (m := i + 1 + j + 1) (n := i + 1) (by omega) (by omega) e
    omega
theorem nodup_of_map {α β : Type} (f : α → β) : ∀ {l : List α}, (l.map f).Nodup → l.Nodup
  | [], _ => List.nodup_nil
  | x :: l, h => by
    obtain ⟨h1, h2⟩ := List.nodup_cons.1 h
    exact List.nodup_cons.2 ⟨fun hm => h1 (List.mem_map.2 ⟨x, hm, rfl⟩), nodup_of_map f h2⟩
theorem files_nodup (o : Bool) {n : Nat} (st : List Int) {ls : List (List S63)} (hn : n < 98) (hl : ls.length = n) : (filesL o n st ls).Nodup := by
  refine nodup_of_map S72.f0 ?_
  have h1 := outs_nodup ls 0 (by omega)
  have ho : ∀ f ∈ (outsL 0 ls).map S72.f0, ∃ i, i < 99 ∧ f = fnm nOut i := fun f hf => by
    obtain ⟨x, hx, rfl⟩ := List.mem_map.1 hf
    obtain ⟨j, r, hr, rfl⟩ := (outs_mem ls 0 x).1 hx
    have hj := (List.getElem?_eq_some_iff.1 hr).1
    exact ⟨0 + j + 1, by omega, rfl⟩
  unfold filesL
  rw [List.map_append, List.map_append]
  have h2 : ((if n = 0 then [] else [full nMan (manB n), full (fnm nState n) st]).map S72.f0 ++ (outsL 0 ls).map S72.f0).Nodup := by
    split
    · exact h1
    · refine List.nodup_cons.2 ⟨fun hm => ?_, List.nodup_cons.2 ⟨fun hm => ?_, h1⟩⟩
      · rcases List.mem_cons.1 hm with e | hm
        · exact state_man (by omega) e.symm
        · obtain ⟨i, hi, e⟩ := ho _ hm
          exact out_man (by omega) e.symm
      · obtain ⟨i, hi, e⟩ := ho _ hm
        exact out_state (m := i) (n := n) (by omega) (by omega) e.symm
  cases o with
  | false => exact h2
  | true =>
    refine List.nodup_cons.2 ⟨fun hm => ?_, h2⟩
    replace hm : nOther ∈ (if n = 0 then [] else [full nMan (manB n), full (fnm nState n) st]).map S72.f0 ++ (outsL 0 ls).map S72.f0 := hm
    rcases List.mem_append.1 hm with hm | hm
    · split at hm
      · cases hm
      · rcases List.mem_cons.1 hm with e | hm
        · exact absurd (show nOther = nMan from e) (by decide)
        · exact state_other (by omega) (List.mem_singleton.1 hm).symm
    · obtain ⟨i, hi, e⟩ := ho _ hm
      exact out_other (by omega) e.symm
section
variable {o : Bool} {n : Nat} {st : List Int} {ls : List (List S63)} {l : List S72}
theorem Ex.mem (h : Ex o n st ls l) (hr : RiseF l) (x : S72) : x ∈ l ↔ x ∈ filesL o n st ls := by
  have hlt := h.cm.lt
  have hlen := h.cm.len
  constructor
  · intro hx
    have hg := mem_get hr hx
    have hcl := h.cl _ _ hg
    unfold filesL
    rw [List.mem_append, List.mem_append]
    rcases h.dom _ _ hg with e | e | e | ⟨i, h1, h2, e⟩ | ⟨i, h1, h2, e⟩
    · rw [e, h.oth] at hg
      cases o with
      | false => cases hg
      | true => cases hg; exact .inl (List.mem_cons_self)
    · rcases Nat.eq_zero_or_pos n with h0 | h0
      · rw [e, h.cm.man0 h0] at hg; cases hg
      · rw [e, h.cm.man h0] at hg
        cases hg
        exact .inr (.inl (by rw [if_neg (by omega)]; exact List.mem_cons_self))
    · rw [e] at hcl; cases hcl
    · rw [e, goes_out _ h2] at hcl
      simp only [Bool.or_eq_false_iff, beq_eq_false_iff_ne, decide_eq_false_iff_not] at hcl
      have hq := List.getElem?_eq_getElem (l := ls) (i := i - 1) (by omega)
      have ho := h.cm.outs (i - 1) _ hq
      rw [show i - 1 + 1 = i by omega] at ho
      rw [e, ho] at hg
      cases hg
      refine .inr (.inr ((outs_mem ls 0 _).2 ⟨i - 1, _, hq, ?_⟩))
      rw [show 0 + (i - 1) + 1 = i by omega]
    · rw [e, goes_state _ h2] at hcl
      have hi0 : (i : Int) = n := by simpa using hcl
      have hi : i = n := by omega
      subst hi
      rw [e, h.cm.stt (by omega)] at hg
      cases hg
      exact .inr (.inl (by rw [if_neg (by omega)]; exact List.mem_cons_of_mem _ List.mem_cons_self))
  · intro hx
    unfold filesL at hx
    rw [List.mem_append, List.mem_append] at hx
    rcases hx with hx | hx | hx
    · cases o with
      | false => cases hx
      | true =>
        obtain rfl := List.mem_singleton.1 hx
        exact (get_mem h.oth).1
    · split at hx
      · cases hx
      · rcases List.mem_cons.1 hx with rfl | hx
        · exact (get_mem (h.cm.man (by omega))).1
        · obtain rfl := List.mem_singleton.1 hx
          exact (get_mem (h.cm.stt (by omega))).1
    · obtain ⟨j, q, hq, rfl⟩ := (outs_mem ls 0 x).1 hx
      have := h.cm.outs j q hq
      rw [show 0 + j + 1 = j + 1 by omega]
      exact (get_mem this).1
theorem Ex.perm (h : Ex o n st ls l) (hr : RiseF l) : l.Perm (filesL o n st ls) :=
  (List.perm_ext_iff_of_nodup (nodup_of_map S72.f0 (names_nodup hr)) (files_nodup o st h.cm.lt h.cm.len)).2 fun x => h.mem hr x
theorem outs_used : ∀ (ls : List (List S63)) (i : Nat), (∀ q ∈ ls, q.length ≤ 10 ∧ ∀ c ∈ q, OkC c) → used (outsL i ls) ≤ 1249 * ls.length ∧ (outsL i ls).length = ls.length
  | [], i, h => ⟨Nat.le_refl _, rfl⟩
  | q :: ls, i, h => by
    obtain ⟨h1, h2⟩ := h q List.mem_cons_self
    have := ledB_len (l := q) (by omega) h2
    obtain ⟨i1, i2⟩ := outs_used ls (i + 1) fun r hr => h r (List.mem_cons_of_mem _ hr)
    rw [outsL, used_cons, List.length_cons, List.length_cons]
    refine ⟨?_, by omega⟩
    show (ledB q).length + used (outsL (i + 1) ls) ≤ 1249 * (ls.length + 1)
    omega
theorem Ex.used (h : Ex o n st ls l) (hr : RiseF l) : used l ≤ 11 + st.length + 1249 * n ∧ l.length ≤ 3 + n := by
  have hp := h.perm hr
  have hu : P.used l = P.used (filesL o n st ls) := by
    show (l.map fun x => x.f1.length).sum = ((filesL o n st ls).map fun x => x.f1.length).sum
    exact (hp.map _).sum_nat
  have hl := hp.length_eq
  obtain ⟨a, b⟩ := outs_used ls 0 h.cm.okl
  have hlen := h.cm.len
  have hlt := h.cm.lt
  have hml := manB_len (n := n) (by omega)
  rw [hu, hl]
  unfold filesL
  rw [used_append, used_append, List.length_append, List.length_append]
  have e1 : P.used (if o = true then [(⟨nOther, [120], 0⟩ : S72)] else []) ≤ 1 ∧ (if o = true then [(⟨nOther, [120], 0⟩ : S72)] else []).length ≤ 1 := by cases o <;> decide
  have e2 : P.used (if n = 0 then [] else [full nMan (manB n), full (fnm nState n) st]) ≤ 10 + st.length ∧ (if n = 0 then [] else [full nMan (manB n), full (fnm nState n) st]).length ≤ 2 := by
    split
    · exact ⟨Nat.zero_le _, Nat.zero_le _⟩
    · refine ⟨?_, Nat.le_refl _⟩
      show (manB n).length + (st.length + 0) ≤ _
      omega
  omega
theorem Ex.length (h : Ex o n st ls l) (hr : RiseF l) : l.length = (if o = true then 1 else 0) + (if n = 0 then 0 else 2 + n) := by
  have hl := (h.perm hr).length_eq
  obtain ⟨a, b⟩ := outs_used ls 0 h.cm.okl
  have hlen := h.cm.len
  rw [hl]
  unfold filesL
  rw [List.length_append, List.length_append, b, hlen]
  by_cases h0 : n = 0
  · rw [if_pos h0, if_pos h0]
    cases o <;> simp [h0]
  · rw [if_neg h0, if_neg h0]
    cases o <;> simp <;> omega
theorem Ex.same {l' : List S72} (h : Ex o n st ls l) (h' : Ex o n st ls l') (hr : RiseF l) (hr' : RiseF l') : l = l' := by
  refine get_ext hr hr' fun f => ?_
  have key : ∀ {a b : List S72}, Ex o n st ls a → Ex o n st ls b → RiseF a → RiseF b → ∀ x, get a f = some x → get b f = some x := fun ha hb ra rb x hx => by
    obtain ⟨m, rfl⟩ := get_mem hx
    exact mem_get rb ((hb.mem rb x).2 ((ha.mem ra x).1 m))
  cases ha : get l f with
  | some x => exact (key h h' hr hr' x ha).symm
  | none =>
    cases hb : get l' f with
    | none => rfl
    | some y => rw [key h' h hr' hr y hb] at ha; cases ha
end
section
variable {o : Bool} {kk n : Nat} {s : S66} {st st' : List Int} {ls : List (List S63)} {q : List S63}
theorem Put_ok (h : SI kk s) (hk : kk + 10000 < 4611686018427387904) (h2 : s.f2 = 0) (h3 : s.f3 = false) (hE : Ex o n st ls s.f0) (hn : n < 90) (hst : Bs st') (hq : q.length ≤ 10) (hO : ∀ c ∈ q, OkC c)
    (hroom : (11 + st.length + 1249 * (n + 1) + st'.length + 10 : Int) ≤ s.f1) :
    ∃ s', commit_Put (some s) ((n + 1 : Nat) : Int) st' q = some (0, some s') ∧ SI (kk + 2000) s' ∧ s'.f2 = 0 ∧ s'.f3 = false ∧ s'.f1 = s.f1 ∧ Ex o (n + 1) st' (ls ++ [q]) s'.f0 := by
  obtain ⟨e, s', w, i, k, d, ot, oc, ft⟩ := Put_spec h hk h3 hE.cm (by omega) hst hq hO
  obtain ⟨k2, k3⟩ := k.2 h2 h3
  obtain ⟨u1, u2⟩ := hE.used h.rise
  rcases oc with ⟨rfl, _, C, cl⟩ | ⟨rfl, b, _⟩ | ⟨rfl, _⟩
  · refine ⟨s', w, i, k2, k3, k.1, C, cl, fun f x hx => ?_, ot.trans hE.oth⟩
    rcases d f x hx with a | rfl | rfl | rfl | rfl
    · exact hE.dom f x a
    · exact .inr (.inr (.inr (.inl ⟨n + 1, by omega, by omega, rfl⟩)))
    · exact .inr (.inr (.inr (.inr ⟨n + 1, by omega, by omega, rfl⟩)))
    · exact .inr (.inr (.inl rfl))
    · exact .inr (.inl rfl)
  · rw [k3] at b; cases b
  · exact absurd rfl (ft ⟨by omega, by omega⟩)
theorem Recover_ok (h : SI kk s) (hk : kk + 5000 < 4611686018427387904) (h2 : s.f2 = 0) (h3 : s.f3 = false) (hE : Ex o n st ls s.f0) :
    ∃ s', commit_Recover (some s) = some ((n : Int), st, ls.flatten.map backC, 0, some s') ∧ SI (kk + 500) s' ∧ s'.f2 = 0 ∧ s'.f3 = false ∧ s'.f1 = s.f1 ∧ Ex o n st ls s'.f0 := by
  obtain ⟨s', i, k, C, g, d, u, oc⟩ := Recover_spec h hk h3 hE.cm
  obtain ⟨k2, k3⟩ := k.2 h2 h3
  rcases oc with ⟨w, _, cl⟩ | ⟨_, b⟩
  · exact ⟨s', w, i, k2, k3, k.1, C, cl, fun f x hx => hE.dom f x (d f x hx), (g _ (goes_other _)).trans hE.oth⟩
  · rw [k3] at b; cases b
end
theorem Ex_new (o : Bool) (r op : Int) (ho : o = false) : Ex o 0 [] [] (onS [] r op).f0 := by
  subst ho
  exact ⟨⟨rfl, (by omega), fun q hq => (by cases hq), fun _ => rfl, fun _ => rfl, fun h => absurd h (by omega), fun h => absurd h (by omega), fun i q hq => (by simp at hq)⟩, fun f x hx => (by cases hx), fun f x hx => (by cases hx), rfl⟩
def chX (k : UInt8) : S63 := ⟨true, 0, ⟨[k], ⟨0, 0⟩, ⟨0, 0, false, 0, 0⟩⟩⟩
theorem okX (k : UInt8) : ∀ c ∈ [chX k], OkC c := fun c hc => by
  obtain rfl := List.mem_singleton.1 hc
  have z : (0 : Int) ≤ 0 ∧ (0 : Int) ≤ 1099511627776 := by decide
  have z6 : i64 0 := by unfold i64; decide
  have zf : 0 < 18446744073709551616 := by decide
  exact ⟨z, (by show 1 ≤ 32; omega), ⟨z6, z6⟩, z, zf, zf, zf⟩
theorem awake18_eq : law18_awake = some true := by
  unfold law18_awake
  rw [FNew_eq (by decide) (by decide)]
  simp only [Option.bind_some]
  have h0 := SI_new (r := 65536) (by decide) (by decide)
  obtain ⟨s1, w1, i1, a1, b1, c1, e1⟩ := Put_ok (q := [chX 120]) (st' := [97]) h0 (by omega) rfl rfl (Ex_new false 65536 0 rfl) (by omega) (fun x hx => by simp at hx; omega) (by simp) (okX 120) (by show (_ : Int) ≤ 65536; simp)
  rw [show commit_Put (some (onS [] 65536 0)) 1 [97] [(⟨true, 0, (⟨[120], (⟨0, 0⟩ : S56), (⟨0, 0, false, 0, 0⟩ : S59)⟩ : S61)⟩ : S63)] = some (0, some s1) from w1]
  simp only [Option.bind_some]
  rw [if_neg (by simp)]
  obtain ⟨s2, w2, i2, a2, b2, c2, e2⟩ := Put_ok (q := [chX 121]) (st' := [98]) i1 (by omega) a1 b1 e1 (by omega) (fun x hx => by simp at hx; omega) (by simp) (okX 121) (by rw [c1]; show (_ : Int) ≤ 65536; simp)
  rw [show commit_Put (some s1) 2 [98] [(⟨true, 0, (⟨[121], (⟨0, 0⟩ : S56), (⟨0, 0, false, 0, 0⟩ : S59)⟩ : S61)⟩ : S63)] = some (0, some s2) from w2]
  simp only [Option.bind_some]
  unfold law18_awake_j1
  rw [if_neg (by simp)]
  obtain ⟨s3, w3, _⟩ := Recover_ok i2 (by omega) a2 b2 e2
  rw [w3]
  rfl
section
variable {o : Bool} {kk n : Nat} {s : S66} {st : List Int} {ls : List (List S63)}
structure Pl (i n : Nat) (st : List Int) (ls : List (List S63)) (s : S66) : Prop where
  si : SI (3000 * i + 10) s
  f2 : s.f2 = 0
  f3 : s.f3 = false
  f1 : s.f1 = 1048576
  ex : Ex true n st ls s.f0
  le : n ≤ i
  sl : st.length ≤ 1000
end
theorem get_idx (f : List UInt8) : ∀ (l : List S72) (g : Nat → S72 → S72), (∀ i x, (g i x).f0 = x.f0) → (get l f = none → get (l.mapIdx g) f = none) ∧ ∀ x, get l f = some x → ∃ i, get (l.mapIdx g) f = some (g i x)
  | [], g, hg => ⟨fun _ => rfl, fun x hx => by cases hx⟩
  | y :: l, g, hg => by
    obtain ⟨i1, i2⟩ := get_idx f l (fun i => g (i + 1)) fun i x => hg (i + 1) x
    have e : (y :: l).mapIdx g = g 0 y :: l.mapIdx (fun i => g (i + 1)) := List.mapIdx_cons
    rw [e]
    unfold get at i1 i2 ⊢
    by_cases c : (y.f0 == f) = true
    · rw [List.find?_cons_of_pos (p := fun x : S72 => x.f0 == f) c, List.find?_cons_of_pos (p := fun x : S72 => x.f0 == f) (by rw [hg]; exact c)]
      exact ⟨fun h => (by cases h), fun x hx => ⟨0, by cases hx; rfl⟩⟩
    · rw [List.find?_cons_of_neg (p := fun x : S72 => x.f0 == f) c, List.find?_cons_of_neg (p := fun x : S72 => x.f0 == f) (by rw [hg]; exact c)]
      exact ⟨i1, fun x hx => by
        obtain ⟨i, hi⟩ := i2 x hx
        exact ⟨i + 1, hi⟩⟩
theorem keep_none {l : List S72} {f : List UInt8} (keep : List Int) (h : get l f = none) : get (keepL keep l) f = none := (get_idx f l _ fun i x => cutF_name x _).1 h
theorem keep_full {l : List S72} {f : List UInt8} {p : List Int} (keep : List Int) (h : get l f = some (full f p)) : get (keepL keep l) f = some (full f p) := by
  obtain ⟨i, hi⟩ := (get_idx f l (fun i x => cutF x (keep.getD i 0)) fun i x => cutF_name x _).2 _ h
  refine hi.trans ?_
  congr 1
  unfold cutF full
  rw [if_neg (by dsimp only; omega)]
section
variable {K m : Nat} {s : S66} {st : List Int} {ls : List (List S63)}
theorem Cm.rst (h : Cm m st ls s.f0) (keep : List Int) : Cm m st ls (rstS s keep).f0 :=
  ⟨h.len, h.lt, h.okl, h.st0, fun e => keep_none keep (h.man0 e), fun e => keep_full keep (h.man e), fun e => keep_full keep (h.stt e), fun i q hq => keep_full keep (h.outs i q hq)⟩
end
structure Fl (i n : Nat) (st : List Int) (ls : List (List S63)) (s : S66) : Prop where
  si : SI (10000 * i + 10) s
  f3 : s.f3 = false
  cm : Cm n st ls s.f0
  le : n ≤ i
section
variable {kk n : Nat} {s : S66}
end
theorem Ex.rst {n : Nat} {s : S66} {st : List Int} {ls : List (List S63)} (h : Ex false n st ls s.f0) (keep : List Int) : Ex false n st ls (rstS s keep).f0 := by
  have key : ∀ f x, get (keepL keep s.f0) f = some x → ∃ y, get s.f0 f = some y := fun f x hx => by
    cases hg : get s.f0 f with
    | some y => exact ⟨y, rfl⟩
    | none => rw [keep_none keep hg] at hx; cases hx
  refine ⟨h.cm.rst keep, fun f x hx => ?_, fun f x hx => ?_, keep_none keep h.oth⟩
  · obtain ⟨y, hy⟩ := key f x hx
    exact h.cl f y hy
  · obtain ⟨y, hy⟩ := key f x hx
    exact h.dom f y hy
theorem twins_l2 {k1 k2 : Nat} {s t : S66} (hs : SI k1 s) (ht : SI k2 t) (s3 : s.f3 = false) (t3 : t.f3 = false) (e : s.f0 = t.f0) : ∀ (m i : Nat), i + m = s.f0.length →
    loop (fun q : Int => law18_CommitTwins_l2 (some s) (some t) (s.f0.map S72.f0) (s.f0.map S72.f0) q) (i : Int) = some (.inl ())
  | 0, i, hi => by
    refine loop_end ?_
    unfold law18_CommitTwins_l2
    rw [if_neg (by rw [List.length_map]; simp only [decide_eq_true_eq]; omega)]
  | m + 1, i, hi => by
    have hl := hs.len
    have hx := List.getElem?_eq_getElem (l := s.f0) (i := i) (by omega)
    have hxm : s.f0[i] ∈ s.f0 := List.getElem_mem (by omega)
    have hf := hs.form _ hxm
    have h32 := form_32 hf
    have hy : (s.f0.map S72.f0)[i]? = some (s.f0[i]).f0 := by rw [List.getElem?_map, hx]; rfl
    have hr : readS s (s.f0[i]).f0 = readS t (s.f0[i]).f0 := by
      unfold readS
      rw [look_of hf s3, look_of hf t3, ← e]
    have hst : law18_CommitTwins_l2 (some s) (some t) (s.f0.map S72.f0) (s.f0.map S72.f0) (i : Int) = some (.inl ((i + 1 : Nat) : Int)) := by
      unfold law18_CommitTwins_l2
      rw [if_pos (by rw [List.length_map]; simp only [decide_eq_true_eq]; omega), at_int rfl hy]
      simp only [Option.bind_some]
      rw [hs.Read (by omega)]
      simp only [Option.bind_some]
      rw [ht.Read (by omega)]
      simp only [Option.bind_some]
      rw [if_neg (by simp), hr, show (!(bts (readS t (s.f0[i]).f0).1 == bts (readS t (s.f0[i]).f0).1)) = false by simp]
      unfold law18_CommitTwins_j4
      rw [if_neg (by simp), lt_, w64 (by omega) (by omega)]
      rfl
    rw [loop_nxt (b := fun q : Int => law18_CommitTwins_l2 (some s) (some t) (s.f0.map S72.f0) (s.f0.map S72.f0) q) hst]
    exact twins_l2 hs ht s3 t3 e m (i + 1) (by omega)
structure Tw (i : Nat) (st : List Int) (ls : List (List S63)) (s : S66) : Prop where
  si : SI (3000 * i) s
  f2 : s.f2 = 0
  f3 : s.f3 = false
  f1 : s.f1 = 1048576
  ex : Ex false i st ls s.f0
  sl : st.length ≤ 500
theorem twins_round {acts : List S36} (hg : ∀ a ∈ acts, g36 a) {a1 : Int} {i : Nat} {st : List Int} {ls : List (List S63)} {s t : S66} (hi : i < acts.length) (hi20 : i < 20) (hs : Tw i st ls s) (ht : Tw i st ls t) :
    law18_CommitTwins_l1 acts a1 (some s) (some t) (i : Int) (i : Int) = some (.inr (.inr true)) ∨
      ∃ st' ls' s' t', law18_CommitTwins_l1 acts a1 (some s) (some t) (i : Int) (i : Int) = some (.inl (some s', some t', ((i + 1 : Nat) : Int), ((i + 1 : Nat) : Int))) ∧ Tw (i + 1) st' ls' s' ∧ Tw (i + 1) st' ls' t' := by
  have hx := List.getElem?_eq_getElem hi
  have hga := hg _ (List.getElem_mem hi)
  unfold law18_CommitTwins_l1
  rw [if_pos (by simp only [decide_eq_true_eq]; omega)]
  unfold law18_CommitTwins_j1
  rw [if_pos (by simp only [decide_eq_true_eq]; omega), at_int rfl hx]
  simp only [Option.bind_some]
  generalize acts[i] = a at hx hga
  obtain ⟨g0, g1, g2, g3, g4⟩ := hga
  by_cases c500 : 500 < a.f1.length
  · rw [if_pos (by simp only [decide_eq_true_eq]; omega)]
    exact .inl rfl
  rw [if_neg (by simp only [decide_eq_true_eq]; omega), lt_, fine18_eq]
  simp only [Option.bind_some]
  rw [show IntKind.u64.wrap ((i : Int) + 1) = ((i + 1 : Nat) : Int) by rw [u64w (by omega) (by omega)]; rfl]
  have hq := fineL_len a.f2
  have hO := fineL_ok g2.2
  have put : ∀ u : S66, Tw i st ls u → ∃ u', commit_Put (some u) ((i + 1 : Nat) : Int) a.f1 (fineL a.f2) = some (0, some u') ∧ SI (3000 * i + 2000) u' ∧ u'.f2 = 0 ∧ u'.f3 = false ∧ u'.f1 = 1048576 ∧ Ex false (i + 1) a.f1 (ls ++ [fineL a.f2]) u'.f0 := fun u hu => by
    have hsl := hu.sl
    obtain ⟨u', w, b1, b2, b3, b4, b5⟩ := Put_ok hu.si (by omega) hu.f2 hu.f3 hu.ex (by omega) (gl8 g1) hq hO (by rw [hu.f1]; omega)
    exact ⟨u', w, b1, b2, b3, b4.trans hu.f1, b5⟩
  obtain ⟨s', ws, s1, s2, s3, s4, s5⟩ := put s hs
  obtain ⟨t', wt, t1, t2, t3, t4, t5⟩ := put t ht
  rw [ws]
  simp only [Option.bind_some]
  rw [if_neg (by simp), wt]
  simp only [Option.bind_some]
  have hj3 : ∀ u : S66, SI (3000 * i + 3000) u → u.f2 = 0 → u.f3 = false → u.f1 = 1048576 → Ex false (i + 1) a.f1 (ls ++ [fineL a.f2]) u.f0 → law18_CommitTwins_j3 (i : Int) ((i + 1 : Nat) : Int) (some s') (some u) = some (.inl (some s', some u, ((i + 1 : Nat) : Int), ((i + 1 : Nat) : Int))) := by
    intro u u1 u2 u3 u4 u5
    have he : s'.f0 = u.f0 := s5.same u5 s1.rise u1.rise
    unfold law18_CommitTwins_j3
    rw [s1.Names]
    simp only [Option.bind_some]
    rw [u1.Names]
    simp only [Option.bind_some]
    rw [← he, if_neg (by simp)]
    have hl := twins_l2 s1 u1 s3 u3 he s'.f0.length 0 (by omega)
    rw [show (0 : Int) = ((0 : Nat) : Int) from rfl, hl]
    show law18_CommitTwins_b2 _ _ _ _ = _
    unfold law18_CommitTwins_b2
    rw [lt_, w64 (by omega) (by omega)]
    rfl
  have done : ∀ u : S66, SI (3000 * i + 3000) u → u.f2 = 0 → u.f3 = false → u.f1 = 1048576 → Ex false (i + 1) a.f1 (ls ++ [fineL a.f2]) u.f0 → Tw (i + 1) a.f1 (ls ++ [fineL a.f2]) u := fun u u1 u2 u3 u4 u5 => ⟨u1.mono (by omega), u2, u3, u4, u5, by omega⟩
  unfold law18_CommitTwins_j2
  rw [if_neg (by simp), chk_pos (by omega), lt_, lt_]
  refine .inr ⟨a.f1, ls ++ [fineL a.f2], s', ?_⟩
  by_cases c : (iand .u32 (ishr .u32 a1 (i : Int)) 1 == 1) = true
  · obtain ⟨u, wu, u1, u2, u3, u4, u5⟩ := Recover_ok t1 (by omega) t2 t3 t5
    have r1 := u1.rst []
    have r5 := u5.rst []
    refine ⟨rstS u [], ?_, done s' (s1.mono (by omega)) s2 s3 s4 s5, done _ (r1.mono (by omega)) rfl rfl (u4.trans t4) r5⟩
    rw [if_pos c, wu]
    simp only [Option.bind_some]
    rw [u1.Restart]
    exact hj3 _ (r1.mono (by omega)) rfl rfl (u4.trans t4) r5
  · refine ⟨t', ?_, done s' (s1.mono (by omega)) s2 s3 s4 s5, done t' (t1.mono (by omega)) t2 t3 t4 t5⟩
    rw [if_neg c]
    exact hj3 t' (t1.mono (by omega)) t2 t3 t4 t5
theorem twins_loop {acts : List S36} (hg : ∀ a ∈ acts, g36 a) (a1 : Int) : ∀ (m i : Nat) (st : List Int) (ls : List (List S63)) (s t : S66), i + m = min acts.length 20 → Tw i st ls s → Tw i st ls t →
    ∃ y, loop (fun q : Option S66 × Option S66 × Int × Int => law18_CommitTwins_l1 acts a1 q.1 q.2.1 q.2.2.1 q.2.2.2) (some s, some t, (i : Int), (i : Int)) = some y ∧ (y = .inl () ∨ y = .inr true)
  | 0, i, st, ls, s, t, hi, hs, ht => by
    refine ⟨.inl (), loop_end ?_, .inl rfl⟩
    show law18_CommitTwins_l1 acts a1 (some s) (some t) (i : Int) (i : Int) = _
    unfold law18_CommitTwins_l1
    by_cases c : i < acts.length
    · rw [if_pos (by simp only [decide_eq_true_eq]; omega)]
      unfold law18_CommitTwins_j1
      rw [if_neg (by simp only [decide_eq_true_eq]; omega)]
    · rw [if_neg (by simp only [decide_eq_true_eq]; omega)]
      unfold law18_CommitTwins_j1
      rw [if_neg (by simp)]
  | m + 1, i, st, ls, s, t, hi, hs, ht => by
    rcases twins_round hg (a1 := a1) (i := i) (by omega) (by omega) hs ht with hr | ⟨st', ls', s', t', hr, P1, P2⟩
    · exact ⟨.inr true, loop_end hr, .inr rfl⟩
    · obtain ⟨y, hy, hc⟩ := twins_loop hg a1 m (i + 1) st' ls' s' t' (by omega) P1 P2
      exact ⟨y, (loop_nxt (b := fun q : Option S66 × Option S66 × Int × Int => law18_CommitTwins_l1 acts a1 q.1 q.2.1 q.2.2.1 q.2.2.2) hr).trans hy, hc⟩
theorem CommitTwins (a0 : List S36) (a1 : Int) (h0 : gL 88 g36 a0) (h1 : gI .u32 a1) : law18_CommitTwins a0 a1 = some true := by
  unfold law18_CommitTwins
  rw [awake18_eq]
  simp only [Option.bind_some]
  rw [if_neg (by simp), FNew_eq (by decide) (by decide)]
  simp only [Option.bind_some]
  have hT : Tw 0 [] [] (onS [] 1048576 0) := ⟨SI_new (by decide) (by decide), rfl, rfl, rfl, Ex_new false _ _ rfl, by simp⟩
  obtain ⟨y, hy, hc⟩ := twins_loop h0.2 a1 (min a0.length 20) 0 [] [] _ _ (by omega) hT hT
  have hy2 : loop (fun q : Option S66 × Option S66 × Int × Int => law18_CommitTwins_l1 a0 a1 q.1 q.2.1 q.2.2.1 q.2.2.2) (some (onS [] 1048576 0), some (onS [] 1048576 0), 0, 0) = some y := hy
  rw [hy2]
  rcases hc with rfl | rfl <;> rfl
end Go.Proofs.YtffdckhgkhhbjaaGreatDoor.P
