/- Plain words on order and sorting; no program in sight. -/
import Derived.Test.YtpanacifejpjhaaEe
import Derived.Sort.Walk0
import Derived.IntWalk
namespace Go.Proofs.Ytpanacifejpjhaa.P
open Go Go.RowKit Go.Proofs.Ytpanacifejpjhaa.E
set_option linter.unusedVariables false

structure SWO {α : Type} (lt : α → α → Bool) : Prop where
  irr : ∀ a, lt a a = false
  trans : ∀ a b c, lt a b = true → lt b c = true → lt a c = true
  neg : ∀ a b c, lt a c = true → lt a b = true ∨ lt b c = true

section
variable {α : Type} {lt : α → α → Bool}

def ins (lt : α → α → Bool) (x : α) : List α → List α
  | [] => [x]
  | y :: l => if lt x y then x :: y :: l else y :: ins lt x l

def sortL (lt : α → α → Bool) (l : List α) : List α := l.foldl (fun acc x => ins lt x acc) []

def Srt (lt : α → α → Bool) (l : List α) : Prop := l.Pairwise fun a b => lt b a = false

theorem ins_length (x : α) : ∀ l : List α, (ins lt x l).length = l.length + 1
  | [] => rfl
  | y :: l => by unfold ins; split <;> simp [ins_length x l]

theorem ins_mem (x z : α) : ∀ l : List α, z ∈ ins lt x l ↔ z = x ∨ z ∈ l
  | [] => by simp [ins]
  | y :: l => by
    unfold ins
    split
    · simp
    · simp only [List.mem_cons, ins_mem x z l]
      constructor <;> (rintro (h | h | h) <;> simp_all)

theorem SWO.asymm (h : SWO lt) {a b : α} (hab : lt a b = true) : lt b a = false := by
  cases hba : lt b a with
  | false => rfl
  | true => have := h.trans _ _ _ hab hba; rw [h.irr] at this; cases this

theorem ins_srt (h : SWO lt) (x : α) : ∀ {l : List α}, Srt lt l → Srt lt (ins lt x l)
  | [], _ => by simp [ins, Srt]
  | y :: l, hs => by
    unfold ins
    have hs' := List.pairwise_cons.1 hs
    split
    · rename_i hxy
      refine List.pairwise_cons.2 ⟨fun z hz => ?_, hs⟩
      rcases List.mem_cons.1 hz with rfl | hz
      · exact h.asymm hxy
      · cases hzx : lt z x with
        | false => rfl
        | true =>
          have := h.trans _ _ _ hzx hxy
          rw [hs'.1 z hz] at this
          cases this
    · rename_i hxy
      refine List.pairwise_cons.2 ⟨fun z hz => ?_, ins_srt h x hs'.2⟩
      rcases (ins_mem x z l).1 hz with rfl | hz
      · simpa using hxy
      · exact hs'.1 z hz

theorem foldl_srt (h : SWO lt) : ∀ (l acc : List α), Srt lt acc → Srt lt (l.foldl (fun acc x => ins lt x acc) acc)
  | [], acc, ha => ha
  | x :: l, acc, ha => foldl_srt h l _ (ins_srt h x ha)

theorem sortL_srt (h : SWO lt) (l : List α) : Srt lt (sortL lt l) := foldl_srt h l [] List.Pairwise.nil

theorem foldl_length : ∀ (l acc : List α), (l.foldl (fun acc x => ins lt x acc) acc).length = acc.length + l.length
  | [], acc => by simp
  | x :: l, acc => by rw [List.foldl_cons, foldl_length l, ins_length]; simp; omega
theorem sortL_length (l : List α) : (sortL lt l).length = l.length := by unfold sortL; rw [foldl_length]; simp

theorem foldl_mem (z : α) : ∀ (l acc : List α), z ∈ l.foldl (fun acc x => ins lt x acc) acc ↔ z ∈ acc ∨ z ∈ l
  | [], acc => by simp
  | x :: l, acc => by rw [List.foldl_cons, foldl_mem z l, ins_mem, List.mem_cons, or_comm (a := z = x), or_assoc]
theorem sortL_mem (z : α) (l : List α) : z ∈ sortL lt l ↔ z ∈ l := by unfold sortL; rw [foldl_mem]; simp

theorem sortL_append (l : List α) (x : α) : sortL lt (l ++ [x]) = ins lt x (sortL lt l) := by unfold sortL; rw [List.foldl_append]; rfl

/-- insertion by a place that is found from the end -/
theorem ins_at (h : SWO lt) {s : List α} (hs : Srt lt s) {x : α} {n : Nat} (hn : n ≤ s.length) (hlo : ∀ y, 0 < n → s[n - 1]? = some y → lt x y = false) (hhi : ∀ j y, n ≤ j → s[j]? = some y → lt x y = true) :
    s.take n ++ [x] ++ s.drop n = ins lt x s := by
  induction s generalizing n with
  | nil => simp at hn; subst hn; rfl
  | cons y s ih =>
    have hs' := List.pairwise_cons.1 hs
    cases n with
    | zero =>
      have := hhi 0 y (Nat.le_refl _) rfl
      simp [ins, this]
    | succ n =>
      have hxy : lt x y = false := by
        cases n with
        | zero => exact hlo y (by omega) rfl
        | succ n =>
          cases hc : lt x y with
          | false => rfl
          | true =>
            simp only [List.length_cons] at hn
            have hm : s[n]? = some (s[n]'(by omega)) := List.getElem?_eq_getElem (by omega)
            have h2 := hlo (s[n]'(by omega)) (by omega) (by simp)
            rcases h.neg x (s[n]'(by omega)) y hc with h3 | h3
            · rw [h2] at h3; cases h3
            · have := hs'.1 _ (List.getElem_mem (by omega : n < s.length))
              rw [this] at h3; cases h3
      have := ih hs'.2 (n := n) (by simpa using hn) (fun z hz he => hlo z (by omega) (by
        cases n with
        | zero => omega
        | succ n => simpa using he)) (fun j z hj he => hhi (j + 1) z (by omega) (by simpa using he))
      simp only [List.take_succ_cons, List.drop_succ_cons, List.cons_append, ins, hxy]
      simp only [Bool.false_eq_true, if_false]
      rw [← this]

/-- what is least and stands first among those that are alike comes first -/
theorem foldl_first (e : α) : ∀ (C s : List α), (∀ c ∈ C, lt c e = false) → C.foldl (fun acc x => ins lt x acc) (e :: s) = e :: C.foldl (fun acc x => ins lt x acc) s
  | [], s, _ => rfl
  | c :: C, s, h => by
    simp only [List.foldl_cons]
    have hc := h c List.mem_cons_self
    rw [show ins lt c (e :: s) = e :: ins lt c s by simp [ins, hc]]
    exact foldl_first e C _ fun d hd => h d (List.mem_cons_of_mem _ hd)

theorem sortL_first {A C : List α} {e : α} (hA : ∀ a ∈ A, lt e a = true) (hC : ∀ c ∈ C, lt c e = false) : sortL lt (A ++ e :: C) = e :: sortL lt (A ++ C) := by
  unfold sortL
  rw [List.foldl_append, List.foldl_append, List.foldl_cons]
  have : ins lt e (A.foldl (fun acc x => ins lt x acc) []) = e :: A.foldl (fun acc x => ins lt x acc) [] := by
    have hm : ∀ a ∈ A.foldl (fun acc x => ins lt x acc) [], lt e a = true := fun a ha => hA a (by simpa using (foldl_mem a A []).1 ha)
    cases hs : A.foldl (fun acc x => ins lt x acc) [] with
    | nil => rfl
    | cons y s => simp [ins, hm y (by rw [hs]; exact List.mem_cons_self)]
  rw [this, foldl_first e C _ hC]

/-- a row that is in its order is its own sorting -/
theorem foldl_sorted : ∀ (l acc : List α), Srt lt (acc ++ l) → l.foldl (fun acc x => ins lt x acc) acc = acc ++ l
  | [], acc, _ => by simp
  | x :: l, acc, h => by
    have he : ∀ acc : List α, (∀ a ∈ acc, lt x a = false) → ins lt x acc = acc ++ [x] := by
      intro acc
      induction acc with
      | nil => intro _; rfl
      | cons a acc ih => intro h; simp [ins, h a List.mem_cons_self, ih fun b hb => h b (List.mem_cons_of_mem _ hb)]
    rw [List.foldl_cons, he acc fun a ha => (List.pairwise_append.1 h).2.2 a ha x List.mem_cons_self, foldl_sorted l _ (by simpa using h)]
    simp
theorem sortL_sorted {l : List α} (h : Srt lt l) : sortL lt l = l := by
  have := foldl_sorted (lt := lt) l [] (by simpa using h)
  simpa [sortL] using this

theorem srt_adj (h : SWO lt) {l : List α} (ha : ∀ i x y, l[i]? = some x → l[i + 1]? = some y → lt y x = false) : Srt lt l := by
  induction l with
  | nil => exact List.Pairwise.nil
  | cons a l ih =>
    have ih := ih fun i x y hx hy => ha (i + 1) x y (by simpa using hx) (by simpa using hy)
    refine List.pairwise_cons.2 ⟨fun z hz => ?_, ih⟩
    cases l with
    | nil => simp at hz
    | cons b l =>
      have hba := ha 0 a b rfl rfl
      rcases List.mem_cons.1 hz with rfl | hz
      · exact hba
      · have hzb := (List.pairwise_cons.1 ih).1 z hz
        cases hza : lt z a with
        | false => rfl
        | true => rcases h.neg z b a hza with h3 | h3 <;> simp_all

theorem srt_get {l : List α} (h : Srt lt l) {i j : Nat} {x y : α} (hij : i < j) (hx : l[i]? = some x) (hy : l[j]? = some y) : lt y x = false := by
  obtain ⟨h1, rfl⟩ := List.getElem?_eq_some_iff.1 hx
  obtain ⟨h2, rfl⟩ := List.getElem?_eq_some_iff.1 hy
  exact List.pairwise_iff_getElem.1 h i j h1 h2 hij
end

/-! #### keys -/
theorem bl_swo : SWO Op.bytesLess := by
  refine ⟨fun a => ?_, fun a b c h1 h2 => ?_, fun a b c h => ?_⟩
  · rw [bytesLess_eq]; simp [List.lt_irrefl]
  · rw [bytesLess_eq] at *
    simp only [decide_eq_true_eq] at *
    exact List.lt_trans h1 h2
  · rw [bytesLess_eq] at *
    rw [bytesLess_eq] at *
    simp only [decide_eq_true_eq] at *
    by_cases hab : a < b
    · exact .inl hab
    · refine .inr ?_
      have hba : b ≤ a := List.not_lt.1 hab
      exact List.lt_of_le_of_lt hba h
theorem bl_tot (a b : List UInt8) (h : Op.bytesLess a b = false) (h' : Op.bytesLess b a = false) : a = b := by
  rw [bytesLess_eq] at *
  simp only [decide_eq_false_iff_not] at *
  exact List.le_antisymm (List.not_lt.1 h') (List.not_lt.1 h)
end Go.Proofs.Ytpanacifejpjhaa.P
