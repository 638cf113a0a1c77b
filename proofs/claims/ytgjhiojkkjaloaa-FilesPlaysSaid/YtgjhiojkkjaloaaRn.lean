/- Each call of the document's store: it is the program's. -/
import Derived.Test.YtgjhiojkkjaloaaRm
namespace Go.Proofs.Ytgjhiojkkjaloaa.P
open Go Go.RowKit Go.Proofs.Ytgjhiojkkjaloaa.E Go.Proofs.Ytgjhiojkkjaloaa.M
set_option linter.unusedVariables false

section
variable {k : Nat} {s : S68} {n : List UInt8}
theorem SI.rdrop (h : SI k s) {P D : List S73} {x : S73} (hs : s.f0 = P ++ x :: D) : r05_Store_drop (cvS s) (P.length : Int) = some (cvS { s with f0 := P ++ D }) := by
  have := rdrop_mid (m := cvS s) (P := P.map cv) (x := cv x) (D := D.map cv) (by show s.f0.map cv = _; rw [hs]; simp) h.rlen
  rw [List.length_map] at this
  rw [this]
  simp [cvS]
theorem SI.rput (h : SI k s) {P D : List S73} {y : S73} {f : S62} (hf : f = cv y) (hs : s.f0 = P ++ D) (hP : ∀ z ∈ P, Op.bytesLess z.f0 y.f0 = true) (hD : ∀ z ∈ D, Op.bytesLess y.f0 z.f0 = true) : r05_Store_put (cvS s) f = some (cvS { s with f0 := P ++ y :: D }) := by
  subst hf
  have := rput_gap (m := cvS s) (f := cv y) (P := P.map cv) (D := D.map cv) (by show s.f0.map cv = _; rw [hs]; simp) h.rlen
    (fun z hz => by obtain ⟨q, hq, rfl⟩ := List.mem_map.1 hz; exact hP q hq) (fun z hz => by obtain ⟨q, hq, rfl⟩ := List.mem_map.1 hz; exact hD q hq)
  rw [this]
  simp [cvS]
theorem cv_app {x : S73} (hx : 0 ≤ x.f2 ∧ x.f2 ≤ x.f1.length) (p : List Int) : cv ⟨x.f0, x.f1 ++ p, x.f2⟩ = ⟨x.f0, (cv x).f1, (cv x).f2 ++ bts p⟩ := by
  unfold cv
  simp only
  rw [List.take_append_of_le_length (by omega), List.drop_append_of_le_length (by omega), bts_append]
theorem cv_full (x : S73) : cv ⟨x.f0, x.f1, x.f1.length⟩ = ⟨x.f0, (cv x).f1 ++ (cv x).f2, []⟩ := by
  rw [cv_all]
  unfold cv
  simp [bts]
theorem rapp_j3 (h : SI (k + 1) s) {P D : List S73} {x : S73} (hs : s.f0 = P ++ x :: D) (hx : x.f0 = n) (e : Int) (q : S53) (p : List Int) (hp : p.length ≤ 16777216) :
    r05_Store_Append_j3 n p (e, q) (cvS s).f0 (cvS s).f1 (cvS s).f2 (cvS s).f3 (cvS s).f4 = some (e, cvS { s with f0 := P ++ ⟨x.f0, x.f1 ++ p, x.f2⟩ :: D }) := by
  have hr := h.rise
  have hxm : x ∈ s.f0 := by rw [hs]; simp
  have hone := h.one hxm
  have hcl := cv_len x
  unfold r05_Store_Append_j3
  rw [show (⟨(cvS s).f0, (cvS s).f1, (cvS s).f2, (cvS s).f3, (cvS s).f4⟩ : S53) = cvS s from rfl, h.rat]
  rw [hs] at hr
  rw [hs, get_mid hx hr, pos_mid hx hr]
  simp only [Option.bind_some, Option.isSome_some, if_true]
  have hy : (cvS s).f0[P.length]? = some (cv x) := by show (s.f0.map cv)[P.length]? = _; rw [hs]; simp
  rw [at_int rfl hy]
  simp only [Option.bind_some]
  rw [chk_pos (by rw [bts_len]; simp only [maxLen]; omega), Int.toNat_natCast]
  congr 2
  simp only [cvS]
  congr 1
  rw [hs, List.map_append, List.map_cons, List.map_append, List.map_cons, cv_app (h.sure x hxm)]
  rw [List.set_append_right _ _ (by simp)]
  simp
  rfl
theorem SI.rAppend (h : SI k s) (hk : k < 4611686018427387904) (hn : n.length < 4611686018427387904) {p : List Int} (hp : p.length ≤ 1000000000000) (hpb : ∀ b ∈ p, 0 ≤ b ∧ b < 256) : r05_Store_Append (cvS s) n p = some ((appS s n p).1, cvS (appS s n p).2) := by
  have hu := h.use; have hro := h.room; have hlen := h.len
  unfold r05_Store_Append
  rw [h.rRead hn]
  simp only [Option.bind_some]
  have hout : ∀ (y : List UInt8 × Int) (b : Bool), b = true → r05_Store_Append_j1 (cvS s) n p y b = some (y.2, cvS s) := by intro y b hb; subst hb; rfl
  by_cases c : lookS s n = 0
  · have hrd : (readS s n).2 = if (get s.f0 n).isSome = true then 0 else 5 := by unfold readS; rw [if_pos c]; cases get s.f0 n <;> rfl
    have hn1 : ¬ ((readS s n).2 == 1) = true := by rw [hrd]; split <;> decide
    have hn9 : ((readS s n).2 == 9) = false := by rw [hrd]; split <;> decide
    rw [if_neg hn1, hn9]
    unfold r05_Store_Append_j1
    rw [if_neg (by simp), h.rUsed]
    simp only [Option.bind_some]
    rw [lt_, w64 (by omega) (by omega), show (cvS s).f1 = s.f1 from rfl]
    have hap := h.app (n := n) (p := p) hpb
    unfold appS at hap ⊢
    rw [if_pos c] at hap ⊢
    have h10 : ∀ (y : List UInt8 × Int) (b : Bool), b = true → r05_Store_Append_j2 (cvS s) n p y b = some (10, cvS s) := by intro y b hb; subst hb; rfl
    by_cases c1 : s.f1 - used s.f0 < p.length
    · rw [if_pos (by simp only [decide_eq_true_eq]; omega), h10 _ _ rfl, if_pos (.inl c1)]
    rw [if_neg (by simp only [decide_eq_true_eq]; omega)]
    have hpl : p.length ≤ 16777216 := by omega
    have hb := h.rbegin hk
    have hst := h.stepped
    have hr := h.rise
    rcases place hr n with ⟨P, x, D, e, hx⟩ | ⟨P, D, e, hP, hD⟩
    · rw [e] at hr
      have e3 : get s.f0 n = some x := by rw [e]; exact get_mid hx hr
      rw [e3] at hrd hap ⊢
      have h5 : ¬ ((readS s n).2 == 5) = true := by rw [hrd]; simp
      simp only [if_neg h5]
      unfold r05_Store_Append_j2
      rw [if_neg (by simp), hb]
      simp only [Option.bind_some]
      simp only [if_neg h5]
      rw [if_neg (show ¬ (s.f1 - used s.f0 < p.length ∨ ((some x).isNone = true ∧ 500 ≤ s.f0.length)) from by simp [c1]), rapp_j3 hst (show (step s).f0 = P ++ x :: D from e) hx _ _ p hpl]
      subst hx
      rw [e, Option.getD_some, put_mid (x := x) (y := ⟨x.f0, x.f1 ++ p, x.f2⟩) rfl hr]
    · rw [e] at hr
      have e3 : get s.f0 n = none := by rw [e]; exact get_gap hP hD
      rw [e3] at hrd hap ⊢
      have h5 : ((readS s n).2 == 5) = true := by rw [hrd]; simp
      simp only [if_pos h5]
      have hfl : (cvS s).f0.length = s.f0.length := List.length_map ..
      rw [hfl]
      by_cases c2 : 500 ≤ s.f0.length
      · rw [h10 _ _ (by simp only [decide_eq_true_eq]; omega), if_pos (.inr ⟨rfl, c2⟩)]
      rw [if_neg (show ¬ (s.f1 - used s.f0 < p.length ∨ ((none : Option S73).isNone = true ∧ 500 ≤ s.f0.length)) from by simp [c1]; omega)] at hap ⊢
      unfold r05_Store_Append_j2
      rw [if_neg (by simp only [decide_eq_true_eq]; omega), hb]
      simp only [Option.bind_some]
      simp only [if_pos h5]
      rw [hst.rput (y := ⟨n, [], 0⟩) (f := ⟨n, [], []⟩) rfl (show (step s).f0 = P ++ D from e) hP hD]
      simp only [Option.bind_some]
      have hsi : SI (k + 1) { step s with f0 := P ++ ⟨n, [], 0⟩ :: D } := by
        have hq := h.putS (l := s.f0) h.rise (fun _ h => h) ⟨n, [], 0⟩ (look0 c).1 (by rw [len_put h.rise, e3]; simp; omega) (by have := used_put h.rise ⟨n, [], 0⟩; simp only [List.length_nil] at this; omega) ⟨Int.le_refl 0, Int.le_refl 0⟩ (fun b hb => by cases hb) hst.armed (f := (step s).f3) hst.ops
        rw [e, put_gap (y := ⟨n, [], 0⟩) hP hD] at hq
        exact hq
      rw [rapp_j3 hsi (x := ⟨n, [], 0⟩) rfl rfl _ _ p hpl, e, Option.getD_none, put_gap (y := ⟨n, [] ++ p, 0⟩) hP hD]
  · have hrd : (readS s n).2 = lookS s n := by unfold readS; rw [if_neg c]
    unfold appS
    rw [if_neg c]
    have hc : lookS s n = 1 ∨ lookS s n = 9 := by
      unfold lookS at c ⊢
      split
      · split
        · exact .inr rfl
        · rename_i a b; rw [if_pos a, if_neg b] at c; exact absurd rfl c
      · exact .inl rfl
    split
    · rw [hout _ _ rfl, hrd]
    · rename_i q
      rw [hout _ _ (by rw [hrd] at q ⊢; rcases hc with hc | hc <;> rw [hc] at q ⊢ <;> simp at q ⊢), hrd]
theorem read_e (s : S68) (n : List UInt8) : (readS s n).2 = if lookS s n = 0 then (if (get s.f0 n).isSome = true then 0 else 5) else lookS s n := by
  unfold readS
  split
  · cases get s.f0 n <;> rfl
  · rfl
theorem SI.rSync (h : SI k s) (hk : k < 4611686018427387904) (hn : n.length < 4611686018427387904) : r05_Store_Sync (cvS s) n = some ((synS s n).1, cvS (synS s n).2) := by
  unfold r05_Store_Sync synS chgS
  rw [h.rRead hn]
  simp only [Option.bind_some]
  have hrd := read_e s n
  by_cases c : lookS s n = 0
  · rw [if_pos c] at hrd ⊢
    have hr := h.rise
    rcases place hr n with ⟨P, x, D, e, hx⟩ | ⟨P, D, e, hP, hD⟩
    · rw [e] at hr
      have hxm : x ∈ s.f0 := by rw [e]; simp
      have hone := h.one hxm
      have hcl := cv_len x
      have e3 : get s.f0 n = some x := by rw [e]; exact get_mid hx hr
      rw [e3] at hrd ⊢
      rw [if_neg (by rw [hrd]; simp), h.rbegin hk]
      simp only [Option.bind_some]
      by_cases c3 : (step s).f3 = true
      · simp only [if_pos c3]; rfl
      simp only [if_neg c3]
      have hst := h.stepped
      have hs0 : (step s).f0 = P ++ x :: D := e
      rw [if_pos (by decide), hst.rat, hs0, get_mid hx hr, pos_mid hx hr]
      simp only [Option.bind_some, Option.isSome_some, if_true]
      have hm : (cvS (step s)).f0 = P.map cv ++ cv x :: D.map cv := by show (step s).f0.map cv = _; rw [hs0]; simp
      rw [at_int rfl (show (cvS (step s)).f0[P.length]? = some (cv x) by rw [hm]; simp)]
      simp only [Option.bind_some]
      rw [chk_pos (by simp only [maxLen]; omega), Int.toNat_natCast]
      have hset : (cvS (step s)).f0.set P.length (⟨(cv x).f0, (cv x).f1 ++ (cv x).f2, (cv x).f2⟩ : S62) = P.map cv ++ ⟨(cv x).f0, (cv x).f1 ++ (cv x).f2, (cv x).f2⟩ :: D.map cv := by rw [hm, List.set_append_right _ _ (by simp)]; simp
      rw [hset, at_int rfl (show (P.map cv ++ ⟨(cv x).f0, (cv x).f1 ++ (cv x).f2, (cv x).f2⟩ :: D.map cv)[P.length]? = some ⟨(cv x).f0, (cv x).f1 ++ (cv x).f2, (cv x).f2⟩ by simp)]
      simp only [Option.bind_some]
      unfold r05_Store_Sync_j1
      rw [e, put_mid (x := x) (y := ⟨x.f0, x.f1, x.f1.length⟩) rfl hr]
      simp only [cvS, List.map_append, List.map_cons, cv_full]
      rw [List.set_append_right _ _ (by simp)]
      simp
      rfl
    · rw [e] at hr
      have e3 : get s.f0 n = none := by rw [e]; exact get_gap hP hD
      rw [e3] at hrd ⊢
      rw [if_pos (by rw [hrd]; simp), hrd]
      rfl
  · rw [if_neg c] at hrd ⊢
    rw [if_pos (by rw [hrd]; simpa using c), hrd]
theorem SI.rDelete (h : SI k s) (hk : k < 4611686018427387904) (hn : n.length < 4611686018427387904) : r05_Store_Delete (cvS s) n = some ((delS s n).1, cvS (delS s n).2) := by
  unfold r05_Store_Delete delS chgS
  rw [h.rRead hn]
  simp only [Option.bind_some]
  have hrd := read_e s n
  by_cases c : lookS s n = 0
  · rw [if_pos c] at hrd ⊢
    have hr := h.rise
    rcases place hr n with ⟨P, x, D, e, hx⟩ | ⟨P, D, e, hP, hD⟩
    · rw [e] at hr
      have e3 : get s.f0 n = some x := by rw [e]; exact get_mid hx hr
      rw [e3] at hrd ⊢
      rw [if_neg (by rw [hrd]; simp), h.rbegin hk]
      simp only [Option.bind_some]
      by_cases c3 : (step s).f3 = true
      · simp only [if_pos c3]; rfl
      simp only [if_neg c3]
      have hst := h.stepped
      have hs0 : (step s).f0 = P ++ x :: D := e
      rw [if_pos (by decide), hst.rat, hs0, get_mid hx hr, pos_mid hx hr]
      simp only [Option.bind_some, Option.isSome_some, if_true]
      rw [hst.rdrop hs0]
      simp only [Option.bind_some]
      rw [e, del_mid hx hr]
      rfl
    · rw [e] at hr
      have e3 : get s.f0 n = none := by rw [e]; exact get_gap hP hD
      rw [e3] at hrd ⊢
      rw [if_pos (by rw [hrd]; simp), hrd]
      rfl
  · rw [if_neg c] at hrd ⊢
    rw [if_pos (by rw [hrd]; simpa using c), hrd]
theorem SI.rRename (h : SI k s) (hk : k < 4611686018427387904) {a b : List UInt8} (ha : a.length < 4611686018427387904) (hn : b.length < 4611686018427387904) : r05_Store_Rename (cvS s) a b = some ((renS s a b).1, cvS (renS s a b).2) := by
  unfold r05_Store_Rename renS
  rw [rForm_eq a ha]
  simp only [Option.bind_some]
  have h1 : ∀ b', b' = true → r05_Store_Rename_j1 (cvS s) a b b' = some (1, cvS s) := by intro b' hb; subst hb; rfl
  cases cf : formN a with
  | false => rw [if_pos (by rfl), h1 _ rfl, if_neg (by simp)]
  | true =>
    rw [if_neg (by simp), if_pos rfl, rForm_eq b hn]
    simp only [Option.bind_some]
    cases cg : formN b with
    | false =>
      have hl : lookS s b = 1 := by unfold lookS; rw [if_neg (by simp [cg])]
      rw [h1 (!false) rfl, hl, if_neg (by decide)]
    | true =>
      have hlab : lookS s b = lookS s a := by unfold lookS; rw [if_pos cf, if_pos cg]
      unfold r05_Store_Rename_j1
      rw [if_neg (by simp), h.rRead ha]
      simp only [Option.bind_some]
      have hrd := read_e s a
      unfold chgS
      rw [hlab]
      by_cases c : lookS s a = 0
      · rw [if_pos c] at hrd ⊢
        rw [if_pos c]
        have hr := h.rise
        rcases place hr a with ⟨P, x, D, e, hx⟩ | ⟨P, D, e, hP, hD⟩
        · rw [e] at hr
          have hxm : x ∈ s.f0 := by rw [e]; simp
          have e3 : get s.f0 a = some x := by rw [e]; exact get_mid hx hr
          rw [e3] at hrd ⊢
          rw [if_neg (by rw [hrd]; simp), h.rbegin hk]
          simp only [Option.bind_some]
          by_cases c3 : (step s).f3 = true
          · simp only [if_pos c3]; rfl
          simp only [if_neg c3]
          have hst := h.stepped
          have hs0 : (step s).f0 = P ++ x :: D := e
          rw [if_neg (by decide), hst.rat, hs0, get_mid hx hr, pos_mid hx hr]
          simp only [Option.bind_some, Option.isSome_some, if_true]
          have hm : (cvS (step s)).f0 = P.map cv ++ cv x :: D.map cv := by show (step s).f0.map cv = _; rw [hs0]; simp
          rw [at_int rfl (show (cvS (step s)).f0[P.length]? = some (cv x) by rw [hm]; simp)]
          simp only [Option.bind_some]
          unfold r05_Store_Rename_j2
          rw [hst.rat, hs0, get_mid hx hr, pos_mid hx hr]
          simp only [Option.bind_some, Option.isSome_some, if_true]
          rw [hst.rdrop hs0]
          simp only [Option.bind_some]
          have hrd' : Rise (P ++ D) := rise_drop hr
          have hsi : SI (k + 1) { step s with f0 := P ++ D } := by
            have := h.del (n := a)
            unfold delS chgS at this
            rw [if_pos c, e3] at this
            simp only [if_neg c3] at this
            rw [e, del_mid hx hr] at this
            exact this
          rw [hsi.rat, e, del_mid hx hr]
          have hf : ∀ (z : S73), z.f0 = b → (⟨b, (cv x).f1, (cv x).f2⟩ : S62) = cv ⟨b, x.f1, x.f2⟩ := fun _ _ => rfl
          rcases place hrd' b with ⟨P', y, D', e', hy⟩ | ⟨P', D', e', hP', hD'⟩
          · have e1 : ({ step s with f0 := P ++ D } : S68).f0 = P' ++ y :: D' := e'
            have hg := e' ▸ get_mid hy (e' ▸ hrd')
            have hp' := e' ▸ pos_mid hy (e' ▸ hrd')
            rw [show get ({ step s with f0 := P ++ D } : S68).f0 b = some y from hg, show pos ({ step s with f0 := P ++ D } : S68).f0 b = P'.length from hp']
            simp only [Option.bind_some, Option.isSome_some, if_true]
            rw [if_pos (by simp), hsi.rdrop e1]
            simp only [Option.bind_some]
            unfold r05_Store_Rename_j3
            have hmid := rise_mid (e' ▸ hrd' : Rise (P' ++ y :: D'))
            rw [hy] at hmid
            have hsi2 : SI (k + 1) { step s with f0 := P' ++ D' } := by
              have hsub : ∀ z ∈ P' ++ D', z ∈ P ++ D := fun z hz => by
                rw [e']
                rcases List.mem_append.1 hz with hz | hz
                · exact List.mem_append.2 (.inl hz)
                · exact List.mem_append.2 (.inr (List.mem_cons_of_mem _ hz))
              have hl1 : (P ++ D).length = (P' ++ D').length + 1 := by rw [e']; simp; omega
              have hu1 : used (P ++ D) = used (P' ++ D') + y.f1.length := by rw [e']; simp only [used_append, used_cons]; omega
              have q1 : (P ++ D).length ≤ 500 := hsi.len
              have q2 : (used (P ++ D) : Int) ≤ s.f1 := hsi.use
              exact ⟨rise_drop (e' ▸ hrd' : Rise (P' ++ y :: D')), fun z hz => hsi.form z (hsub z hz), by show (P' ++ D').length ≤ 500; omega, hsi.room, by show (used (P' ++ D') : Int) ≤ s.f1; omega, fun z hz => hsi.sure z (hsub z hz), fun z hz => hsi.byt z (hsub z hz), hsi.armed, hsi.ops⟩
            have hput := hsi2.rput (y := ⟨b, x.f1, x.f2⟩) (f := ⟨b, (cv x).f1, (cv x).f2⟩) rfl rfl hmid.1 hmid.2
            have hput' : r05_Store_put ⟨(cvS { step s with f0 := P' ++ D' }).f0, (cvS { step s with f0 := P' ++ D' }).f1, (cvS { step s with f0 := P' ++ D' }).f2, (cvS { step s with f0 := P' ++ D' }).f3, (cvS { step s with f0 := P' ++ D' }).f4⟩ ⟨b, (cv x).f1, (cv x).f2⟩ = _ := hput
            rw [hput']
            simp only [Option.bind_some]
            rw [e', put_mid (x := y) (y := ⟨b, x.f1, x.f2⟩) hy (e' ▸ hrd')]
          · have hg : get ({ step s with f0 := P ++ D } : S68).f0 b = none := by show get (P ++ D) b = none; rw [e']; exact get_gap hP' hD'
            rw [hg]
            simp only [Option.bind_some, Option.isSome_none, Bool.false_eq_true, if_false]
            rw [if_neg (by decide)]
            unfold r05_Store_Rename_j3
            have hput := hsi.rput (y := ⟨b, x.f1, x.f2⟩) (f := ⟨b, (cv x).f1, (cv x).f2⟩) rfl e' hP' hD'
            have hput' : r05_Store_put ⟨(cvS { step s with f0 := P ++ D }).f0, (cvS { step s with f0 := P ++ D }).f1, (cvS { step s with f0 := P ++ D }).f2, (cvS { step s with f0 := P ++ D }).f3, (cvS { step s with f0 := P ++ D }).f4⟩ ⟨b, (cv x).f1, (cv x).f2⟩ = _ := hput
            rw [hput']
            simp only [Option.bind_some]
            rw [e', put_gap (y := ⟨b, x.f1, x.f2⟩) hP' hD']
        · rw [e] at hr
          have e3 : get s.f0 a = none := by rw [e]; exact get_gap hP hD
          rw [e3] at hrd ⊢
          rw [if_pos (by rw [hrd]; simp), hrd]
          rfl
      · rw [if_neg c] at hrd ⊢
        rw [if_pos (by rw [hrd]; simpa using c), hrd]
end
end Go.Proofs.Ytgjhiojkkjaloaa.P
