/- The calls come to the plain functions. -/
import Derived.Test.YtgjhiojkkjaloaaMd
import Derived.Test.YtgjhiojkkjaloaaDe
namespace Go.Proofs.Ytgjhiojkkjaloaa.M
open Go Go.RowKit Go.Proofs.Ytgjhiojkkjaloaa.E
set_option linter.unusedVariables false
set_option linter.unusedSimpArgs false

set_option maxHeartbeats 4000000 in
theorem F_files_change_nil {r : World} {L : List HP} {w : World} (a1 : (List UInt8)) (v2 : Value) {y : (Int)} (hF : files_change_nil a1 = some y) (hS : SH r (L) w) :
    Ret Try.prog 40 #[.pointer none, str a1, v2] w fun v w' => v = .int .i64 y ∧ SH r (L) w' := by
  refine enter Try.func40 rfl Try.ntmps40 [(0, .pointer none), (1, str a1), (2, v2)] rfl (by simp) ?_
  intro ac hA Qf hQ hQn
  unfold files_change_nil at hF
  refine wp_seq_k fun K101 hK101 => ?_
  refine wp_reg ?_
  refine x_assign hA (fun ac hA => ?_) rfl rfl rfl rfl rfl
  refine wpList_nil ?_
  refine hK101 _ _ ?_
  refine wp_seq_k fun K102 hK102 => ?_
  refine wp_seq_k fun K103 hK103 => ?_
  refine wp_reg ?_
  refine x_move hA (fun ac hA => ?_) rfl rfl rfl rfl rfl
  refine x_move hA (fun ac hA => ?_) rfl rfl rfl rfl rfl
  replace hS := SH.optN (obj68) hS
  obtain ⟨y104, h105, hF⟩ := bnd hF
  refine x_call en35 hA (F_files_Store_look (L := L) none a1 none h105 hS) (fun v ac w hR hA => ?_) rfl rfl rfl rfl rfl
  obtain ⟨rfl, hS⟩ := hR
  refine x_assign hA (fun ac hA => ?_) rfl rfl rfl rfl rfl
  refine wpList_nil ?_
  refine hK103 _ _ ?_
  refine wp_seq_k fun K106 hK106 => ?_
  refine wp_reg ?_
  refine x_move hA (fun ac hA => ?_) rfl rfl rfl rfl rfl
  refine x_val hA (r_neI rfl (hA.ev rfl) (hA.ev rfl)) (fun ac hA => ?_) rfl rfl rfl
  refine wpList_nil ?_
  refine hK106 _ _ ?_
  refine c_if hA rfl (fun hb107 => ?_) fun hb107 => ?_
  · replace hF := ift hb107 hF
    refine wp_seq_k fun K108 hK108 => ?_
    refine wp_reg ?_
    refine x_move hA (fun ac hA => ?_) rfl rfl rfl rfl rfl
    refine x_assign hA (fun ac hA => ?_) rfl rfl rfl rfl rfl
    refine wpList_nil ?_
    refine hK108 _ _ ?_
    refine wp_ret ?_
    replace hS := hS.drop 0
    cases hF
    refine hQ _ _ ?_
    refine lv Try.results40 hA rfl ?_
    exact ⟨rfl, hS⟩
  replace hF := iff' hb107 hF
  refine wp_skip ?_
  refine hK102 _ _ ?_
  refine wp_seq_k fun K109 hK109 => ?_
  refine wp_reg ?_
  refine x_move hA (fun ac hA => ?_) rfl rfl rfl rfl rfl
  refine x_move hA (fun ac hA => ?_) rfl rfl rfl rfl rfl
  cases hF

set_option maxHeartbeats 4000000 in
theorem F_files_change_Sync {r : World} {L : List HP} {w : World} (a1 : (List UInt8)) (a70 : S68) (g70 : Nat) (h70 : Nat) {y : (Int × S68)} (hF : files_change_Sync a1 a70 = some y) (hS : SH r (blk g70 24 [.pointer (some ⟨h70, 0, none⟩)] :: obj68 h70 a70 :: L) w) :
    Ret Try.prog 40 #[.pointer (some ⟨h70, 0, none⟩), str a1, .func (.func 43) #[] #[.pointer (some ⟨g70, 0, none⟩)]] w fun v w' => v = .int .i64 y.1 ∧ SH r (blk g70 24 [.pointer (some ⟨h70, 0, none⟩)] :: obj68 h70 y.2 :: L) w' := by
  refine enter Try.func40 rfl Try.ntmps40 [(0, .pointer (some ⟨h70, 0, none⟩)), (1, str a1), (2, .func (.func 43) #[] #[.pointer (some ⟨g70, 0, none⟩)])] rfl (by simp) ?_
  intro ac hA Qf hQ hQn
  unfold files_change_Sync at hF
  replace hS := hS.pk 1
  obtain ⟨A101, n102, c103, hS⟩ := obj68_open hS
  refine wp_seq_k fun K104 hK104 => ?_
  refine wp_reg ?_
  refine x_assign hA (fun ac hA => ?_) rfl rfl rfl rfl rfl
  refine wpList_nil ?_
  refine hK104 _ _ ?_
  refine wp_seq_k fun K105 hK105 => ?_
  refine wp_seq_k fun K106 hK106 => ?_
  refine wp_reg ?_
  refine x_move hA (fun ac hA => ?_) rfl rfl rfl rfl rfl
  refine x_move hA (fun ac hA => ?_) rfl rfl rfl rfl rfl
  replace hS := hS.pk 1
  replace hS := hS.pk 1
  replace hS := obj68_mk (x := a70) hS
  replace hS := SH.optS hS
  obtain ⟨y107, h108, hF⟩ := bnd hF
  refine x_call en35 hA (F_files_Store_look (L := blk g70 24 [.pointer (some ⟨h70, 0, none⟩)] :: L) (some a70) a1 (some ⟨h70, 0, none⟩) h108 hS) (fun v ac w hR hA => ?_) rfl rfl rfl rfl rfl
  obtain ⟨rfl, hS⟩ := hR
  replace hS := SH.unoptP hS
  obtain ⟨A111, n112, c113, hS⟩ := obj68_open hS
  refine x_assign hA (fun ac hA => ?_) rfl rfl rfl rfl rfl
  refine wpList_nil ?_
  refine hK106 _ _ ?_
  refine wp_seq_k fun K114 hK114 => ?_
  refine wp_reg ?_
  refine x_move hA (fun ac hA => ?_) rfl rfl rfl rfl rfl
  refine x_val hA (r_neI rfl (hA.ev rfl) (hA.ev rfl)) (fun ac hA => ?_) rfl rfl rfl
  refine wpList_nil ?_
  refine hK114 _ _ ?_
  refine c_if hA rfl (fun hb115 => ?_) fun hb115 => ?_
  · replace hF := ift hb115 hF
    refine wp_seq_k fun K116 hK116 => ?_
    refine wp_reg ?_
    refine x_move hA (fun ac hA => ?_) rfl rfl rfl rfl rfl
    refine x_assign hA (fun ac hA => ?_) rfl rfl rfl rfl rfl
    refine wpList_nil ?_
    refine hK116 _ _ ?_
    refine wp_ret ?_
    replace hS := hS.pk 1
    replace hS := hS.pk 1
    replace hS := obj68_mk (x := a70) hS
    replace hS := hS.pk 1
    cases hF
    refine hQ _ _ ?_
    refine lv Try.results40 hA rfl ?_
    exact ⟨rfl, hS⟩
  replace hF := iff' hb115 hF
  refine wp_skip ?_
  refine hK105 _ _ ?_
  refine wp_seq_k fun K117 hK117 => ?_
  refine wp_reg ?_
  refine x_move hA (fun ac hA => ?_) rfl rfl rfl rfl rfl
  refine x_move hA (fun ac hA => ?_) rfl rfl rfl rfl rfl
  replace hS := hS.pk 1
  replace hS := hS.pk 1
  obtain ⟨y118, h119, hF⟩ := bnd hF
  refine x_call en36 hA (F_files_Store_find (L := blk g70 24 [.pointer (some ⟨h70, 0, none⟩)] :: L) a70 a1 h70 A111 n112 c113 h119 hS) (fun v ac w hR hA => ?_) rfl rfl rfl rfl rfl
  obtain ⟨rfl, hS⟩ := hR
  refine x_move hA (fun ac hA => ?_) rfl rfl rfl rfl rfl
  refine x_val hA (r_extract rfl (hA.ev rfl) rfl) (fun ac hA => ?_) rfl rfl rfl
  refine x_val hA (r_extract rfl (hA.ev rfl) rfl) (fun ac hA => ?_) rfl rfl rfl
  refine x_assign hA (fun ac hA => ?_) rfl rfl rfl rfl rfl
  refine x_assign hA (fun ac hA => ?_) rfl rfl rfl rfl rfl
  refine wpList_nil ?_
  refine hK117 _ _ ?_
  refine wp_seq_k fun K120 hK120 => ?_
  refine wp_seq_k fun K121 hK121 => ?_
  refine wp_reg ?_
  refine x_move hA (fun ac hA => ?_) rfl rfl rfl rfl rfl
  refine x_val hA (r_not rfl (hA.ev rfl)) (fun ac hA => ?_) rfl rfl rfl
  refine wpList_nil ?_
  refine hK121 _ _ ?_
  refine c_if hA rfl (fun hb122 => ?_) fun hb122 => ?_
  · replace hF := ift hb122 hF
    refine wp_seq_k fun K123 hK123 => ?_
    refine wp_reg ?_
    refine x_assign hA (fun ac hA => ?_) rfl rfl rfl rfl rfl
    refine wpList_nil ?_
    refine hK123 _ _ ?_
    refine wp_ret ?_
    replace hS := hS.pk 1
    replace hS := hS.pk 1
    replace hS := obj68_mk (x := a70) hS
    replace hS := hS.pk 1
    cases hF
    refine hQ _ _ ?_
    refine lv Try.results40 hA rfl ?_
    exact ⟨rfl, hS⟩
  replace hF := iff' hb122 hF
  refine wp_skip ?_
  refine hK120 _ _ ?_
  refine wp_seq_k fun K124 hK124 => ?_
  refine wp_seq_k fun K125 hK125 => ?_
  refine wp_reg ?_
  refine x_move hA (fun ac hA => ?_) rfl rfl rfl rfl rfl
  replace hS := hS.pk 1
  replace hS := hS.pk 1
  replace hS := obj68_mk (x := a70) hS
  obtain ⟨y126, h127, hF⟩ := bnd hF
  refine x_call en37 hA (F_files_Store_begin (L := blk g70 24 [.pointer (some ⟨h70, 0, none⟩)] :: L) a70 h70 h127 hS) (fun v ac w hR hA => ?_) rfl rfl rfl rfl rfl
  obtain ⟨rfl, hS⟩ := hR
  obtain ⟨A128, n129, c130, hS⟩ := obj68_open hS
  refine x_val hA (r_not rfl (hA.ev rfl)) (fun ac hA => ?_) rfl rfl rfl
  refine wpList_nil ?_
  refine hK125 _ _ ?_
  refine c_if hA rfl (fun hb131 => ?_) fun hb131 => ?_
  · replace hF := ift hb131 hF
    refine wp_seq_k fun K132 hK132 => ?_
    refine wp_reg ?_
    refine x_assign hA (fun ac hA => ?_) rfl rfl rfl rfl rfl
    refine wpList_nil ?_
    refine hK132 _ _ ?_
    refine wp_ret ?_
    replace hS := hS.pk 1
    replace hS := hS.pk 1
    replace hS := obj68_mk (x := y126.2) hS
    replace hS := hS.pk 1
    cases hF
    refine hQ _ _ ?_
    refine lv Try.results40 hA rfl ?_
    exact ⟨rfl, hS⟩
  replace hF := iff' hb131 hF
  refine wp_skip ?_
  refine hK124 _ _ ?_
  refine wp_seq_k fun K133 hK133 => ?_
  refine wp_reg ?_
  refine x_move hA (fun ac hA => ?_) rfl rfl rfl rfl rfl
  refine x_move hA (fun ac hA => ?_) rfl rfl rfl rfl rfl
  replace hS := hS.pk 1
  replace hS := hS.pk 1
  replace hS := obj68_mk (x := y126.2) hS
  replace hS := hS.pk 1
  obtain ⟨y134, h135, hF⟩ := bnd hF
  refine x_callv (vs := #[.int .i64 y118.1]) en43 hA (F_files_Store_Sync_1 (L := L) y118.1 y126.2 g70 h70 h135 hS) (fun v ac w hR hA => ?_) rfl rfl rfl rfl rfl rfl rfl
  obtain ⟨rfl, hS⟩ := hR
  replace hS := hS.pk 1
  obtain ⟨A136, n137, c138, hS⟩ := obj68_open hS
  refine wpList_nil ?_
  refine hK133 _ _ ?_
  refine wp_seq_k fun K139 hK139 => ?_
  refine wp_reg ?_
  refine x_assign hA (fun ac hA => ?_) rfl rfl rfl rfl rfl
  refine wpList_nil ?_
  refine hK139 _ _ ?_
  refine wp_ret ?_
  replace hS := hS.pk 1
  replace hS := hS.pk 1
  replace hS := obj68_mk (x := y134) hS
  replace hS := hS.pk 1
  cases hF
  refine hQ _ _ ?_
  refine lv Try.results40 hA rfl ?_
  exact ⟨rfl, hS⟩

set_option maxHeartbeats 4000000 in
theorem F_files_change_Delete {r : World} {L : List HP} {w : World} (a1 : (List UInt8)) (a70 : S68) (g70 : Nat) (h70 : Nat) {y : (Int × S68)} (hF : files_change_Delete a1 a70 = some y) (hS : SH r (blk g70 24 [.pointer (some ⟨h70, 0, none⟩)] :: obj68 h70 a70 :: L) w) :
    Ret Try.prog 40 #[.pointer (some ⟨h70, 0, none⟩), str a1, .func (.func 41) #[] #[.pointer (some ⟨g70, 0, none⟩)]] w fun v w' => v = .int .i64 y.1 ∧ SH r (blk g70 24 [.pointer (some ⟨h70, 0, none⟩)] :: obj68 h70 y.2 :: L) w' := by
  refine enter Try.func40 rfl Try.ntmps40 [(0, .pointer (some ⟨h70, 0, none⟩)), (1, str a1), (2, .func (.func 41) #[] #[.pointer (some ⟨g70, 0, none⟩)])] rfl (by simp) ?_
  intro ac hA Qf hQ hQn
  unfold files_change_Delete at hF
  replace hS := hS.pk 1
  obtain ⟨A101, n102, c103, hS⟩ := obj68_open hS
  refine wp_seq_k fun K104 hK104 => ?_
  refine wp_reg ?_
  refine x_assign hA (fun ac hA => ?_) rfl rfl rfl rfl rfl
  refine wpList_nil ?_
  refine hK104 _ _ ?_
  refine wp_seq_k fun K105 hK105 => ?_
  refine wp_seq_k fun K106 hK106 => ?_
  refine wp_reg ?_
  refine x_move hA (fun ac hA => ?_) rfl rfl rfl rfl rfl
  refine x_move hA (fun ac hA => ?_) rfl rfl rfl rfl rfl
  replace hS := hS.pk 1
  replace hS := hS.pk 1
  replace hS := obj68_mk (x := a70) hS
  replace hS := SH.optS hS
  obtain ⟨y107, h108, hF⟩ := bnd hF
  refine x_call en35 hA (F_files_Store_look (L := blk g70 24 [.pointer (some ⟨h70, 0, none⟩)] :: L) (some a70) a1 (some ⟨h70, 0, none⟩) h108 hS) (fun v ac w hR hA => ?_) rfl rfl rfl rfl rfl
  obtain ⟨rfl, hS⟩ := hR
  replace hS := SH.unoptP hS
  obtain ⟨A111, n112, c113, hS⟩ := obj68_open hS
  refine x_assign hA (fun ac hA => ?_) rfl rfl rfl rfl rfl
  refine wpList_nil ?_
  refine hK106 _ _ ?_
  refine wp_seq_k fun K114 hK114 => ?_
  refine wp_reg ?_
  refine x_move hA (fun ac hA => ?_) rfl rfl rfl rfl rfl
  refine x_val hA (r_neI rfl (hA.ev rfl) (hA.ev rfl)) (fun ac hA => ?_) rfl rfl rfl
  refine wpList_nil ?_
  refine hK114 _ _ ?_
  refine c_if hA rfl (fun hb115 => ?_) fun hb115 => ?_
  · replace hF := ift hb115 hF
    refine wp_seq_k fun K116 hK116 => ?_
    refine wp_reg ?_
    refine x_move hA (fun ac hA => ?_) rfl rfl rfl rfl rfl
    refine x_assign hA (fun ac hA => ?_) rfl rfl rfl rfl rfl
    refine wpList_nil ?_
    refine hK116 _ _ ?_
    refine wp_ret ?_
    replace hS := hS.pk 1
    replace hS := hS.pk 1
    replace hS := obj68_mk (x := a70) hS
    replace hS := hS.pk 1
    cases hF
    refine hQ _ _ ?_
    refine lv Try.results40 hA rfl ?_
    exact ⟨rfl, hS⟩
  replace hF := iff' hb115 hF
  refine wp_skip ?_
  refine hK105 _ _ ?_
  refine wp_seq_k fun K117 hK117 => ?_
  refine wp_reg ?_
  refine x_move hA (fun ac hA => ?_) rfl rfl rfl rfl rfl
  refine x_move hA (fun ac hA => ?_) rfl rfl rfl rfl rfl
  replace hS := hS.pk 1
  replace hS := hS.pk 1
  obtain ⟨y118, h119, hF⟩ := bnd hF
  refine x_call en36 hA (F_files_Store_find (L := blk g70 24 [.pointer (some ⟨h70, 0, none⟩)] :: L) a70 a1 h70 A111 n112 c113 h119 hS) (fun v ac w hR hA => ?_) rfl rfl rfl rfl rfl
  obtain ⟨rfl, hS⟩ := hR
  refine x_move hA (fun ac hA => ?_) rfl rfl rfl rfl rfl
  refine x_val hA (r_extract rfl (hA.ev rfl) rfl) (fun ac hA => ?_) rfl rfl rfl
  refine x_val hA (r_extract rfl (hA.ev rfl) rfl) (fun ac hA => ?_) rfl rfl rfl
  refine x_assign hA (fun ac hA => ?_) rfl rfl rfl rfl rfl
  refine x_assign hA (fun ac hA => ?_) rfl rfl rfl rfl rfl
  refine wpList_nil ?_
  refine hK117 _ _ ?_
  refine wp_seq_k fun K120 hK120 => ?_
  refine wp_seq_k fun K121 hK121 => ?_
  refine wp_reg ?_
  refine x_move hA (fun ac hA => ?_) rfl rfl rfl rfl rfl
  refine x_val hA (r_not rfl (hA.ev rfl)) (fun ac hA => ?_) rfl rfl rfl
  refine wpList_nil ?_
  refine hK121 _ _ ?_
  refine c_if hA rfl (fun hb122 => ?_) fun hb122 => ?_
  · replace hF := ift hb122 hF
    refine wp_seq_k fun K123 hK123 => ?_
    refine wp_reg ?_
    refine x_assign hA (fun ac hA => ?_) rfl rfl rfl rfl rfl
    refine wpList_nil ?_
    refine hK123 _ _ ?_
    refine wp_ret ?_
    replace hS := hS.pk 1
    replace hS := hS.pk 1
    replace hS := obj68_mk (x := a70) hS
    replace hS := hS.pk 1
    cases hF
    refine hQ _ _ ?_
    refine lv Try.results40 hA rfl ?_
    exact ⟨rfl, hS⟩
  replace hF := iff' hb122 hF
  refine wp_skip ?_
  refine hK120 _ _ ?_
  refine wp_seq_k fun K124 hK124 => ?_
  refine wp_seq_k fun K125 hK125 => ?_
  refine wp_reg ?_
  refine x_move hA (fun ac hA => ?_) rfl rfl rfl rfl rfl
  replace hS := hS.pk 1
  replace hS := hS.pk 1
  replace hS := obj68_mk (x := a70) hS
  obtain ⟨y126, h127, hF⟩ := bnd hF
  refine x_call en37 hA (F_files_Store_begin (L := blk g70 24 [.pointer (some ⟨h70, 0, none⟩)] :: L) a70 h70 h127 hS) (fun v ac w hR hA => ?_) rfl rfl rfl rfl rfl
  obtain ⟨rfl, hS⟩ := hR
  obtain ⟨A128, n129, c130, hS⟩ := obj68_open hS
  refine x_val hA (r_not rfl (hA.ev rfl)) (fun ac hA => ?_) rfl rfl rfl
  refine wpList_nil ?_
  refine hK125 _ _ ?_
  refine c_if hA rfl (fun hb131 => ?_) fun hb131 => ?_
  · replace hF := ift hb131 hF
    refine wp_seq_k fun K132 hK132 => ?_
    refine wp_reg ?_
    refine x_assign hA (fun ac hA => ?_) rfl rfl rfl rfl rfl
    refine wpList_nil ?_
    refine hK132 _ _ ?_
    refine wp_ret ?_
    replace hS := hS.pk 1
    replace hS := hS.pk 1
    replace hS := obj68_mk (x := y126.2) hS
    replace hS := hS.pk 1
    cases hF
    refine hQ _ _ ?_
    refine lv Try.results40 hA rfl ?_
    exact ⟨rfl, hS⟩
  replace hF := iff' hb131 hF
  refine wp_skip ?_
  refine hK124 _ _ ?_
  refine wp_seq_k fun K133 hK133 => ?_
  refine wp_reg ?_
  refine x_move hA (fun ac hA => ?_) rfl rfl rfl rfl rfl
  refine x_move hA (fun ac hA => ?_) rfl rfl rfl rfl rfl
  replace hS := hS.pk 1
  replace hS := hS.pk 1
  replace hS := obj68_mk (x := y126.2) hS
  replace hS := hS.pk 1
  obtain ⟨y134, h135, hF⟩ := bnd hF
  refine x_callv (vs := #[.int .i64 y118.1]) en41 hA (F_files_Store_Delete_1 (L := L) y118.1 y126.2 g70 h70 h135 hS) (fun v ac w hR hA => ?_) rfl rfl rfl rfl rfl rfl rfl
  obtain ⟨rfl, hS⟩ := hR
  replace hS := hS.pk 1
  obtain ⟨A136, n137, c138, hS⟩ := obj68_open hS
  refine wpList_nil ?_
  refine hK133 _ _ ?_
  refine wp_seq_k fun K139 hK139 => ?_
  refine wp_reg ?_
  refine x_assign hA (fun ac hA => ?_) rfl rfl rfl rfl rfl
  refine wpList_nil ?_
  refine hK139 _ _ ?_
  refine wp_ret ?_
  replace hS := hS.pk 1
  replace hS := hS.pk 1
  replace hS := obj68_mk (x := y134) hS
  replace hS := hS.pk 1
  cases hF
  refine hQ _ _ ?_
  refine lv Try.results40 hA rfl ?_
  exact ⟨rfl, hS⟩

set_option maxHeartbeats 4000000 in
theorem F_files_change_Rename {r : World} {L : List HP} {w : World} (a1 : (List UInt8)) (a70 : S68) (a71 : (List UInt8)) (g70 : Nat) (h70 : Nat) (g71 : Nat) {y : (Int × S68 × (List UInt8))} (hF : files_change_Rename a1 a70 a71 = some y) (hS : SH r (blk g70 24 [.pointer (some ⟨h70, 0, none⟩)] :: obj68 h70 a70 :: obj9 g71 a71 :: L) w) :
    Ret Try.prog 40 #[.pointer (some ⟨h70, 0, none⟩), str a1, .func (.func 44) #[] #[.pointer (some ⟨g70, 0, none⟩), .pointer (some ⟨g71, 0, none⟩)]] w fun v w' => v = .int .i64 y.1 ∧ SH r (blk g70 24 [.pointer (some ⟨h70, 0, none⟩)] :: obj68 h70 y.2.1 :: obj9 g71 y.2.2 :: L) w' := by
  refine enter Try.func40 rfl Try.ntmps40 [(0, .pointer (some ⟨h70, 0, none⟩)), (1, str a1), (2, .func (.func 44) #[] #[.pointer (some ⟨g70, 0, none⟩), .pointer (some ⟨g71, 0, none⟩)])] rfl (by simp) ?_
  intro ac hA Qf hQ hQn
  unfold files_change_Rename at hF
  replace hS := hS.pk 1
  obtain ⟨A101, n102, c103, hS⟩ := obj68_open hS
  replace hS := hS.pk 3
  replace hS := obj9_open hS
  refine wp_seq_k fun K104 hK104 => ?_
  refine wp_reg ?_
  refine x_assign hA (fun ac hA => ?_) rfl rfl rfl rfl rfl
  refine wpList_nil ?_
  refine hK104 _ _ ?_
  refine wp_seq_k fun K105 hK105 => ?_
  refine wp_seq_k fun K106 hK106 => ?_
  refine wp_reg ?_
  refine x_move hA (fun ac hA => ?_) rfl rfl rfl rfl rfl
  refine x_move hA (fun ac hA => ?_) rfl rfl rfl rfl rfl
  replace hS := hS.pk 2
  replace hS := hS.pk 2
  replace hS := obj68_mk (x := a70) hS
  replace hS := SH.optS hS
  obtain ⟨y107, h108, hF⟩ := bnd hF
  refine x_call en35 hA (F_files_Store_look (L := blk g71 9 [str a71] :: blk g70 24 [.pointer (some ⟨h70, 0, none⟩)] :: L) (some a70) a1 (some ⟨h70, 0, none⟩) h108 hS) (fun v ac w hR hA => ?_) rfl rfl rfl rfl rfl
  obtain ⟨rfl, hS⟩ := hR
  replace hS := SH.unoptP hS
  obtain ⟨A111, n112, c113, hS⟩ := obj68_open hS
  refine x_assign hA (fun ac hA => ?_) rfl rfl rfl rfl rfl
  refine wpList_nil ?_
  refine hK106 _ _ ?_
  refine wp_seq_k fun K114 hK114 => ?_
  refine wp_reg ?_
  refine x_move hA (fun ac hA => ?_) rfl rfl rfl rfl rfl
  refine x_val hA (r_neI rfl (hA.ev rfl) (hA.ev rfl)) (fun ac hA => ?_) rfl rfl rfl
  refine wpList_nil ?_
  refine hK114 _ _ ?_
  refine c_if hA rfl (fun hb115 => ?_) fun hb115 => ?_
  · replace hF := ift hb115 hF
    refine wp_seq_k fun K116 hK116 => ?_
    refine wp_reg ?_
    refine x_move hA (fun ac hA => ?_) rfl rfl rfl rfl rfl
    refine x_assign hA (fun ac hA => ?_) rfl rfl rfl rfl rfl
    refine wpList_nil ?_
    refine hK116 _ _ ?_
    refine wp_ret ?_
    replace hS := hS.pk 1
    replace hS := hS.pk 1
    replace hS := obj68_mk (x := a70) hS
    replace hS := hS.pk 1
    replace hS := obj9_mk (x := a71) hS
    replace hS := hS.pk 1
    replace hS := hS.pk 2
    cases hF
    refine hQ _ _ ?_
    refine lv Try.results40 hA rfl ?_
    exact ⟨rfl, hS⟩
  replace hF := iff' hb115 hF
  refine wp_skip ?_
  refine hK105 _ _ ?_
  refine wp_seq_k fun K117 hK117 => ?_
  refine wp_reg ?_
  refine x_move hA (fun ac hA => ?_) rfl rfl rfl rfl rfl
  refine x_move hA (fun ac hA => ?_) rfl rfl rfl rfl rfl
  replace hS := hS.pk 1
  replace hS := hS.pk 1
  obtain ⟨y118, h119, hF⟩ := bnd hF
  refine x_call en36 hA (F_files_Store_find (L := blk g71 9 [str a71] :: blk g70 24 [.pointer (some ⟨h70, 0, none⟩)] :: L) a70 a1 h70 A111 n112 c113 h119 hS) (fun v ac w hR hA => ?_) rfl rfl rfl rfl rfl
  obtain ⟨rfl, hS⟩ := hR
  refine x_move hA (fun ac hA => ?_) rfl rfl rfl rfl rfl
  refine x_val hA (r_extract rfl (hA.ev rfl) rfl) (fun ac hA => ?_) rfl rfl rfl
  refine x_val hA (r_extract rfl (hA.ev rfl) rfl) (fun ac hA => ?_) rfl rfl rfl
  refine x_assign hA (fun ac hA => ?_) rfl rfl rfl rfl rfl
  refine x_assign hA (fun ac hA => ?_) rfl rfl rfl rfl rfl
  refine wpList_nil ?_
  refine hK117 _ _ ?_
  refine wp_seq_k fun K120 hK120 => ?_
  refine wp_seq_k fun K121 hK121 => ?_
  refine wp_reg ?_
  refine x_move hA (fun ac hA => ?_) rfl rfl rfl rfl rfl
  refine x_val hA (r_not rfl (hA.ev rfl)) (fun ac hA => ?_) rfl rfl rfl
  refine wpList_nil ?_
  refine hK121 _ _ ?_
  refine c_if hA rfl (fun hb122 => ?_) fun hb122 => ?_
  · replace hF := ift hb122 hF
    refine wp_seq_k fun K123 hK123 => ?_
    refine wp_reg ?_
    refine x_assign hA (fun ac hA => ?_) rfl rfl rfl rfl rfl
    refine wpList_nil ?_
    refine hK123 _ _ ?_
    refine wp_ret ?_
    replace hS := hS.pk 1
    replace hS := hS.pk 1
    replace hS := obj68_mk (x := a70) hS
    replace hS := hS.pk 1
    replace hS := obj9_mk (x := a71) hS
    replace hS := hS.pk 1
    replace hS := hS.pk 2
    cases hF
    refine hQ _ _ ?_
    refine lv Try.results40 hA rfl ?_
    exact ⟨rfl, hS⟩
  replace hF := iff' hb122 hF
  refine wp_skip ?_
  refine hK120 _ _ ?_
  refine wp_seq_k fun K124 hK124 => ?_
  refine wp_seq_k fun K125 hK125 => ?_
  refine wp_reg ?_
  refine x_move hA (fun ac hA => ?_) rfl rfl rfl rfl rfl
  replace hS := hS.pk 1
  replace hS := hS.pk 1
  replace hS := obj68_mk (x := a70) hS
  obtain ⟨y126, h127, hF⟩ := bnd hF
  refine x_call en37 hA (F_files_Store_begin (L := blk g71 9 [str a71] :: blk g70 24 [.pointer (some ⟨h70, 0, none⟩)] :: L) a70 h70 h127 hS) (fun v ac w hR hA => ?_) rfl rfl rfl rfl rfl
  obtain ⟨rfl, hS⟩ := hR
  obtain ⟨A128, n129, c130, hS⟩ := obj68_open hS
  refine x_val hA (r_not rfl (hA.ev rfl)) (fun ac hA => ?_) rfl rfl rfl
  refine wpList_nil ?_
  refine hK125 _ _ ?_
  refine c_if hA rfl (fun hb131 => ?_) fun hb131 => ?_
  · replace hF := ift hb131 hF
    refine wp_seq_k fun K132 hK132 => ?_
    refine wp_reg ?_
    refine x_assign hA (fun ac hA => ?_) rfl rfl rfl rfl rfl
    refine wpList_nil ?_
    refine hK132 _ _ ?_
    refine wp_ret ?_
    replace hS := hS.pk 1
    replace hS := hS.pk 1
    replace hS := obj68_mk (x := y126.2) hS
    replace hS := hS.pk 1
    replace hS := obj9_mk (x := a71) hS
    replace hS := hS.pk 1
    replace hS := hS.pk 2
    cases hF
    refine hQ _ _ ?_
    refine lv Try.results40 hA rfl ?_
    exact ⟨rfl, hS⟩
  replace hF := iff' hb131 hF
  refine wp_skip ?_
  refine hK124 _ _ ?_
  refine wp_seq_k fun K133 hK133 => ?_
  refine wp_reg ?_
  refine x_move hA (fun ac hA => ?_) rfl rfl rfl rfl rfl
  refine x_move hA (fun ac hA => ?_) rfl rfl rfl rfl rfl
  replace hS := hS.pk 1
  replace hS := hS.pk 1
  replace hS := obj68_mk (x := y126.2) hS
  replace hS := hS.pk 1
  replace hS := obj9_mk (x := a71) hS
  replace hS := hS.pk 1
  replace hS := hS.pk 2
  obtain ⟨y134, h135, hF⟩ := bnd hF
  refine x_callv (vs := #[.int .i64 y118.1]) en44 hA (F_files_Store_Rename_1 (L := L) y118.1 y126.2 a71 g70 h70 g71 h135 hS) (fun v ac w hR hA => ?_) rfl rfl rfl rfl rfl rfl rfl
  obtain ⟨rfl, hS⟩ := hR
  replace hS := hS.pk 1
  obtain ⟨A136, n137, c138, hS⟩ := obj68_open hS
  replace hS := hS.pk 3
  replace hS := obj9_open hS
  refine wpList_nil ?_
  refine hK133 _ _ ?_
  refine wp_seq_k fun K139 hK139 => ?_
  refine wp_reg ?_
  refine x_assign hA (fun ac hA => ?_) rfl rfl rfl rfl rfl
  refine wpList_nil ?_
  refine hK139 _ _ ?_
  refine wp_ret ?_
  replace hS := hS.pk 2
  replace hS := hS.pk 2
  replace hS := obj68_mk (x := y134.1) hS
  replace hS := hS.pk 1
  replace hS := obj9_mk (x := y134.2) hS
  replace hS := hS.pk 1
  replace hS := hS.pk 2
  cases hF
  refine hQ _ _ ?_
  refine lv Try.results40 hA rfl ?_
  exact ⟨rfl, hS⟩

set_option maxHeartbeats 4000000 in
theorem F_files_Store_Sync {r : World} {L : List HP} {w : World} (a0 : (Option S68)) (a1 : (List UInt8)) (p0 : Option Addr) {y : (Int × (Option S68))} (hF : files_Store_Sync a0 a1 = some y) (hS : SH r (optP (obj68) p0 a0 :: L) w) :
    Ret Try.prog 17 #[.pointer p0, str a1] w fun v w' => v = .int .i64 y.1 ∧ SH r (optP (obj68) p0 y.2 :: L) w' := by
  refine enter Try.func17 rfl Try.ntmps17 [(0, .pointer p0), (1, str a1)] rfl (by simp) ?_
  intro ac hA Qf hQ hQn
  unfold files_Store_Sync at hF
  cases a0 with
  | none =>
    have hU := SH.unoptN hS
    clear hS
    obtain ⟨rfl, hS⟩ := hU
    refine wp_seq_k fun K103 hK103 => ?_
    refine wp_reg ?_
    refine x_box hA hS (fun g104 ac w hS hA => ?_) rfl rfl rfl rfl rfl rfl
    refine x_assign hA (fun ac hA => ?_) rfl rfl rfl rfl rfl
    refine wpList_nil ?_
    refine hK103 _ _ ?_
    refine wp_seq_k fun K105 hK105 => ?_
    refine wp_reg ?_
    refine x_ld Try.underlying24 (hS.cell 0 rfl 0 _ rfl) hA (fun ac hA => ?_) rfl rfl rfl rfl rfl rfl
    refine x_move hA (fun ac hA => ?_) rfl rfl rfl rfl rfl
    refine x_val hA (r_makeFunc rfl (mapev (vals := #[]) hA rfl) (mapev (vals := #[.pointer (some ⟨g104, 0, none⟩)]) hA rfl)) (fun ac hA => ?_) rfl rfl rfl
    obtain ⟨y106, h107, hF⟩ := bnd hF
    refine x_call en40 hA (F_files_change_nil (L := blk g104 24 [.pointer none] :: L) a1 (.func (.func 43) #[] #[.pointer (some ⟨g104, 0, none⟩)]) h107 hS) (fun v ac w hR hA => ?_) rfl rfl rfl rfl rfl
    obtain ⟨rfl, hS⟩ := hR
    refine x_assign hA (fun ac hA => ?_) rfl rfl rfl rfl rfl
    refine wpList_nil ?_
    refine hK105 _ _ ?_
    refine wp_ret ?_
    replace hS := SH.optN (obj68) hS
    replace hS := hS.drop 1
    cases hF
    refine hQ _ _ ?_
    refine lv Try.results17 hA rfl ?_
    exact ⟨rfl, hS⟩
  | some x101 =>
    have hU := SH.unoptS hS
    clear hS
    obtain ⟨g102, rfl, hS⟩ := hU
    obtain ⟨A108, n109, c110, hS⟩ := obj68_open hS
    refine wp_seq_k fun K111 hK111 => ?_
    refine wp_reg ?_
    refine x_box hA hS (fun g112 ac w hS hA => ?_) rfl rfl rfl rfl rfl rfl
    refine x_assign hA (fun ac hA => ?_) rfl rfl rfl rfl rfl
    refine wpList_nil ?_
    refine hK111 _ _ ?_
    refine wp_seq_k fun K113 hK113 => ?_
    refine wp_reg ?_
    refine x_ld Try.underlying24 (hS.cell 0 rfl 0 _ rfl) hA (fun ac hA => ?_) rfl rfl rfl rfl rfl rfl
    refine x_move hA (fun ac hA => ?_) rfl rfl rfl rfl rfl
    refine x_val hA (r_makeFunc rfl (mapev (vals := #[]) hA rfl) (mapev (vals := #[.pointer (some ⟨g112, 0, none⟩)]) hA rfl)) (fun ac hA => ?_) rfl rfl rfl
    replace hS := hS.pk 2
    replace hS := hS.pk 2
    replace hS := obj68_mk (x := x101) hS
    replace hS := hS.pk 1
    obtain ⟨y114, h115, hF⟩ := bnd hF
    refine x_call en40 hA (F_files_change_Sync (L := L) a1 x101 g112 g102 h115 hS) (fun v ac w hR hA => ?_) rfl rfl rfl rfl rfl
    obtain ⟨rfl, hS⟩ := hR
    replace hS := hS.pk 1
    obtain ⟨A116, n117, c118, hS⟩ := obj68_open hS
    refine x_assign hA (fun ac hA => ?_) rfl rfl rfl rfl rfl
    refine wpList_nil ?_
    refine hK113 _ _ ?_
    refine wp_ret ?_
    replace hS := hS.pk 1
    replace hS := hS.pk 1
    replace hS := obj68_mk (x := y114.2) hS
    replace hS := SH.optS hS
    replace hS := hS.drop 1
    cases hF
    refine hQ _ _ ?_
    refine lv Try.results17 hA rfl ?_
    exact ⟨rfl, hS⟩

set_option maxHeartbeats 4000000 in
theorem F_files_Store_Delete {r : World} {L : List HP} {w : World} (a0 : (Option S68)) (a1 : (List UInt8)) (p0 : Option Addr) {y : (Int × (Option S68))} (hF : files_Store_Delete a0 a1 = some y) (hS : SH r (optP (obj68) p0 a0 :: L) w) :
    Ret Try.prog 15 #[.pointer p0, str a1] w fun v w' => v = .int .i64 y.1 ∧ SH r (optP (obj68) p0 y.2 :: L) w' := by
  refine enter Try.func15 rfl Try.ntmps15 [(0, .pointer p0), (1, str a1)] rfl (by simp) ?_
  intro ac hA Qf hQ hQn
  unfold files_Store_Delete at hF
  cases a0 with
  | none =>
    have hU := SH.unoptN hS
    clear hS
    obtain ⟨rfl, hS⟩ := hU
    refine wp_seq_k fun K103 hK103 => ?_
    refine wp_reg ?_
    refine x_box hA hS (fun g104 ac w hS hA => ?_) rfl rfl rfl rfl rfl rfl
    refine x_assign hA (fun ac hA => ?_) rfl rfl rfl rfl rfl
    refine wpList_nil ?_
    refine hK103 _ _ ?_
    refine wp_seq_k fun K105 hK105 => ?_
    refine wp_reg ?_
    refine x_ld Try.underlying24 (hS.cell 0 rfl 0 _ rfl) hA (fun ac hA => ?_) rfl rfl rfl rfl rfl rfl
    refine x_move hA (fun ac hA => ?_) rfl rfl rfl rfl rfl
    refine x_val hA (r_makeFunc rfl (mapev (vals := #[]) hA rfl) (mapev (vals := #[.pointer (some ⟨g104, 0, none⟩)]) hA rfl)) (fun ac hA => ?_) rfl rfl rfl
    obtain ⟨y106, h107, hF⟩ := bnd hF
    refine x_call en40 hA (F_files_change_nil (L := blk g104 24 [.pointer none] :: L) a1 (.func (.func 41) #[] #[.pointer (some ⟨g104, 0, none⟩)]) h107 hS) (fun v ac w hR hA => ?_) rfl rfl rfl rfl rfl
    obtain ⟨rfl, hS⟩ := hR
    refine x_assign hA (fun ac hA => ?_) rfl rfl rfl rfl rfl
    refine wpList_nil ?_
    refine hK105 _ _ ?_
    refine wp_ret ?_
    replace hS := SH.optN (obj68) hS
    replace hS := hS.drop 1
    cases hF
    refine hQ _ _ ?_
    refine lv Try.results15 hA rfl ?_
    exact ⟨rfl, hS⟩
  | some x101 =>
    have hU := SH.unoptS hS
    clear hS
    obtain ⟨g102, rfl, hS⟩ := hU
    obtain ⟨A108, n109, c110, hS⟩ := obj68_open hS
    refine wp_seq_k fun K111 hK111 => ?_
    refine wp_reg ?_
    refine x_box hA hS (fun g112 ac w hS hA => ?_) rfl rfl rfl rfl rfl rfl
    refine x_assign hA (fun ac hA => ?_) rfl rfl rfl rfl rfl
    refine wpList_nil ?_
    refine hK111 _ _ ?_
    refine wp_seq_k fun K113 hK113 => ?_
    refine wp_reg ?_
    refine x_ld Try.underlying24 (hS.cell 0 rfl 0 _ rfl) hA (fun ac hA => ?_) rfl rfl rfl rfl rfl rfl
    refine x_move hA (fun ac hA => ?_) rfl rfl rfl rfl rfl
    refine x_val hA (r_makeFunc rfl (mapev (vals := #[]) hA rfl) (mapev (vals := #[.pointer (some ⟨g112, 0, none⟩)]) hA rfl)) (fun ac hA => ?_) rfl rfl rfl
    replace hS := hS.pk 2
    replace hS := hS.pk 2
    replace hS := obj68_mk (x := x101) hS
    replace hS := hS.pk 1
    obtain ⟨y114, h115, hF⟩ := bnd hF
    refine x_call en40 hA (F_files_change_Delete (L := L) a1 x101 g112 g102 h115 hS) (fun v ac w hR hA => ?_) rfl rfl rfl rfl rfl
    obtain ⟨rfl, hS⟩ := hR
    replace hS := hS.pk 1
    obtain ⟨A116, n117, c118, hS⟩ := obj68_open hS
    refine x_assign hA (fun ac hA => ?_) rfl rfl rfl rfl rfl
    refine wpList_nil ?_
    refine hK113 _ _ ?_
    refine wp_ret ?_
    replace hS := hS.pk 1
    replace hS := hS.pk 1
    replace hS := obj68_mk (x := y114.2) hS
    replace hS := SH.optS hS
    replace hS := hS.drop 1
    cases hF
    refine hQ _ _ ?_
    refine lv Try.results15 hA rfl ?_
    exact ⟨rfl, hS⟩

set_option maxHeartbeats 4000000 in
theorem F_files_Store_Rename {r : World} {L : List HP} {w : World} (a0 : (Option S68)) (a1 : (List UInt8)) (a2 : (List UInt8)) (p0 : Option Addr) {y : (Int × (Option S68))} (hF : files_Store_Rename a0 a1 a2 = some y) (hS : SH r (optP (obj68) p0 a0 :: L) w) :
    Ret Try.prog 18 #[.pointer p0, str a1, str a2] w fun v w' => v = .int .i64 y.1 ∧ SH r (optP (obj68) p0 y.2 :: L) w' := by
  refine enter Try.func18 rfl Try.ntmps18 [(0, .pointer p0), (1, str a1), (2, str a2)] rfl (by simp) ?_
  intro ac hA Qf hQ hQn
  unfold files_Store_Rename at hF
  cases a0 with
  | none =>
    have hU := SH.unoptN hS
    clear hS
    obtain ⟨rfl, hS⟩ := hU
    refine wp_seq_k fun K103 hK103 => ?_
    refine wp_reg ?_
    refine x_box hA hS (fun g104 ac w hS hA => ?_) rfl rfl rfl rfl rfl rfl
    refine x_box hA hS (fun g105 ac w hS hA => ?_) rfl rfl rfl rfl rfl rfl
    refine x_assign hA (fun ac hA => ?_) rfl rfl rfl rfl rfl
    refine wpList_nil ?_
    refine hK103 _ _ ?_
    refine wp_seq_k fun K106 hK106 => ?_
    refine wp_seq_k fun K107 hK107 => ?_
    refine wp_reg ?_
    refine x_ld Try.underlying24 (hS.cell 1 rfl 0 _ rfl) hA (fun ac hA => ?_) rfl rfl rfl rfl rfl rfl
    refine x_val (v := .bool false) hA (r_neNilP (p := none) Try.underlying24 rfl (hA.ev rfl) (hA.ev rfl)) (fun ac hA => ?_) rfl rfl rfl
    refine x_move hA (fun ac hA => ?_) rfl rfl rfl rfl rfl
    refine x_off rfl hA (fun ac hA => ?_) rfl rfl rfl rfl rfl
    refine x_off rfl hA (fun ac hA => ?_) rfl rfl rfl rfl rfl
    refine x_off rfl hA (fun ac hA => ?_) rfl rfl rfl rfl rfl
    refine x_pickf rfl hA (fun ac hA => ?_) rfl rfl rfl rfl rfl rfl
    refine wpList_nil ?_
    refine hK107 _ _ ?_
    refine c_f (b := false) rfl hA ?_ rfl
    refine wp_skip ?_
    refine hK106 _ _ ?_
    refine wp_seq_k fun K108 hK108 => ?_
    refine wp_seq_k fun K109 hK109 => ?_
    refine wp_reg ?_
    refine x_ld Try.underlying24 (hS.cell 1 rfl 0 _ rfl) hA (fun ac hA => ?_) rfl rfl rfl rfl rfl rfl
    refine x_ld Try.underlying9 (hS.cell 0 rfl 0 _ rfl) hA (fun ac hA => ?_) rfl rfl rfl rfl rfl rfl
    replace hS := SH.optN (obj68) hS
    obtain ⟨y110, h111, hF⟩ := bnd hF
    refine x_call en35 hA (F_files_Store_look (L := blk g105 9 [str a2] :: blk g104 24 [.pointer none] :: L) none a2 none h111 hS) (fun v ac w hR hA => ?_) rfl rfl rfl rfl rfl
    obtain ⟨rfl, hS⟩ := hR
    refine x_assign hA (fun ac hA => ?_) rfl rfl rfl rfl rfl
    refine wpList_nil ?_
    refine hK109 _ _ ?_
    refine wp_seq_k fun K112 hK112 => ?_
    refine wp_reg ?_
    refine x_move hA (fun ac hA => ?_) rfl rfl rfl rfl rfl
    refine x_val hA (r_neI rfl (hA.ev rfl) (hA.ev rfl)) (fun ac hA => ?_) rfl rfl rfl
    refine wpList_nil ?_
    refine hK112 _ _ ?_
    refine c_if hA rfl (fun hb113 => ?_) fun hb113 => ?_
    · replace hF := ift hb113 hF
      refine wp_seq_k fun K114 hK114 => ?_
      refine wp_reg ?_
      refine x_move hA (fun ac hA => ?_) rfl rfl rfl rfl rfl
      refine x_assign hA (fun ac hA => ?_) rfl rfl rfl rfl rfl
      refine wpList_nil ?_
      refine hK114 _ _ ?_
      refine wp_ret ?_
      replace hS := SH.optN (obj68) hS
      replace hS := hS.drop 1
      replace hS := hS.drop 1
      replace hS := hS.drop 1
      cases hF
      refine hQ _ _ ?_
      refine lv Try.results18 hA rfl ?_
      exact ⟨rfl, hS⟩
    replace hF := iff' hb113 hF
    refine wp_skip ?_
    refine hK108 _ _ ?_
    refine wp_seq_k fun K115 hK115 => ?_
    refine wp_reg ?_
    refine x_ld Try.underlying24 (hS.cell 2 rfl 0 _ rfl) hA (fun ac hA => ?_) rfl rfl rfl rfl rfl rfl
    refine x_move hA (fun ac hA => ?_) rfl rfl rfl rfl rfl
    refine x_val hA (r_makeFunc rfl (mapev (vals := #[]) hA rfl) (mapev (vals := #[.pointer (some ⟨g104, 0, none⟩), .pointer (some ⟨g105, 0, none⟩)]) hA rfl)) (fun ac hA => ?_) rfl rfl rfl
    obtain ⟨y116, h117, hF⟩ := bnd hF
    refine x_call en40 hA (F_files_change_nil (L := optP (obj68) none none :: blk g105 9 [str a2] :: blk g104 24 [.pointer none] :: L) a1 (.func (.func 44) #[] #[.pointer (some ⟨g104, 0, none⟩), .pointer (some ⟨g105, 0, none⟩)]) h117 hS) (fun v ac w hR hA => ?_) rfl rfl rfl rfl rfl
    obtain ⟨rfl, hS⟩ := hR
    refine x_assign hA (fun ac hA => ?_) rfl rfl rfl rfl rfl
    refine wpList_nil ?_
    refine hK115 _ _ ?_
    refine wp_ret ?_
    replace hS := SH.optN (obj68) hS
    replace hS := hS.drop 1
    replace hS := hS.drop 1
    replace hS := hS.drop 1
    cases hF
    refine hQ _ _ ?_
    refine lv Try.results18 hA rfl ?_
    exact ⟨rfl, hS⟩
  | some x101 =>
    have hU := SH.unoptS hS
    clear hS
    obtain ⟨g102, rfl, hS⟩ := hU
    obtain ⟨A118, n119, c120, hS⟩ := obj68_open hS
    refine wp_seq_k fun K121 hK121 => ?_
    refine wp_reg ?_
    refine x_box hA hS (fun g122 ac w hS hA => ?_) rfl rfl rfl rfl rfl rfl
    refine x_box hA hS (fun g123 ac w hS hA => ?_) rfl rfl rfl rfl rfl rfl
    refine x_assign hA (fun ac hA => ?_) rfl rfl rfl rfl rfl
    refine wpList_nil ?_
    refine hK121 _ _ ?_
    refine wp_seq_k fun K124 hK124 => ?_
    refine wp_seq_k fun K125 hK125 => ?_
    refine wp_reg ?_
    refine x_ld Try.underlying24 (hS.cell 1 rfl 0 _ rfl) hA (fun ac hA => ?_) rfl rfl rfl rfl rfl rfl
    refine x_val (v := .bool true) hA (r_neNilP (p := some ⟨g102, 0, none⟩) Try.underlying24 rfl (hA.ev rfl) (hA.ev rfl)) (fun ac hA => ?_) rfl rfl rfl
    refine x_move hA (fun ac hA => ?_) rfl rfl rfl rfl rfl
    refine x_on rfl hA ?_ rfl rfl rfl
    refine x_move hA (fun ac hA => ?_) rfl rfl rfl rfl rfl
    refine x_on rfl hA ?_ rfl rfl rfl
    obtain ⟨y128, h129, hF⟩ := bnd hF
    refine x_call en21 hA (F_files_Form (L := blk g123 9 [str a2] :: blk g122 24 [.pointer (some ⟨g102, 0, none⟩)] :: blk g102 68 [.slice A118 n119 c120, .int .i64 x101.f1, .int .i64 x101.f2, .bool x101.f3, .int .i64 x101.f4] :: own2 kp73 (kI .u8) 5 (fun x : S73 => x.f1) 73 A118 n119 c120 x101.f0 :: L) a1 h129 hS) (fun v ac w hR hA => ?_) rfl rfl rfl rfl rfl
    obtain ⟨rfl, hS⟩ := hR
    refine x_on rfl hA ?_ rfl rfl rfl
    refine x_val hA (r_not rfl (hA.ev rfl)) (fun ac hA => ?_) rfl rfl rfl
    refine x_pickt rfl hA (fun ac hA => ?_) rfl rfl rfl rfl rfl rfl
    refine wpList_nil ?_
    refine hK125 _ _ ?_
    refine c_if hA rfl (fun hb130 => ?_) fun hb130 => ?_
    · replace hF := ift hb130 hF
      refine wp_seq_k fun K131 hK131 => ?_
      refine wp_reg ?_
      refine x_assign hA (fun ac hA => ?_) rfl rfl rfl rfl rfl
      refine wpList_nil ?_
      refine hK131 _ _ ?_
      refine wp_ret ?_
      replace hS := hS.pk 3
      replace hS := hS.pk 3
      replace hS := obj68_mk (x := x101) hS
      replace hS := SH.optS hS
      replace hS := hS.drop 1
      replace hS := hS.drop 1
      cases hF
      refine hQ _ _ ?_
      refine lv Try.results18 hA rfl ?_
      exact ⟨rfl, hS⟩
    replace hF := iff' hb130 hF
    refine wp_skip ?_
    refine hK124 _ _ ?_
    refine wp_seq_k fun K132 hK132 => ?_
    refine wp_seq_k fun K133 hK133 => ?_
    refine wp_reg ?_
    refine x_ld Try.underlying24 (hS.cell 1 rfl 0 _ rfl) hA (fun ac hA => ?_) rfl rfl rfl rfl rfl rfl
    refine x_ld Try.underlying9 (hS.cell 0 rfl 0 _ rfl) hA (fun ac hA => ?_) rfl rfl rfl rfl rfl rfl
    replace hS := hS.pk 3
    replace hS := hS.pk 3
    replace hS := obj68_mk (x := x101) hS
    replace hS := SH.optS hS
    obtain ⟨y134, h135, hF⟩ := bnd hF
    refine x_call en35 hA (F_files_Store_look (L := blk g123 9 [str a2] :: blk g122 24 [.pointer (some ⟨g102, 0, none⟩)] :: L) (some x101) a2 (some ⟨g102, 0, none⟩) h135 hS) (fun v ac w hR hA => ?_) rfl rfl rfl rfl rfl
    obtain ⟨rfl, hS⟩ := hR
    replace hS := SH.unoptP hS
    obtain ⟨A138, n139, c140, hS⟩ := obj68_open hS
    refine x_assign hA (fun ac hA => ?_) rfl rfl rfl rfl rfl
    refine wpList_nil ?_
    refine hK133 _ _ ?_
    refine wp_seq_k fun K141 hK141 => ?_
    refine wp_reg ?_
    refine x_move hA (fun ac hA => ?_) rfl rfl rfl rfl rfl
    refine x_val hA (r_neI rfl (hA.ev rfl) (hA.ev rfl)) (fun ac hA => ?_) rfl rfl rfl
    refine wpList_nil ?_
    refine hK141 _ _ ?_
    refine c_if hA rfl (fun hb142 => ?_) fun hb142 => ?_
    · replace hF := ift hb142 hF
      refine wp_seq_k fun K143 hK143 => ?_
      refine wp_reg ?_
      refine x_move hA (fun ac hA => ?_) rfl rfl rfl rfl rfl
      refine x_assign hA (fun ac hA => ?_) rfl rfl rfl rfl rfl
      refine wpList_nil ?_
      refine hK143 _ _ ?_
      refine wp_ret ?_
      replace hS := hS.pk 1
      replace hS := hS.pk 1
      replace hS := obj68_mk (x := x101) hS
      replace hS := SH.optS hS
      replace hS := hS.drop 1
      replace hS := hS.drop 1
      cases hF
      refine hQ _ _ ?_
      refine lv Try.results18 hA rfl ?_
      exact ⟨rfl, hS⟩
    replace hF := iff' hb142 hF
    refine wp_skip ?_
    refine hK132 _ _ ?_
    refine wp_seq_k fun K144 hK144 => ?_
    refine wp_reg ?_
    refine x_ld Try.underlying24 (hS.cell 3 rfl 0 _ rfl) hA (fun ac hA => ?_) rfl rfl rfl rfl rfl rfl
    refine x_move hA (fun ac hA => ?_) rfl rfl rfl rfl rfl
    refine x_val hA (r_makeFunc rfl (mapev (vals := #[]) hA rfl) (mapev (vals := #[.pointer (some ⟨g122, 0, none⟩), .pointer (some ⟨g123, 0, none⟩)]) hA rfl)) (fun ac hA => ?_) rfl rfl rfl
    replace hS := hS.pk 1
    replace hS := hS.pk 1
    replace hS := obj68_mk (x := x101) hS
    replace hS := hS.pk 1
    replace hS := obj9_mk (x := a2) hS
    replace hS := hS.pk 1
    replace hS := hS.pk 2
    obtain ⟨y145, h146, hF⟩ := bnd hF
    refine x_call en40 hA (F_files_change_Rename (L := L) a1 x101 a2 g122 g102 g123 h146 hS) (fun v ac w hR hA => ?_) rfl rfl rfl rfl rfl
    obtain ⟨rfl, hS⟩ := hR
    replace hS := hS.pk 1
    obtain ⟨A147, n148, c149, hS⟩ := obj68_open hS
    replace hS := hS.pk 3
    replace hS := obj9_open hS
    refine x_assign hA (fun ac hA => ?_) rfl rfl rfl rfl rfl
    refine wpList_nil ?_
    refine hK144 _ _ ?_
    refine wp_ret ?_
    replace hS := hS.pk 2
    replace hS := hS.pk 2
    replace hS := obj68_mk (x := y145.2.1) hS
    replace hS := SH.optS hS
    replace hS := hS.drop 1
    replace hS := hS.drop 1
    cases hF
    refine hQ _ _ ?_
    refine lv Try.results18 hA rfl ?_
    exact ⟨rfl, hS⟩
end Go.Proofs.Ytgjhiojkkjaloaa.M
