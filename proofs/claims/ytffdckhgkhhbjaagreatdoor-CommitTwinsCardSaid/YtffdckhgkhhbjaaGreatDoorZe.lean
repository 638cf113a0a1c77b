/- Texts of the claim, joined: what it uses of Mfe, Dfu, Mfu, Vd, Dcu, Mcu, Dcm, Mcm, Drs17, Mrs17, Dch, Mch, DlCommitTwins. -/
import Derived.Test.YtffdckhgkhhbjaaGreatDoorZd
import Derived.Shelf.Strings.Cut
import Derived.Shelf.Pu.ParseUintPublic10
import Derived.Test.YtffdckhgkhhbjaaGreatDoorProg
namespace Go.Proofs.YtffdckhgkhhbjaaGreatDoor.M
open Go Go.RowKit Go.Proofs.YtffdckhgkhhbjaaGreatDoor.E
set_option linter.unusedVariables false
set_option maxRecDepth 100000
set_option maxHeartbeats 4000000
set_option linter.unusedSimpArgs false
theorem F_files_change_Sync {r : World} {L : List HP} {w : World} (a1 : (List UInt8)) (a70 : S66) (g70 : Nat) (h70 : Nat) {y : (Int × S66)} (G : files_change_Sync a1 a70 = some y) (X : SH r (blk g70 24 [.pointer (some ⟨h70, 0, none⟩)] :: obj66 h70 a70 :: L) w) :
  Ret Tryz.prog 32 #[.pointer (some ⟨h70, 0, none⟩), str a1, .func (.func 85) #[] #[.pointer (some ⟨g70, 0, none⟩)]] w fun v w' => v = .int .i64 y.1 ∧ SH r (blk g70 24 [.pointer (some ⟨h70, 0, none⟩)] :: obj66 h70 y.2 :: L) w' := by
 refine enter Tryz.func32 rfl Tryz.ntmps32 [(0, (pP h70)), (1, str a1), (2, .func (.func 85) #[] #[.pointer (some ⟨g70, 0, none⟩)])] rfl (by simp) ?_
 intro U J Qf hQ hQn
 unfold files_change_Sync at G
 replace X := X.pk 1
 obtain ⟨A100, n101, c102, X⟩ := obj66_open X
 refine ws fun K103 hK103 => ?_
 refine x_m J rfl fun U J => ?_
 refine wn (hK103 _ _ ?_)
 refine wp_seq_k fun K104 hK104 => ?_
 refine ws fun K105 hK105 => ?_
 refine x_m J rfl fun U J => ?_
 refine x_m J rfl fun U J => ?_
 replace X := X.pk 1 |>.pk 1
 replace X := obj66_mk (x := a70) X
 replace X := SH.optS X
 obtain ⟨y106, h107, G⟩ := bnd G
 refine x_call' en20 J (F_files_Store_look (L := blk g70 24 [.pointer (some ⟨h70, 0, none⟩)] :: L) (some a70) a1 (some ⟨h70, 0, none⟩) h107 X) (fun v U w hR J => ?_) rfl
 obtain ⟨rfl, X⟩ := hR
 replace X := SH.unoptP X
 obtain ⟨A108, n109, c110, X⟩ := obj66_open X
 refine x_m J rfl fun U J => ?_
 refine wn (hK105 _ _ ?_)
 refine ws fun K111 hK111 => ?_
 refine x_m J rfl fun U J => ?_
 refine x_v J (r_neI rfl (J.ev rfl) (J.ev rfl)) rfl fun U J => ?_
 refine wn (hK111 _ _ ?_)
 refine c_if J rfl (fun hb112 => ?_) fun hb112 => ?_
 ·replace G := ift hb112 G
  refine ws fun K113 hK113 => ?_
  refine x_m J rfl fun U J => ?_
  refine x_m J rfl fun U J => ?_
  refine wn (hK113 _ _ ?_)
  refine wp_ret ?_
  replace X := X.pk 1 |>.pk 1
  replace X := obj66_mk (x := a70) X
  replace X := X.pk 1
  cases G
  refine hQ _ _ ?_
  refine lv Tryz.results32 J rfl ?_
  exact ⟨rfl, X⟩
 replace G := iff' hb112 G
 refine wp_skip ?_
 refine hK104 _ _ ?_
 refine ws fun K114 hK114 => ?_
 refine x_m J rfl fun U J => ?_
 refine x_m J rfl fun U J => ?_
 replace X := X.pk 1 |>.pk 1
 obtain ⟨y115, h116, G⟩ := bnd G
 refine x_call' en21 J (F_files_Store_find (L := blk g70 24 [.pointer (some ⟨h70, 0, none⟩)] :: L) a70 a1 h70 A108 n109 c110 h116 X) (fun v U w hR J => ?_) rfl
 obtain ⟨rfl, X⟩ := hR
 refine x_m J rfl fun U J => ?_
 refine x_v J (r_extract rfl (J.ev rfl) rfl) rfl fun U J => ?_
 refine x_v J (r_extract rfl (J.ev rfl) rfl) rfl fun U J => ?_
 refine x_m J rfl fun U J => ?_
 refine x_m J rfl fun U J => ?_
 refine wn (hK114 _ _ ?_)
 refine wp_seq_k fun K117 hK117 => ?_
 refine ws fun K118 hK118 => ?_
 refine x_m J rfl fun U J => ?_
 refine x_v J (r_not rfl (J.ev rfl)) rfl fun U J => ?_
 refine wn (hK118 _ _ ?_)
 refine c_if J rfl (fun hb119 => ?_) fun hb119 => ?_
 ·replace G := ift hb119 G
  refine ws fun K120 hK120 => ?_
  refine x_m J rfl fun U J => ?_
  refine wn (hK120 _ _ ?_)
  refine wp_ret ?_
  replace X := X.pk 1 |>.pk 1
  replace X := obj66_mk (x := a70) X
  replace X := X.pk 1
  cases G
  refine hQ _ _ ?_
  refine lv Tryz.results32 J rfl ?_
  exact ⟨rfl, X⟩
 replace G := iff' hb119 G
 refine wp_skip ?_
 refine hK117 _ _ ?_
 refine wp_seq_k fun K121 hK121 => ?_
 refine ws fun K122 hK122 => ?_
 refine x_m J rfl fun U J => ?_
 replace X := X.pk 1 |>.pk 1
 replace X := obj66_mk (x := a70) X
 obtain ⟨y123, h124, G⟩ := bnd G
 refine x_call' en23 J (F_files_Store_begin (L := blk g70 24 [.pointer (some ⟨h70, 0, none⟩)] :: L) a70 h70 h124 X) (fun v U w hR J => ?_) rfl
 obtain ⟨rfl, X⟩ := hR
 obtain ⟨A125, n126, c127, X⟩ := obj66_open X
 refine x_v J (r_not rfl (J.ev rfl)) rfl fun U J => ?_
 refine wn (hK122 _ _ ?_)
 refine c_if J rfl (fun hb128 => ?_) fun hb128 => ?_
 ·replace G := ift hb128 G
  refine ws fun K129 hK129 => ?_
  refine x_m J rfl fun U J => ?_
  refine wn (hK129 _ _ ?_)
  refine wp_ret ?_
  replace X := X.pk 1 |>.pk 1
  replace X := obj66_mk (x := y123.2) X
  replace X := X.pk 1
  cases G
  refine hQ _ _ ?_
  refine lv Tryz.results32 J rfl ?_
  exact ⟨rfl, X⟩
 replace G := iff' hb128 G
 refine wp_skip ?_
 refine hK121 _ _ ?_
 refine ws fun K130 hK130 => ?_
 refine x_m J rfl fun U J => ?_
 refine x_m J rfl fun U J => ?_
 replace X := X.pk 1 |>.pk 1
 replace X := obj66_mk (x := y123.2) X
 replace X := X.pk 1
 obtain ⟨y131, h132, G⟩ := bnd G
 refine x_callv' (vs := #[.int .i64 y115.1]) en85 J (F_files_Store_Sync_1 (L := L) y115.1 y123.2 g70 h70 h132 X) (fun v U w hR J => ?_) rfl
 obtain ⟨rfl, X⟩ := hR
 replace X := X.pk 1
 obtain ⟨A133, n134, c135, X⟩ := obj66_open X
 refine wn (hK130 _ _ ?_)
 refine ws fun K136 hK136 => ?_
 refine x_m J rfl fun U J => ?_
 refine wn (hK136 _ _ ?_)
 refine wp_ret ?_
 replace X := X.pk 1 |>.pk 1
 replace X := obj66_mk (x := y131) X
 replace X := X.pk 1
 cases G
 refine hQ _ _ ?_
 refine lv Tryz.results32 J rfl ?_
 exact ⟨rfl, X⟩
theorem F_files_change_Delete {r : World} {L : List HP} {w : World} (a1 : (List UInt8)) (a70 : S66) (g70 : Nat) (h70 : Nat) {y : (Int × S66)} (G : files_change_Delete a1 a70 = some y) (X : SH r (blk g70 24 [.pointer (some ⟨h70, 0, none⟩)] :: obj66 h70 a70 :: L) w) :
  Ret Tryz.prog 32 #[.pointer (some ⟨h70, 0, none⟩), str a1, .func (.func 33) #[] #[.pointer (some ⟨g70, 0, none⟩)]] w fun v w' => v = .int .i64 y.1 ∧ SH r (blk g70 24 [.pointer (some ⟨h70, 0, none⟩)] :: obj66 h70 y.2 :: L) w' := by
 refine enter Tryz.func32 rfl Tryz.ntmps32 [(0, (pP h70)), (1, str a1), (2, .func (.func 33) #[] #[.pointer (some ⟨g70, 0, none⟩)])] rfl (by simp) ?_
 intro U J Qf hQ hQn
 unfold files_change_Delete at G
 replace X := X.pk 1
 obtain ⟨A100, n101, c102, X⟩ := obj66_open X
 refine ws fun K103 hK103 => ?_
 refine x_m J rfl fun U J => ?_
 refine wn (hK103 _ _ ?_)
 refine wp_seq_k fun K104 hK104 => ?_
 refine ws fun K105 hK105 => ?_
 refine x_m J rfl fun U J => ?_
 refine x_m J rfl fun U J => ?_
 replace X := X.pk 1 |>.pk 1
 replace X := obj66_mk (x := a70) X
 replace X := SH.optS X
 obtain ⟨y106, h107, G⟩ := bnd G
 refine x_call' en20 J (F_files_Store_look (L := blk g70 24 [.pointer (some ⟨h70, 0, none⟩)] :: L) (some a70) a1 (some ⟨h70, 0, none⟩) h107 X) (fun v U w hR J => ?_) rfl
 obtain ⟨rfl, X⟩ := hR
 replace X := SH.unoptP X
 obtain ⟨A108, n109, c110, X⟩ := obj66_open X
 refine x_m J rfl fun U J => ?_
 refine wn (hK105 _ _ ?_)
 refine ws fun K111 hK111 => ?_
 refine x_m J rfl fun U J => ?_
 refine x_v J (r_neI rfl (J.ev rfl) (J.ev rfl)) rfl fun U J => ?_
 refine wn (hK111 _ _ ?_)
 refine c_if J rfl (fun hb112 => ?_) fun hb112 => ?_
 ·replace G := ift hb112 G
  refine ws fun K113 hK113 => ?_
  refine x_m J rfl fun U J => ?_
  refine x_m J rfl fun U J => ?_
  refine wn (hK113 _ _ ?_)
  refine wp_ret ?_
  replace X := X.pk 1 |>.pk 1
  replace X := obj66_mk (x := a70) X
  replace X := X.pk 1
  cases G
  refine hQ _ _ ?_
  refine lv Tryz.results32 J rfl ?_
  exact ⟨rfl, X⟩
 replace G := iff' hb112 G
 refine wp_skip ?_
 refine hK104 _ _ ?_
 refine ws fun K114 hK114 => ?_
 refine x_m J rfl fun U J => ?_
 refine x_m J rfl fun U J => ?_
 replace X := X.pk 1 |>.pk 1
 obtain ⟨y115, h116, G⟩ := bnd G
 refine x_call' en21 J (F_files_Store_find (L := blk g70 24 [.pointer (some ⟨h70, 0, none⟩)] :: L) a70 a1 h70 A108 n109 c110 h116 X) (fun v U w hR J => ?_) rfl
 obtain ⟨rfl, X⟩ := hR
 refine x_m J rfl fun U J => ?_
 refine x_v J (r_extract rfl (J.ev rfl) rfl) rfl fun U J => ?_
 refine x_v J (r_extract rfl (J.ev rfl) rfl) rfl fun U J => ?_
 refine x_m J rfl fun U J => ?_
 refine x_m J rfl fun U J => ?_
 refine wn (hK114 _ _ ?_)
 refine wp_seq_k fun K117 hK117 => ?_
 refine ws fun K118 hK118 => ?_
 refine x_m J rfl fun U J => ?_
 refine x_v J (r_not rfl (J.ev rfl)) rfl fun U J => ?_
 refine wn (hK118 _ _ ?_)
 refine c_if J rfl (fun hb119 => ?_) fun hb119 => ?_
 ·replace G := ift hb119 G
  refine ws fun K120 hK120 => ?_
  refine x_m J rfl fun U J => ?_
  refine wn (hK120 _ _ ?_)
  refine wp_ret ?_
  replace X := X.pk 1 |>.pk 1
  replace X := obj66_mk (x := a70) X
  replace X := X.pk 1
  cases G
  refine hQ _ _ ?_
  refine lv Tryz.results32 J rfl ?_
  exact ⟨rfl, X⟩
 replace G := iff' hb119 G
 refine wp_skip ?_
 refine hK117 _ _ ?_
 refine wp_seq_k fun K121 hK121 => ?_
 refine ws fun K122 hK122 => ?_
 refine x_m J rfl fun U J => ?_
 replace X := X.pk 1 |>.pk 1
 replace X := obj66_mk (x := a70) X
 obtain ⟨y123, h124, G⟩ := bnd G
 refine x_call' en23 J (F_files_Store_begin (L := blk g70 24 [.pointer (some ⟨h70, 0, none⟩)] :: L) a70 h70 h124 X) (fun v U w hR J => ?_) rfl
 obtain ⟨rfl, X⟩ := hR
 obtain ⟨A125, n126, c127, X⟩ := obj66_open X
 refine x_v J (r_not rfl (J.ev rfl)) rfl fun U J => ?_
 refine wn (hK122 _ _ ?_)
 refine c_if J rfl (fun hb128 => ?_) fun hb128 => ?_
 ·replace G := ift hb128 G
  refine ws fun K129 hK129 => ?_
  refine x_m J rfl fun U J => ?_
  refine wn (hK129 _ _ ?_)
  refine wp_ret ?_
  replace X := X.pk 1 |>.pk 1
  replace X := obj66_mk (x := y123.2) X
  replace X := X.pk 1
  cases G
  refine hQ _ _ ?_
  refine lv Tryz.results32 J rfl ?_
  exact ⟨rfl, X⟩
 replace G := iff' hb128 G
 refine wp_skip ?_
 refine hK121 _ _ ?_
 refine ws fun K130 hK130 => ?_
 refine x_m J rfl fun U J => ?_
 refine x_m J rfl fun U J => ?_
 replace X := X.pk 1 |>.pk 1
 replace X := obj66_mk (x := y123.2) X
 replace X := X.pk 1
 obtain ⟨y131, h132, G⟩ := bnd G
 refine x_callv' (vs := #[.int .i64 y115.1]) en33 J (F_files_Store_Delete_1 (L := L) y115.1 y123.2 g70 h70 h132 X) (fun v U w hR J => ?_) rfl
 obtain ⟨rfl, X⟩ := hR
 replace X := X.pk 1
 obtain ⟨A133, n134, c135, X⟩ := obj66_open X
 refine wn (hK130 _ _ ?_)
 refine ws fun K136 hK136 => ?_
 refine x_m J rfl fun U J => ?_
 refine wn (hK136 _ _ ?_)
 refine wp_ret ?_
 replace X := X.pk 1 |>.pk 1
 replace X := obj66_mk (x := y131) X
 replace X := X.pk 1
 cases G
 refine hQ _ _ ?_
 refine lv Tryz.results32 J rfl ?_
 exact ⟨rfl, X⟩
theorem F_files_change_Rename {r : World} {L : List HP} {w : World} (a1 : (List UInt8)) (a70 : S66) (a71 : (List UInt8)) (g70 : Nat) (h70 : Nat) (g71 : Nat) {y : (Int × S66 × (List UInt8))} (G : files_change_Rename a1 a70 a71 = some y) (X : SH r (blk g70 24 [.pointer (some ⟨h70, 0, none⟩)] :: obj66 h70 a70 :: obj9 g71 a71 :: L) w) :
  Ret Tryz.prog 32 #[.pointer (some ⟨h70, 0, none⟩), str a1, .func (.func 72) #[] #[.pointer (some ⟨g70, 0, none⟩), (pP g71)]] w fun v w' => v = .int .i64 y.1 ∧ SH r (blk g70 24 [.pointer (some ⟨h70, 0, none⟩)] :: obj66 h70 y.2.1 :: obj9 g71 y.2.2 :: L) w' := by
 refine enter Tryz.func32 rfl Tryz.ntmps32 [(0, (pP h70)), (1, str a1), (2, .func (.func 72) #[] #[.pointer (some ⟨g70, 0, none⟩), (pP g71)])] rfl (by simp) ?_
 intro U J Qf hQ hQn
 unfold files_change_Rename at G
 replace X := X.pk 1
 obtain ⟨A100, n101, c102, X⟩ := obj66_open X
 replace X := X.pk 3
 replace X := obj9_open X
 refine ws fun K103 hK103 => ?_
 refine x_m J rfl fun U J => ?_
 refine wn (hK103 _ _ ?_)
 refine wp_seq_k fun K104 hK104 => ?_
 refine ws fun K105 hK105 => ?_
 refine x_m J rfl fun U J => ?_
 refine x_m J rfl fun U J => ?_
 replace X := X.pk 2 |>.pk 2
 replace X := obj66_mk (x := a70) X
 replace X := SH.optS X
 obtain ⟨y106, h107, G⟩ := bnd G
 refine x_call' en20 J (F_files_Store_look (L := blk g71 9 [str a71] :: blk g70 24 [.pointer (some ⟨h70, 0, none⟩)] :: L) (some a70) a1 (some ⟨h70, 0, none⟩) h107 X) (fun v U w hR J => ?_) rfl
 obtain ⟨rfl, X⟩ := hR
 replace X := SH.unoptP X
 obtain ⟨A108, n109, c110, X⟩ := obj66_open X
 refine x_m J rfl fun U J => ?_
 refine wn (hK105 _ _ ?_)
 refine ws fun K111 hK111 => ?_
 refine x_m J rfl fun U J => ?_
 refine x_v J (r_neI rfl (J.ev rfl) (J.ev rfl)) rfl fun U J => ?_
 refine wn (hK111 _ _ ?_)
 refine c_if J rfl (fun hb112 => ?_) fun hb112 => ?_
 ·replace G := ift hb112 G
  refine ws fun K113 hK113 => ?_
  refine x_m J rfl fun U J => ?_
  refine x_m J rfl fun U J => ?_
  refine wn (hK113 _ _ ?_)
  refine wp_ret ?_
  replace X := X.pk 1 |>.pk 1
  replace X := obj66_mk (x := a70) X
  replace X := X.pk 1
  replace X := obj9_mk (x := a71) X
  replace X := X.pk 1 |>.pk 2
  cases G
  refine hQ _ _ ?_
  refine lv Tryz.results32 J rfl ?_
  exact ⟨rfl, X⟩
 replace G := iff' hb112 G
 refine wp_skip ?_
 refine hK104 _ _ ?_
 refine ws fun K114 hK114 => ?_
 refine x_m J rfl fun U J => ?_
 refine x_m J rfl fun U J => ?_
 replace X := X.pk 1 |>.pk 1
 obtain ⟨y115, h116, G⟩ := bnd G
 refine x_call' en21 J (F_files_Store_find (L := blk g71 9 [str a71] :: blk g70 24 [.pointer (some ⟨h70, 0, none⟩)] :: L) a70 a1 h70 A108 n109 c110 h116 X) (fun v U w hR J => ?_) rfl
 obtain ⟨rfl, X⟩ := hR
 refine x_m J rfl fun U J => ?_
 refine x_v J (r_extract rfl (J.ev rfl) rfl) rfl fun U J => ?_
 refine x_v J (r_extract rfl (J.ev rfl) rfl) rfl fun U J => ?_
 refine x_m J rfl fun U J => ?_
 refine x_m J rfl fun U J => ?_
 refine wn (hK114 _ _ ?_)
 refine wp_seq_k fun K117 hK117 => ?_
 refine ws fun K118 hK118 => ?_
 refine x_m J rfl fun U J => ?_
 refine x_v J (r_not rfl (J.ev rfl)) rfl fun U J => ?_
 refine wn (hK118 _ _ ?_)
 refine c_if J rfl (fun hb119 => ?_) fun hb119 => ?_
 ·replace G := ift hb119 G
  refine ws fun K120 hK120 => ?_
  refine x_m J rfl fun U J => ?_
  refine wn (hK120 _ _ ?_)
  refine wp_ret ?_
  replace X := X.pk 1 |>.pk 1
  replace X := obj66_mk (x := a70) X
  replace X := X.pk 1
  replace X := obj9_mk (x := a71) X
  replace X := X.pk 1 |>.pk 2
  cases G
  refine hQ _ _ ?_
  refine lv Tryz.results32 J rfl ?_
  exact ⟨rfl, X⟩
 replace G := iff' hb119 G
 refine wp_skip ?_
 refine hK117 _ _ ?_
 refine wp_seq_k fun K121 hK121 => ?_
 refine ws fun K122 hK122 => ?_
 refine x_m J rfl fun U J => ?_
 replace X := X.pk 1 |>.pk 1
 replace X := obj66_mk (x := a70) X
 obtain ⟨y123, h124, G⟩ := bnd G
 refine x_call' en23 J (F_files_Store_begin (L := blk g71 9 [str a71] :: blk g70 24 [.pointer (some ⟨h70, 0, none⟩)] :: L) a70 h70 h124 X) (fun v U w hR J => ?_) rfl
 obtain ⟨rfl, X⟩ := hR
 obtain ⟨A125, n126, c127, X⟩ := obj66_open X
 refine x_v J (r_not rfl (J.ev rfl)) rfl fun U J => ?_
 refine wn (hK122 _ _ ?_)
 refine c_if J rfl (fun hb128 => ?_) fun hb128 => ?_
 ·replace G := ift hb128 G
  refine ws fun K129 hK129 => ?_
  refine x_m J rfl fun U J => ?_
  refine wn (hK129 _ _ ?_)
  refine wp_ret ?_
  replace X := X.pk 1 |>.pk 1
  replace X := obj66_mk (x := y123.2) X
  replace X := X.pk 1
  replace X := obj9_mk (x := a71) X
  replace X := X.pk 1 |>.pk 2
  cases G
  refine hQ _ _ ?_
  refine lv Tryz.results32 J rfl ?_
  exact ⟨rfl, X⟩
 replace G := iff' hb128 G
 refine wp_skip ?_
 refine hK121 _ _ ?_
 refine ws fun K130 hK130 => ?_
 refine x_m J rfl fun U J => ?_
 refine x_m J rfl fun U J => ?_
 replace X := X.pk 1 |>.pk 1
 replace X := obj66_mk (x := y123.2) X
 replace X := X.pk 1
 replace X := obj9_mk (x := a71) X
 replace X := X.pk 1 |>.pk 2
 obtain ⟨y131, h132, G⟩ := bnd G
 refine x_callv' (vs := #[.int .i64 y115.1]) en72 J (F_files_Store_Rename_1 (L := L) y115.1 y123.2 a71 g70 h70 g71 h132 X) (fun v U w hR J => ?_) rfl
 obtain ⟨rfl, X⟩ := hR
 replace X := X.pk 1
 obtain ⟨A133, n134, c135, X⟩ := obj66_open X
 replace X := X.pk 3
 replace X := obj9_open X
 refine wn (hK130 _ _ ?_)
 refine ws fun K136 hK136 => ?_
 refine x_m J rfl fun U J => ?_
 refine wn (hK136 _ _ ?_)
 refine wp_ret ?_
 replace X := X.pk 2 |>.pk 2
 replace X := obj66_mk (x := y131.1) X
 replace X := X.pk 1
 replace X := obj9_mk (x := y131.2) X
 replace X := X.pk 1 |>.pk 2
 cases G
 refine hQ _ _ ?_
 refine lv Tryz.results32 J rfl ?_
 exact ⟨rfl, X⟩
theorem F_files_Store_Sync {r : World} {L : List HP} {w : World} (a0 : (Option S66)) (a1 : (List UInt8)) (p0 : Option Addr) {y : (Int × (Option S66))} (G : files_Store_Sync a0 a1 = some y) (X : SH r (optP (obj66) p0 a0 :: L) w) :
  Ret Tryz.prog 66 #[.pointer p0, str a1] w fun v w' => v = .int .i64 y.1 ∧ SH r (optP (obj66) p0 y.2 :: L) w' := by
 refine enter Tryz.func66 rfl Tryz.ntmps66 [(0, .pointer p0), (1, str a1)] rfl (by simp) ?_
 intro U J Qf hQ hQn
 unfold files_Store_Sync at G
 cases a0 with
 | none =>
  have hU := SH.unoptN X
  clear X
  obtain ⟨rfl, X⟩ := hU
  refine ws fun K100 hK100 => ?_
  refine x_box' J X (fun g101 U w X J => ?_) rfl
  refine x_m J rfl fun U J => ?_
  refine wn (hK100 _ _ ?_)
  refine ws fun K102 hK102 => ?_
  refine x_ld' uu24 (X.cell 0 rfl 0 _ rfl) J (fun U J => ?_) rfl
  refine x_m J rfl fun U J => ?_
  refine x_v J (r_makeFunc rfl (mapev (vals := #[]) J rfl) (mapev (vals := #[.pointer (some ⟨g101, 0, none⟩)]) J rfl)) rfl fun U J => ?_
  cases G
 | some x103 =>
  have hU := SH.unoptS X
  clear X
  obtain ⟨g104, rfl, X⟩ := hU
  obtain ⟨A105, n106, c107, X⟩ := obj66_open X
  refine ws fun K108 hK108 => ?_
  refine x_box' J X (fun g109 U w X J => ?_) rfl
  refine x_m J rfl fun U J => ?_
  refine wn (hK108 _ _ ?_)
  refine ws fun K110 hK110 => ?_
  refine x_ld' uu24 (X.cell 0 rfl 0 _ rfl) J (fun U J => ?_) rfl
  refine x_m J rfl fun U J => ?_
  refine x_v J (r_makeFunc rfl (mapev (vals := #[]) J rfl) (mapev (vals := #[.pointer (some ⟨g109, 0, none⟩)]) J rfl)) rfl fun U J => ?_
  replace X := X.pk 2 |>.pk 2
  replace X := obj66_mk (x := x103) X
  replace X := X.pk 1
  obtain ⟨y111, h112, G⟩ := bnd G
  refine x_call' en32 J (F_files_change_Sync (L := L) a1 x103 g109 g104 h112 X) (fun v U w hR J => ?_) rfl
  obtain ⟨rfl, X⟩ := hR
  replace X := X.pk 1
  obtain ⟨A113, n114, c115, X⟩ := obj66_open X
  refine x_m J rfl fun U J => ?_
  refine wn (hK110 _ _ ?_)
  refine wp_ret ?_
  replace X := X.pk 1 |>.pk 1
  replace X := obj66_mk (x := y111.2) X
  replace X := SH.optS X
  replace X := X.drop 1
  cases G
  refine hQ _ _ ?_
  refine lv Tryz.results66 J rfl ?_
  exact ⟨rfl, X⟩
theorem F_files_Store_Delete {r : World} {L : List HP} {w : World} (a0 : (Option S66)) (a1 : (List UInt8)) (p0 : Option Addr) {y : (Int × (Option S66))} (G : files_Store_Delete a0 a1 = some y) (X : SH r (optP (obj66) p0 a0 :: L) w) :
  Ret Tryz.prog 15 #[.pointer p0, str a1] w fun v w' => v = .int .i64 y.1 ∧ SH r (optP (obj66) p0 y.2 :: L) w' := by
 refine enter Tryz.func15 rfl Tryz.ntmps15 [(0, .pointer p0), (1, str a1)] rfl (by simp) ?_
 intro U J Qf hQ hQn
 unfold files_Store_Delete at G
 cases a0 with
 | none =>
  have hU := SH.unoptN X
  clear X
  obtain ⟨rfl, X⟩ := hU
  refine ws fun K100 hK100 => ?_
  refine x_box' J X (fun g101 U w X J => ?_) rfl
  refine x_m J rfl fun U J => ?_
  refine wn (hK100 _ _ ?_)
  refine ws fun K102 hK102 => ?_
  refine x_ld' uu24 (X.cell 0 rfl 0 _ rfl) J (fun U J => ?_) rfl
  refine x_m J rfl fun U J => ?_
  refine x_v J (r_makeFunc rfl (mapev (vals := #[]) J rfl) (mapev (vals := #[.pointer (some ⟨g101, 0, none⟩)]) J rfl)) rfl fun U J => ?_
  cases G
 | some x103 =>
  have hU := SH.unoptS X
  clear X
  obtain ⟨g104, rfl, X⟩ := hU
  obtain ⟨A105, n106, c107, X⟩ := obj66_open X
  refine ws fun K108 hK108 => ?_
  refine x_box' J X (fun g109 U w X J => ?_) rfl
  refine x_m J rfl fun U J => ?_
  refine wn (hK108 _ _ ?_)
  refine ws fun K110 hK110 => ?_
  refine x_ld' uu24 (X.cell 0 rfl 0 _ rfl) J (fun U J => ?_) rfl
  refine x_m J rfl fun U J => ?_
  refine x_v J (r_makeFunc rfl (mapev (vals := #[]) J rfl) (mapev (vals := #[.pointer (some ⟨g109, 0, none⟩)]) J rfl)) rfl fun U J => ?_
  replace X := X.pk 2 |>.pk 2
  replace X := obj66_mk (x := x103) X
  replace X := X.pk 1
  obtain ⟨y111, h112, G⟩ := bnd G
  refine x_call' en32 J (F_files_change_Delete (L := L) a1 x103 g109 g104 h112 X) (fun v U w hR J => ?_) rfl
  obtain ⟨rfl, X⟩ := hR
  replace X := X.pk 1
  obtain ⟨A113, n114, c115, X⟩ := obj66_open X
  refine x_m J rfl fun U J => ?_
  refine wn (hK110 _ _ ?_)
  refine wp_ret ?_
  replace X := X.pk 1 |>.pk 1
  replace X := obj66_mk (x := y111.2) X
  replace X := SH.optS X
  replace X := X.drop 1
  cases G
  refine hQ _ _ ?_
  refine lv Tryz.results15 J rfl ?_
  exact ⟨rfl, X⟩
theorem F_files_Store_Rename {r : World} {L : List HP} {w : World} (a0 : (Option S66)) (a1 : (List UInt8)) (a2 : (List UInt8)) (p0 : Option Addr) {y : (Int × (Option S66))} (G : files_Store_Rename a0 a1 a2 = some y) (X : SH r (optP (obj66) p0 a0 :: L) w) :
  Ret Tryz.prog 51 #[.pointer p0, str a1, str a2] w fun v w' => v = .int .i64 y.1 ∧ SH r (optP (obj66) p0 y.2 :: L) w' := by
 refine enter Tryz.func51 rfl Tryz.ntmps51 [(0, .pointer p0), (1, str a1), (2, str a2)] rfl (by simp) ?_
 intro U J Qf hQ hQn
 unfold files_Store_Rename at G
 cases a0 with
 | none =>
  have hU := SH.unoptN X
  clear X
  obtain ⟨rfl, X⟩ := hU
  refine ws fun K100 hK100 => ?_
  refine x_box' J X (fun g101 U w X J => ?_) rfl
  refine x_box' J X (fun g102 U w X J => ?_) rfl
  refine x_m J rfl fun U J => ?_
  refine wn (hK100 _ _ ?_)
  refine wp_seq_k fun K103 hK103 => ?_
  refine ws fun K104 hK104 => ?_
  refine x_ld' uu24 (X.cell 1 rfl 0 _ rfl) J (fun U J => ?_) rfl
  refine x_v (v := .bool false) J (r_neNilP (p := none) uu24 rfl (J.ev rfl) (J.ev rfl)) rfl fun U J => ?_
  refine x_m J rfl fun U J => ?_
  refine xO 3 rfl J rfl fun U J => ?_
  refine x_pickf' rfl J (fun U J => ?_) rfl
  refine wn (hK104 _ _ ?_)
  refine c_f (b := false) rfl J ?_ rfl
  refine wp_skip ?_
  refine hK103 _ _ ?_
  refine wp_seq_k fun K105 hK105 => ?_
  refine ws fun K106 hK106 => ?_
  refine x_ld' uu24 (X.cell 1 rfl 0 _ rfl) J (fun U J => ?_) rfl
  refine x_ld' uu9 (X.cell 0 rfl 0 _ rfl) J (fun U J => ?_) rfl
  replace X := SH.optN (obj66) X
  obtain ⟨y107, h108, G⟩ := bnd G
  refine x_call' en20 J (F_files_Store_look (L := blk g102 9 [str a2] :: blk g101 24 [.pointer none] :: L) none a2 none h108 X) (fun v U w hR J => ?_) rfl
  obtain ⟨rfl, X⟩ := hR
  refine x_m J rfl fun U J => ?_
  refine wn (hK106 _ _ ?_)
  refine ws fun K109 hK109 => ?_
  refine x_m J rfl fun U J => ?_
  refine x_v J (r_neI rfl (J.ev rfl) (J.ev rfl)) rfl fun U J => ?_
  refine wn (hK109 _ _ ?_)
  refine c_if J rfl (fun hb110 => ?_) fun hb110 => ?_
  ·replace G := ift hb110 G
   refine ws fun K111 hK111 => ?_
   refine x_m J rfl fun U J => ?_
   refine x_m J rfl fun U J => ?_
   refine wn (hK111 _ _ ?_)
   refine wp_ret ?_
   replace X := SH.optN (obj66) X
   replace X := X.drop 1 |>.drop 1 |>.drop 1
   cases G
   refine hQ _ _ ?_
   refine lv Tryz.results51 J rfl ?_
   exact ⟨rfl, X⟩
  replace G := iff' hb110 G
  refine wp_skip ?_
  refine hK105 _ _ ?_
  refine ws fun K112 hK112 => ?_
  refine x_ld' uu24 (X.cell 2 rfl 0 _ rfl) J (fun U J => ?_) rfl
  refine x_m J rfl fun U J => ?_
  refine x_v J (r_makeFunc rfl (mapev (vals := #[]) J rfl) (mapev (vals := #[.pointer (some ⟨g101, 0, none⟩), (pP g102)]) J rfl)) rfl fun U J => ?_
  cases G
 | some x113 =>
  have hU := SH.unoptS X
  clear X
  obtain ⟨g114, rfl, X⟩ := hU
  obtain ⟨A115, n116, c117, X⟩ := obj66_open X
  refine ws fun K118 hK118 => ?_
  refine x_box' J X (fun g119 U w X J => ?_) rfl
  refine x_box' J X (fun g120 U w X J => ?_) rfl
  refine x_m J rfl fun U J => ?_
  refine wn (hK118 _ _ ?_)
  refine wp_seq_k fun K121 hK121 => ?_
  refine ws fun K122 hK122 => ?_
  refine x_ld' uu24 (X.cell 1 rfl 0 _ rfl) J (fun U J => ?_) rfl
  refine x_v (v := .bool true) J (r_neNilP (p := some ⟨g114, 0, none⟩) uu24 rfl (J.ev rfl) (J.ev rfl)) rfl fun U J => ?_
  refine x_m J rfl fun U J => ?_
  refine x_on' rfl J ?_ rfl
  refine x_m J rfl fun U J => ?_
  refine x_on' rfl J ?_ rfl
  obtain ⟨y123, h124, G⟩ := bnd G
  refine x_call' en36 J (F_files_Form (L := blk g120 9 [str a2] :: blk g119 24 [.pointer (some ⟨g114, 0, none⟩)] :: blk g114 66 [.slice A115 n116 c117, .int .i64 x113.f1, .int .i64 x113.f2, .bool x113.f3, .int .i64 x113.f4] :: own2 kp72 (kI .u8) 5 (fun x : S72 => x.f1) 72 A115 n116 c117 x113.f0 :: L) a1 h124 X) (fun v U w hR J => ?_) rfl
  obtain ⟨rfl, X⟩ := hR
  refine x_on' rfl J ?_ rfl
  refine x_v J (r_not rfl (J.ev rfl)) rfl fun U J => ?_
  refine x_pickt' rfl J (fun U J => ?_) rfl
  refine wn (hK122 _ _ ?_)
  refine c_if J rfl (fun hb125 => ?_) fun hb125 => ?_
  ·replace G := ift hb125 G
   refine ws fun K126 hK126 => ?_
   refine x_m J rfl fun U J => ?_
   refine wn (hK126 _ _ ?_)
   refine wp_ret ?_
   replace X := X.pk 3 |>.pk 3
   replace X := obj66_mk (x := x113) X
   replace X := SH.optS X
   replace X := X.drop 1 |>.drop 1
   cases G
   refine hQ _ _ ?_
   refine lv Tryz.results51 J rfl ?_
   exact ⟨rfl, X⟩
  replace G := iff' hb125 G
  refine wp_skip ?_
  refine hK121 _ _ ?_
  refine wp_seq_k fun K127 hK127 => ?_
  refine ws fun K128 hK128 => ?_
  refine x_ld' uu24 (X.cell 1 rfl 0 _ rfl) J (fun U J => ?_) rfl
  refine x_ld' uu9 (X.cell 0 rfl 0 _ rfl) J (fun U J => ?_) rfl
  replace X := X.pk 3 |>.pk 3
  replace X := obj66_mk (x := x113) X
  replace X := SH.optS X
  obtain ⟨y129, h130, G⟩ := bnd G
  refine x_call' en20 J (F_files_Store_look (L := blk g120 9 [str a2] :: blk g119 24 [.pointer (some ⟨g114, 0, none⟩)] :: L) (some x113) a2 (some ⟨g114, 0, none⟩) h130 X) (fun v U w hR J => ?_) rfl
  obtain ⟨rfl, X⟩ := hR
  replace X := SH.unoptP X
  obtain ⟨A131, n132, c133, X⟩ := obj66_open X
  refine x_m J rfl fun U J => ?_
  refine wn (hK128 _ _ ?_)
  refine ws fun K134 hK134 => ?_
  refine x_m J rfl fun U J => ?_
  refine x_v J (r_neI rfl (J.ev rfl) (J.ev rfl)) rfl fun U J => ?_
  refine wn (hK134 _ _ ?_)
  refine c_if J rfl (fun hb135 => ?_) fun hb135 => ?_
  ·replace G := ift hb135 G
   refine ws fun K136 hK136 => ?_
   refine x_m J rfl fun U J => ?_
   refine x_m J rfl fun U J => ?_
   refine wn (hK136 _ _ ?_)
   refine wp_ret ?_
   replace X := X.pk 1 |>.pk 1
   replace X := obj66_mk (x := x113) X
   replace X := SH.optS X
   replace X := X.drop 1 |>.drop 1
   cases G
   refine hQ _ _ ?_
   refine lv Tryz.results51 J rfl ?_
   exact ⟨rfl, X⟩
  replace G := iff' hb135 G
  refine wp_skip ?_
  refine hK127 _ _ ?_
  refine ws fun K137 hK137 => ?_
  refine x_ld' uu24 (X.cell 3 rfl 0 _ rfl) J (fun U J => ?_) rfl
  refine x_m J rfl fun U J => ?_
  refine x_v J (r_makeFunc rfl (mapev (vals := #[]) J rfl) (mapev (vals := #[.pointer (some ⟨g119, 0, none⟩), (pP g120)]) J rfl)) rfl fun U J => ?_
  replace X := X.pk 1 |>.pk 1
  replace X := obj66_mk (x := x113) X
  replace X := X.pk 1
  replace X := obj9_mk (x := a2) X
  replace X := X.pk 1 |>.pk 2
  obtain ⟨y138, h139, G⟩ := bnd G
  refine x_call' en32 J (F_files_change_Rename (L := L) a1 x113 a2 g119 g114 g120 h139 X) (fun v U w hR J => ?_) rfl
  obtain ⟨rfl, X⟩ := hR
  replace X := X.pk 1
  obtain ⟨A140, n141, c142, X⟩ := obj66_open X
  replace X := X.pk 3
  replace X := obj9_open X
  refine x_m J rfl fun U J => ?_
  refine wn (hK137 _ _ ?_)
  refine wp_ret ?_
  replace X := X.pk 2 |>.pk 2
  replace X := obj66_mk (x := y138.2.1) X
  replace X := SH.optS X
  replace X := X.drop 1 |>.drop 1
  cases G
  refine hQ _ _ ?_
  refine lv Tryz.results51 J rfl ?_
  exact ⟨rfl, X⟩
noncomputable section
set_option linter.unusedSimpArgs false
def istrconv_small (a0 : Int) : Option ((List UInt8)) :=
  if (decide (a0 < 10)) = true then (ltt (IntKind.i64.wrap (a0 + 1)) fun x106 => ((cut_ [48, 49, 50, 51, 52, 53, 54, 55, 56, 57, 97, 98, 99, 100, 101, 102, 103, 104, 105, 106, 107, 108, 109, 110, 111, 112, 113, 114, 115, 116, 117, 118, 119, 120, 121, 122] a0 x106).bind fun s108 => (some s108))) else (ltt (IntKind.i64.wrap (a0 * 2)) fun x111 => (ltt (IntKind.i64.wrap (x111 + 2)) fun x113 => ((cut_ [48, 48, 48, 49, 48, 50, 48, 51, 48, 52, 48, 53, 48, 54, 48, 55, 48, 56, 48, 57, 49, 48, 49, 49, 49, 50, 49, 51, 49, 52, 49, 53, 49, 54, 49, 55, 49, 56, 49, 57, 50, 48, 50, 49, 50, 50, 50, 51, 50, 52, 50, 53, 50, 54, 50, 55, 50, 56, 50, 57, 51, 48, 51, 49, 51, 50, 51, 51, 51, 52, 51, 53, 51, 54, 51, 55, 51, 56, 51, 57, 52, 48, 52, 49, 52, 50, 52, 51, 52, 52, 52, 53, 52, 54, 52, 55, 52, 56, 52, 57, 53, 48, 53, 49, 53, 50, 53, 51, 53, 52, 53, 53, 53, 54, 53, 55, 53, 56, 53, 57, 54, 48, 54, 49, 54, 50, 54, 51, 54, 52, 54, 53, 54, 54, 54, 55, 54, 56, 54, 57, 55, 48, 55, 49, 55, 50, 55, 51, 55, 52, 55, 53, 55, 54, 55, 55, 55, 56, 55, 57, 56, 48, 56, 49, 56, 50, 56, 51, 56, 52, 56, 53, 56, 54, 56, 55, 56, 56, 56, 57, 57, 48, 57, 49, 57, 50, 57, 51, 57, 52, 57, 53, 57, 54, 57, 55, 57, 56, 57, 57] x111 x113).bind fun s115 => (some s115))))
def istrconv_FormatUint (a0 : Int) (a1 : Int) : Option ((List UInt8)) :=
  if (a1 == 10) = true then (if (decide (a0 < 100)) = true then (ltt (IntKind.i64.wrap a0) fun x109 => ((istrconv_small x109).bind fun y111 => (some y111))) else none) else none
def strconv_FormatUint (a0 : Int) (a1 : Int) : Option ((List UInt8)) :=
  (istrconv_FormatUint a0 a1).bind fun y103 => (some y103)
end
theorem F_istrconv_small {r : World} {L : List HP} {w : World} (a0 : Int) {y : ((List UInt8))} (G : istrconv_small a0 = some y) (X : SH r (L) w) :
  Ret Tryz.prog 87 #[.int .i64 a0] w fun v w' => v = str y ∧ SH r (L) w' := by
 refine enter Tryz.func87 rfl Tryz.ntmps87 [(0, .int .i64 a0)] rfl (by simp) ?_
 intro U J Qf hQ hQn
 unfold istrconv_small at G
 refine ws fun K100 hK100 => ?_
 refine x_m J rfl fun U J => ?_
 refine wn (hK100 _ _ ?_)
 refine wp_seq_k fun K101 hK101 => ?_
 refine ws fun K102 hK102 => ?_
 refine x_m J rfl fun U J => ?_
 refine x_v J (r_ltI rfl (J.ev rfl) (J.ev rfl)) rfl fun U J => ?_
 refine wn (hK102 _ _ ?_)
 refine c_if J rfl (fun hb103 => ?_) fun hb103 => ?_
 ·replace G := ift hb103 G
  refine ws fun K104 hK104 => ?_
  refine x_m J rfl fun U J => ?_
  refine x_m J rfl fun U J => ?_
  obtain ⟨x105, h106, G⟩ := ltt_ G
  refine x_v (v := .int .i64 x105) J (rv_i h106 (r_add rfl (J.ev rfl) (J.ev rfl))) rfl fun U J => ?_
  obtain ⟨s107, h108, G⟩ := bnd G
  refine x_cutSlh' uu9 h108 J (fun U J => ?_) rfl
  refine x_m J rfl fun U J => ?_
  refine wn (hK104 _ _ ?_)
  refine wp_ret ?_
  cases G
  refine hQ _ _ ?_
  refine lv Tryz.results87 J rfl ?_
  exact ⟨rfl, X⟩
 replace G := iff' hb103 G
 refine wp_skip ?_
 refine hK101 _ _ ?_
 refine ws fun K109 hK109 => ?_
 refine x_m J rfl fun U J => ?_
 obtain ⟨x110, h111, G⟩ := ltt_ G
 refine x_v (v := .int .i64 x110) J (rv_i h111 (r_mul rfl (J.ev rfl) (J.ev rfl))) rfl fun U J => ?_
 refine x_m J rfl fun U J => ?_
 refine x_v (v := .int .i64 x110) J (rv_i h111 (r_mul rfl (J.ev rfl) (J.ev rfl))) rfl fun U J => ?_
 obtain ⟨x112, h113, G⟩ := ltt_ G
 refine x_v (v := .int .i64 x112) J (rv_i h113 (r_add rfl (J.ev rfl) (J.ev rfl))) rfl fun U J => ?_
 obtain ⟨s114, h115, G⟩ := bnd G
 refine x_cutSlh' uu9 h115 J (fun U J => ?_) rfl
 refine x_m J rfl fun U J => ?_
 refine wn (hK109 _ _ ?_)
 refine wp_ret ?_
 cases G
 refine hQ _ _ ?_
 refine lv Tryz.results87 J rfl ?_
 exact ⟨rfl, X⟩
theorem F_istrconv_FormatUint {r : World} {L : List HP} {w : World} (a0 : Int) (a1 : Int) {y : ((List UInt8))} (G : istrconv_FormatUint a0 a1 = some y) (X : SH r (L) w) :
  Ret Tryz.prog 73 #[.int .u64 a0, .int .i64 a1] w fun v w' => v = str y ∧ SH r (L) w' := by
 refine enter Tryz.func73 rfl Tryz.ntmps73 [(0, .int .u64 a0), (1, .int .i64 a1)] rfl (by simp) ?_
 intro U J Qf hQ hQn
 unfold istrconv_FormatUint at G
 refine ws fun K100 hK100 => ?_
 refine x_m J rfl fun U J => ?_
 refine wn (hK100 _ _ ?_)
 refine wp_seq_k fun K101 hK101 => ?_
 refine ws fun K102 hK102 => ?_
 refine x_m J rfl fun U J => ?_
 refine x_v J (r_eqI rfl (J.ev rfl) (J.ev rfl)) rfl fun U J => ?_
 refine wn (hK102 _ _ ?_)
 refine c_if J rfl (fun hb103 => ?_) fun hb103 => ?_
 rotate_left
 ·replace G := iff' hb103 G
  cases G
 replace G := ift hb103 G
 refine wp_seq_k fun K104 hK104 => ?_
 refine ws fun K105 hK105 => ?_
 refine x_m J rfl fun U J => ?_
 refine x_v J (r_ltI rfl (J.ev rfl) (J.ev rfl)) rfl fun U J => ?_
 refine wn (hK105 _ _ ?_)
 refine c_if J rfl (fun hb106 => ?_) fun hb106 => ?_
 rotate_left
 ·replace G := iff' hb106 G
  cases G
 replace G := ift hb106 G
 refine ws fun K107 hK107 => ?_
 refine x_m J rfl fun U J => ?_
 obtain ⟨x108, h109, G⟩ := ltt_ G
 refine x_v (v := .int .i64 x108) J (rv_i h109 (r_convI uu30 uu3 rfl (J.ev rfl))) rfl fun U J => ?_
 obtain ⟨y110, h111, G⟩ := bnd G
 refine x_call' en87 J (F_istrconv_small (L := L) x108 h111 X) (fun v U w hR J => ?_) rfl
 obtain ⟨rfl, X⟩ := hR
 refine x_m J rfl fun U J => ?_
 refine wn (hK107 _ _ ?_)
 refine wp_ret ?_
 cases G
 refine hQ _ _ ?_
 refine lv Tryz.results73 J rfl ?_
 exact ⟨rfl, X⟩
theorem F_strconv_FormatUint {r : World} {L : List HP} {w : World} (a0 : Int) (a1 : Int) {y : ((List UInt8))} (G : strconv_FormatUint a0 a1 = some y) (X : SH r (L) w) :
  Ret Tryz.prog 52 #[.int .u64 a0, .int .i64 a1] w fun v w' => v = str y ∧ SH r (L) w' := by
 refine enter Tryz.func52 rfl Tryz.ntmps52 [(0, .int .u64 a0), (1, .int .i64 a1)] rfl (by simp) ?_
 intro U J Qf hQ hQn
 unfold strconv_FormatUint at G
 refine ws fun K100 hK100 => ?_
 refine x_m J rfl fun U J => ?_
 refine wn (hK100 _ _ ?_)
 refine ws fun K101 hK101 => ?_
 refine x_m J rfl fun U J => ?_
 refine x_m J rfl fun U J => ?_
 obtain ⟨y102, h103, G⟩ := bnd G
 refine x_call' en73 J (F_istrconv_FormatUint (L := L) a0 a1 h103 X) (fun v U w hR J => ?_) rfl
 obtain ⟨rfl, X⟩ := hR
 refine x_m J rfl fun U J => ?_
 refine wn (hK101 _ _ ?_)
 refine wp_ret ?_
 cases G
 refine hQ _ _ ?_
 refine lv Tryz.results52 J rfl ?_
 exact ⟨rfl, X⟩
end Go.Proofs.YtffdckhgkhhbjaaGreatDoor.M
namespace Go.Proofs
open Go.Shelf
def Tryz.cutL_ren : Go.Shelf.Ren := ⟨fun | 145 => 45 | 220 => 63 | 219 => 78 | 217 => 93 | 225 => 94 | 224 => 95 | 267 => 96 | 266 => 108 | 314 => 109 | n => n, fun | 9 => 9 | 4 => 4 | 59 => 96 | 3 => 3 | 5 => 5 | 46 => 114 | 146 => 157 | 51 => 47 | n => n, fun | 1 => 1 | n => n⟩
theorem Tryz.cutL : Go.Proofs.Lays.n145 Tryz.prog Tryz.cutL_ren := {
  mixed := by kernel_rfl
  f145 := Tryz.func45.trans (congrArg some (by kernel_rfl))
  f217 := Tryz.func93.trans (congrArg some (by kernel_rfl))
  f219 := Tryz.func78.trans (congrArg some (by kernel_rfl))
  f220 := Tryz.func63.trans (congrArg some (by kernel_rfl))
  f224 := Tryz.func95.trans (congrArg some (by kernel_rfl))
  f225 := Tryz.func94.trans (congrArg some (by kernel_rfl))
  f266 := Tryz.func108.trans (congrArg some (by kernel_rfl))
  f267 := Tryz.func96.trans (congrArg some (by kernel_rfl))
  f314 := Tryz.func109.trans (congrArg some (by kernel_rfl))
  t3 := Tryz.underlying3
  a3 := Tryz.isAgg3
  z3 := Tryz.sizeOf3
  v3 := Tryz.zeroValue3
  t4 := Tryz.underlying4
  a4 := Tryz.isAgg4
  z4 := Tryz.sizeOf4
  v4 := Tryz.zeroValue4
  t5 := Tryz.underlying5
  a5 := Tryz.isAgg5
  z5 := Tryz.sizeOf5
  v5 := Tryz.zeroValue5
  t9 := Tryz.underlying9
  a9 := Tryz.isAgg9
  z9 := Tryz.sizeOf9
  v9 := Tryz.zeroValue9
  t46 := Tryz.underlying114
  a46 := Tryz.isAgg114
  z46 := Tryz.sizeOf114
  v46 := Tryz.zeroValue114
  t51 := Tryz.underlying47
  a51 := Tryz.isAgg47
  z51 := Tryz.sizeOf47
  v51 := Tryz.zeroValue47
  t59 := Tryz.underlying96
  a59 := Tryz.isAgg96
  z59 := Tryz.sizeOf96
  v59 := Tryz.zeroValue96
  t146 := Tryz.underlying157
  a146 := Tryz.isAgg157
  z146 := Tryz.sizeOf157
  v146 := Tryz.zeroValue157
  g1 := by kernel_rfl }
def Tryz.puL_ren : Go.Shelf.Ren := ⟨fun | 14 => 46 | 16 => 64 | 17 => 65 | 19 => 79 | 20 => 80 | 21 => 81 | 22 => 82 | 23 => 83 | 24 => 84 | 25 => 97 | 27 => 99 | 26 => 98 | 28 => 110 | 29 => 114 | 30 => 87 | 31 => 88 | 32 => 89 | 33 => 90 | 35 => 103 | 34 => 102 | 36 => 104 | 37 => 105 | 38 => 106 | 39 => 112 | 40 => 113 | n => n, fun | 9 => 9 | 3 => 3 | 22 => 30 | 24 => 99 | 25 => 100 | 4 => 4 | 34 => 132 | 5 => 5 | 36 => 114 | 37 => 29 | 0 => 0 | 39 => 134 | 21 => 21 | 44 => 149 | 47 => 159 | 50 => 162 | 48 => 160 | 2 => 2 | 52 => 139 | 55 => 142 | 59 => 153 | 60 => 47 | 20 => 20 | 61 => 154 | 65 => 166 | 66 => 167 | 67 => 168 | n => n, fun | 0 => 2 | 1 => 3 | 2 => 4 | 3 => 6 | 4 => 7 | n => n⟩
theorem Tryz.puL : Go.Proofs.LaysPu.n14 Tryz.prog Tryz.puL_ren := {
  mixed := by kernel_rfl
  f14 := Tryz.func46.trans (congrArg some (by kernel_rfl))
  f16 := Tryz.func64.trans (congrArg some (by kernel_rfl))
  f17 := Tryz.func65.trans (congrArg some (by kernel_rfl))
  f19 := Tryz.func79.trans (congrArg some (by kernel_rfl))
  f20 := Tryz.func80.trans (congrArg some (by kernel_rfl))
  f21 := Tryz.func81.trans (congrArg some (by kernel_rfl))
  f22 := Tryz.func82.trans (congrArg some (by kernel_rfl))
  f23 := Tryz.func83.trans (congrArg some (by kernel_rfl))
  f24 := Tryz.func84.trans (congrArg some (by kernel_rfl))
  f25 := Tryz.func97.trans (congrArg some (by kernel_rfl))
  f26 := Tryz.func98.trans (congrArg some (by kernel_rfl))
  f27 := Tryz.func99.trans (congrArg some (by kernel_rfl))
  f28 := Tryz.func110.trans (congrArg some (by kernel_rfl))
  f29 := Tryz.func114.trans (congrArg some (by kernel_rfl))
  f30 := Tryz.func87.trans (congrArg some (by kernel_rfl))
  f31 := Tryz.func88.trans (congrArg some (by kernel_rfl))
  f32 := Tryz.func89.trans (congrArg some (by kernel_rfl))
  f33 := Tryz.func90.trans (congrArg some (by kernel_rfl))
  f34 := Tryz.func102.trans (congrArg some (by kernel_rfl))
  f35 := Tryz.func103.trans (congrArg some (by kernel_rfl))
  f36 := Tryz.func104.trans (congrArg some (by kernel_rfl))
  f37 := Tryz.func105.trans (congrArg some (by kernel_rfl))
  f38 := Tryz.func106.trans (congrArg some (by kernel_rfl))
  f39 := Tryz.func112.trans (congrArg some (by kernel_rfl))
  f40 := Tryz.func113.trans (congrArg some (by kernel_rfl))
  t0 := Tryz.underlying0
  a0 := Tryz.isAgg0
  z0 := Tryz.sizeOf0
  v0 := Tryz.zeroValue0
  i0 := by kernel_rfl
  t2 := Tryz.underlying2
  a2 := Tryz.isAgg2
  z2 := Tryz.sizeOf2
  v2 := Tryz.zeroValue2
  i2 := by kernel_rfl
  t3 := Tryz.underlying3
  a3 := Tryz.isAgg3
  z3 := Tryz.sizeOf3
  v3 := Tryz.zeroValue3
  i3 := by kernel_rfl
  t4 := Tryz.underlying4
  a4 := Tryz.isAgg4
  z4 := Tryz.sizeOf4
  v4 := Tryz.zeroValue4
  i4 := by kernel_rfl
  t5 := Tryz.underlying5
  a5 := Tryz.isAgg5
  z5 := Tryz.sizeOf5
  v5 := Tryz.zeroValue5
  i5 := by kernel_rfl
  t9 := Tryz.underlying9
  a9 := Tryz.isAgg9
  z9 := Tryz.sizeOf9
  v9 := Tryz.zeroValue9
  i9 := by kernel_rfl
  t20 := Tryz.underlying20
  a20 := Tryz.isAgg20
  z20 := Tryz.sizeOf20
  v20 := Tryz.zeroValue20
  i20 := by kernel_rfl
  t21 := Tryz.underlying21
  a21 := Tryz.isAgg21
  z21 := Tryz.sizeOf21
  v21 := Tryz.zeroValue21
  i21 := by kernel_rfl
  t22 := Tryz.underlying30
  a22 := Tryz.isAgg30
  z22 := Tryz.sizeOf30
  v22 := Tryz.zeroValue30
  i22 := by kernel_rfl
  t24 := Tryz.underlying99
  a24 := Tryz.isAgg99
  z24 := Tryz.sizeOf99
  v24 := Tryz.zeroValue99
  i24 := by kernel_rfl
  t25 := Tryz.underlying100
  a25 := Tryz.isAgg100
  z25 := Tryz.sizeOf100
  v25 := Tryz.zeroValue100
  i25 := by kernel_rfl
  t34 := Tryz.underlying132
  a34 := Tryz.isAgg132
  z34 := Tryz.sizeOf132
  v34 := Tryz.zeroValue132
  i34 := by kernel_rfl
  c34 := by kernel_rfl
  t36 := Tryz.underlying114
  a36 := Tryz.isAgg114
  z36 := Tryz.sizeOf114
  v36 := Tryz.zeroValue114
  i36 := by kernel_rfl
  t37 := Tryz.underlying29
  a37 := Tryz.isAgg29
  z37 := Tryz.sizeOf29
  v37 := Tryz.zeroValue29
  i37 := by kernel_rfl
  t39 := Tryz.underlying134
  a39 := Tryz.isAgg134
  z39 := Tryz.sizeOf134
  v39 := Tryz.zeroValue134
  i39 := by kernel_rfl
  t44 := Tryz.underlying149
  a44 := Tryz.isAgg149
  z44 := Tryz.sizeOf149
  v44 := Tryz.zeroValue149
  i44 := by kernel_rfl
  t47 := Tryz.underlying159
  a47 := Tryz.isAgg159
  z47 := Tryz.sizeOf159
  v47 := Tryz.zeroValue159
  i47 := by kernel_rfl
  t48 := Tryz.underlying160
  a48 := Tryz.isAgg160
  z48 := Tryz.sizeOf160
  v48 := Tryz.zeroValue160
  i48 := by kernel_rfl
  t50 := Tryz.underlying162
  a50 := Tryz.isAgg162
  z50 := Tryz.sizeOf162
  v50 := Tryz.zeroValue162
  i50 := by kernel_rfl
  t52 := Tryz.underlying139
  a52 := Tryz.isAgg139
  z52 := Tryz.sizeOf139
  v52 := Tryz.zeroValue139
  i52 := by kernel_rfl
  t55 := Tryz.underlying142
  a55 := Tryz.isAgg142
  z55 := Tryz.sizeOf142
  v55 := Tryz.zeroValue142
  i55 := by kernel_rfl
  t59 := Tryz.underlying153
  a59 := Tryz.isAgg153
  z59 := Tryz.sizeOf153
  v59 := Tryz.zeroValue153
  i59 := by kernel_rfl
  t60 := Tryz.underlying47
  a60 := Tryz.isAgg47
  z60 := Tryz.sizeOf47
  v60 := Tryz.zeroValue47
  i60 := by kernel_rfl
  t61 := Tryz.underlying154
  a61 := Tryz.isAgg154
  z61 := Tryz.sizeOf154
  t65 := Tryz.underlying166
  a65 := Tryz.isAgg166
  z65 := Tryz.sizeOf166
  v65 := Tryz.zeroValue166
  i65 := by kernel_rfl
  t66 := Tryz.underlying167
  a66 := Tryz.isAgg167
  z66 := Tryz.sizeOf167
  v66 := Tryz.zeroValue167
  i66 := by kernel_rfl
  t67 := Tryz.underlying168
  a67 := Tryz.isAgg168
  z67 := Tryz.sizeOf168
  v67 := Tryz.zeroValue168
  i67 := by kernel_rfl
  g0 := by kernel_rfl
  m0 := by kernel_rfl
  g1 := by kernel_rfl
  m1 := by kernel_rfl
  g2 := by kernel_rfl
  m2 := by kernel_rfl
  g3 := by kernel_rfl
  m3 := by kernel_rfl
  g4 := by kernel_rfl
  m4 := by kernel_rfl }
end Go.Proofs
namespace Go.Proofs.YtffdckhgkhhbjaaGreatDoor.M
open Go Go.RowKit Go.Proofs.YtffdckhgkhhbjaaGreatDoor.E
set_option linter.unusedVariables false
noncomputable section
set_option linter.unusedSimpArgs false
def strings_Cut (a0 : (List UInt8)) (a1 : (List UInt8)) : Option ((List UInt8) × (List UInt8) × Bool) :=
  chk (a0.length < 4294967281) (some (Lib.cut a0 a1))
def strconv_ParseUint (a0 : (List UInt8)) (a1 : Int) (a2 : Int) : Option (Int × Bool) :=
  chk (a1 = 10 ∧ a2 = 32 ∧ a0.length ≤ 281474976710656) (match Lib.parseUintB 32 a0 with | .ok u => some ((u : Int), false) | .range => some (4294967295, true) | _ => some (0, true))
end
set_option maxRecDepth 100000
set_option maxHeartbeats 4000000
set_option linter.unusedSimpArgs false
theorem F_strings_Cut {r : World} {L : List HP} {w : World} {Z : Nat → Prop} {wz : World} (a0 : (List UInt8)) (a1 : (List UInt8)) {y : ((List UInt8) × (List UInt8) × Bool)} (G : strings_Cut a0 a1 = some y) (qz : Nat) (hZ : L[qz]? = some (zone Z wz)) (hG1 : Gc Z wz 1 isI64) (X : SH r (L) w) :
  Ret Tryz.prog 45 #[str a0, str a1] w fun v w' => v = .tuple #[(str y.1), (str y.2.1), (.bool y.2.2)] ∧ SH r (L) w' := by
 obtain ⟨hlt, G⟩ := chk_some G
 cases G
 obtain ⟨_, hv, m, rfl⟩ := Gc.at_ hG1 X qz hZ
 refine Calls.mono (Any.strings_Cut Tryz.cutL ⟨a0.toArray⟩ ⟨a1.toArray⟩ m w (by simpa [ByteArray.size] using hlt) hv) ?_
 rintro e w' ⟨rfl, n, rfl⟩
 exact ⟨_, rfl, rfl, X.drewN n⟩
theorem F_strconv_ParseUint {r : World} {L : List HP} {w : World} {Z : Nat → Prop} {wz : World} (a0 : (List UInt8)) (a1 : Int) (a2 : Int) {y : (Int × Bool)} (G : strconv_ParseUint a0 a1 a2 = some y) (qz : Nat) (hZ : L[qz]? = some (zone Z wz)) (hG2 : Gc Z wz 2 isEr) (hG3 : Gc Z wz 3 isEr) (X : SH r (L) w) :
  Ret Tryz.prog 46 #[str a0, .int .i64 a1, .int .i64 a2] w fun v w' => ∃ (E1 : Value), v = .tuple #[(.int .u64 y.1), E1] ∧ ErV y.2 E1 ∧ SH r (L) w' := by
 have q := chk_some G
 clear G
 obtain ⟨⟨rfl, rfl, hlt⟩, G⟩ := q
 have hsz : (⟨a0.toArray⟩ : ByteArray).size = a0.length := by simp [ByteArray.size]
 rcases hu : Lib.parseUintB 32 a0 with u | _ | _
 ·rw [hu] at G
  cases G
  refine Calls.mono (Any.strconv_ParseUint_10_at32_ok Tryz.puL ⟨a0.toArray⟩ (by omega) u hu w) ?_
  rintro e w' ⟨rfl, hw⟩
  refine ⟨_, rfl, _, rfl, rfl, ?_⟩
  rcases hw with rfl | rfl
  ·exact X
  ·exact X.bel (Lib.bytesWorld_below _ _ _)
 ·rw [hu] at G
  cases G
  obtain ⟨ev, hv, hev⟩ := Gc.at_ hG2 X qz hZ
  refine Calls.mono (Any.strconv_ParseUint_10_at32_syntax Tryz.puL ⟨a0.toArray⟩ (by omega) hu ev w hv hev) ?_
  rintro e w' ⟨N, rfl, _, _, hb⟩
  exact ⟨_, rfl, _, rfl, ⟨_, _, rfl⟩, X.bel hb⟩
 ·rw [hu] at G
  cases G
  obtain ⟨ev, hv, hev⟩ := Gc.at_ hG3 X qz hZ
  refine Calls.mono (Any.strconv_ParseUint_10_at32_range Tryz.puL ⟨a0.toArray⟩ (by omega) hu ev w hv hev) ?_
  rintro e w' ⟨N, rfl, _, _, hb⟩
  exact ⟨_, rfl, _, rfl, ⟨_, _, rfl⟩, X.bel hb⟩
noncomputable section
set_option linter.unusedSimpArgs false
def commit_file (a0 : (List UInt8)) (a1 : Int) : Option ((List UInt8)) :=
  chk (a0.length + [46].length ≤ maxLen) ((strconv_FormatUint a1 10).bind fun y104 => (chk ((a0 ++ [46]).length + y104.length ≤ maxLen) (some ((a0 ++ [46]) ++ y104))))
def commit_lost (a0 : Int) : Option (Int) :=
  if (a0 == 5) = true then (some 3) else (some a0)
def commit_last_1 (a0 : S121) (a1 : Int) : Option ((S121 × Int) ⊕ (S121 × Int)) :=
  (column_Reader_Uint a0 500).bind fun y105 => (sum_ y105 (fun y105 => (some (.inl (y105.2, y105.1)))) (fun y105 => (some (.inr (y105, a1)))))
def Try_commit_last_1 (a0 : (List Int)) (a60 : Int) : Option (Bool × Int) :=
  (commit_last_1 (⟨a0⟩ : S121) a60).bind fun y => (sum_ y (fun y => some ((((y.1.f0.length : Int) == 0), y.2))) (fun y => some ((false, y.2))))
def commit_last_j1 (a0 : S66) (x153 : Int) (b154 : Bool) : Option (Int × Int × S66) :=
  if b154 = true then (some (0, 3, a0)) else (some (x153, 0, a0))
def commit_last (a0 : S66) : Option (Int × Int × S66) :=
  (files_Store_Read (some a0) [109, 97, 110]).bind fun y106 => (if (y106.2 == 5) = true then (some (0, 0, a0)) else (if (y106.2 == 0) = true then ((page_One y106.1 109).bind fun y129 => (if (y129.2 != 0) = true then (some (0, y129.2, a0)) else ((Try_commit_last_1 y129.1 0).bind fun y163 => (if (!y163.1) = true then (commit_last_j1 a0 y163.2 true) else (commit_last_j1 a0 y163.2 (y163.2 == 0)))))) else (some (0, y106.2, a0))))
def commit_sweep_b1 (l2281 : (List S72)) (x2285 : Int) (x2286 : Int) (b2287 : Bool) (x2288 : Int) : Option (Int × S66) :=
  some (0, (⟨l2281, x2285, x2286, b2287, x2288⟩ : S66))
def commit_sweep_x1_0 (l2769 : (List S72)) (x2773 : Int) (x2774 : Int) (b2775 : Bool) (x2776 : Int) : Option (Int × S66) :=
  commit_sweep_b1 l2769 x2773 x2774 b2775 x2776
def commit_sweep_b2 (x2533 : Int) (l2943 : (List S72)) (x2947 : Int) (x2948 : Int) (b2949 : Bool) (x2950 : Int) : Option (((List S72) × Int × Int × Bool × Int × Int) ⊕ (((List S72) × Int × Int × Bool × Int) ⊕ (Int × S66))) :=
  ltt (IntKind.i64.wrap (x2533 + 1)) fun x2951 => (some (.inl (l2943, x2947, x2948, b2949, x2950, x2951)))
def commit_sweep_j2 (l2525 : (List S72)) (x2529 : Int) (x2530 : Int) (b2531 : Bool) (x2532 : Int) (x2533 : Int) (x2954 : (List UInt8)) (b2978 : Bool) : Option (((List S72) × Int × Int × Bool × Int × Int) ⊕ (((List S72) × Int × Int × Bool × Int) ⊕ (Int × S66))) :=
  if b2978 = true then ((files_Store_Delete (some (⟨l2525, x2529, x2530, b2531, x2532⟩ : S66)) x2954).bind fun y2981 => ((y2981.2).bind fun o2983 => (if (y2981.1 != 0) = true then (some (.inr (.inr (y2981.1, o2983)))) else (commit_sweep_b2 x2533 o2983.f0 o2983.f1 o2983.f2 o2983.f3 o2983.f4)))) else (commit_sweep_b2 x2533 l2525 x2529 x2530 b2531 x2532)
def commit_sweep_j1 (l2525 : (List S72)) (x2529 : Int) (x2530 : Int) (b2531 : Bool) (x2532 : Int) (x2533 : Int) (x2954 : (List UInt8)) (y2958 : ((List UInt8) × (List UInt8) × Bool)) (b2973 : Bool) : Option (((List S72) × Int × Int × Bool × Int × Int) ⊕ (((List S72) × Int × Int × Bool × Int) ⊕ (Int × S66))) :=
  if (x2954 == [109, 97, 110, 46, 116, 109, 112]) = true then (commit_sweep_j2 l2525 x2529 x2530 b2531 x2532 x2533 x2954 true) else (if (y2958.1 == [115, 116, 97, 116, 101]) = true then (commit_sweep_j2 l2525 x2529 x2530 b2531 x2532 x2533 x2954 b2973) else (if (y2958.1 == [111, 117, 116]) = true then (commit_sweep_j2 l2525 x2529 x2530 b2531 x2532 x2533 x2954 b2973) else (commit_sweep_j2 l2525 x2529 x2530 b2531 x2532 x2533 x2954 false)))
def commit_sweep_l1 (a1 : Int) (y1556 : ((List (List UInt8)))) (l2525 : (List S72)) (x2529 : Int) (x2530 : Int) (b2531 : Bool) (x2532 : Int) (x2533 : Int) : Option (((List S72) × Int × Int × Bool × Int × Int) ⊕ (((List S72) × Int × Int × Bool × Int) ⊕ (Int × S66))) :=
  if (decide (x2533 < (y1556.length : Int))) = true then ((at_ y1556 x2533).bind fun x2954 => ((strings_Cut x2954 [46]).bind fun y2958 => ((strconv_ParseUint y2958.2.1 10 32).bind fun y2961 => (if y2961.2 = true then (commit_sweep_j1 l2525 x2529 x2530 b2531 x2532 x2533 x2954 y2958 true) else (if (y2958.1 == [115, 116, 97, 116, 101]) = true then (if (y2961.1 != a1) = true then (commit_sweep_j1 l2525 x2529 x2530 b2531 x2532 x2533 x2954 y2958 true) else (if (y2958.1 == [111, 117, 116]) = true then (if (y2961.1 == 0) = true then (commit_sweep_j1 l2525 x2529 x2530 b2531 x2532 x2533 x2954 y2958 true) else (commit_sweep_j1 l2525 x2529 x2530 b2531 x2532 x2533 x2954 y2958 (decide (a1 < y2961.1)))) else (commit_sweep_j1 l2525 x2529 x2530 b2531 x2532 x2533 x2954 y2958 false))) else (if (y2958.1 == [111, 117, 116]) = true then (if (y2961.1 == 0) = true then (commit_sweep_j1 l2525 x2529 x2530 b2531 x2532 x2533 x2954 y2958 true) else (commit_sweep_j1 l2525 x2529 x2530 b2531 x2532 x2533 x2954 y2958 (decide (a1 < y2961.1)))) else (commit_sweep_j1 l2525 x2529 x2530 b2531 x2532 x2533 x2954 y2958 false))))))) else (some (.inr (.inl (l2525, x2529, x2530, b2531, x2532))))
def commit_sweep (a0 : S66) (a1 : Int) : Option (Int × S66) :=
  (files_Store_List (some a0)).bind fun y1556 => ((loop (fun s => commit_sweep_l1 a1 y1556 s.1 s.2.1 s.2.2.1 s.2.2.2.1 s.2.2.2.2.1 s.2.2.2.2.2) (a0.f0, a0.f1, a0.f2, a0.f3, a0.f4, 0)).bind fun t => match t with | (.inl t) => commit_sweep_x1_0 t.1 t.2.1 t.2.2.1 t.2.2.2.1 t.2.2.2.2 | (.inr t) => some t)
def commit_put_j1 (l123 : (List S72)) (x127 : Int) (x128 : Int) (b129 : Bool) (x130 : Int) (x131 : Int) : Option (Int × S66) :=
  some (x131, (⟨l123, x127, x128, b129, x130⟩ : S66))
def commit_put (a0 : S66) (a1 : (List UInt8)) (a2 : (List Int)) : Option (Int × S66) :=
  (files_Store_Append (some a0) a1 a2).bind fun y106 => ((y106.2).bind fun o108 => (if (y106.1 == 0) = true then ((files_Store_Sync (some o108) a1).bind fun y135 => ((y135.2).bind fun o137 => (commit_put_j1 o137.f0 o137.f1 o137.f2 o137.f3 o137.f4 y135.1))) else (commit_put_j1 o108.f0 o108.f1 o108.f2 o108.f3 o108.f4 y106.1)))
def commit_write (a0 : S66) (a1 : Int) (a2 : (List Int)) (a3 : (List S63)) : Option (Int × S66) :=
  (commit_file [111, 117, 116] a1).bind fun y107 => ((ledger_Lay a3).bind fun y109 => ((commit_put a0 y107 y109).bind fun y114 => (if (y114.1 != 0) = true then (some (y114.1, y114.2)) else ((commit_file [115, 116, 97, 116, 101] a1).bind fun y124 => ((commit_put y114.2 y124 a2).bind fun y126 => (if (y126.1 != 0) = true then (some (y126.1, y126.2)) else ((column_Uint [] a1).bind fun y136 => ((page_Lay [] 109 y136).bind fun y141 => ((commit_put y126.2 [109, 97, 110, 46, 116, 109, 112] y141).bind fun y146 => (if (y146.1 != 0) = true then (some (y146.1, y146.2)) else ((files_Store_Rename (some y146.2) [109, 97, 110, 46, 116, 109, 112] [109, 97, 110]).bind fun y155 => ((y155.2).bind fun o157 => (some (y155.1, o157))))))))))))))
def commit_Put_j5 (a1 : Int) (y120 : (Int × Int × S66)) (l167 : (List S72)) (x171 : Int) (x172 : Int) (b173 : Bool) (x174 : Int) (x175 : Int) (b179 : Bool) : Option (Int × (Option S66)) :=
  if b179 = true then ((commit_sweep (⟨l167, x171, x172, b173, x174⟩ : S66) y120.1).bind fun y182 => (some (x175, some y182.2))) else (if (x175 == 0) = true then ((commit_sweep (⟨l167, x171, x172, b173, x174⟩ : S66) a1).bind fun y192 => (some (y192.1, some y192.2))) else (some (x175, some (⟨l167, x171, x172, b173, x174⟩ : S66))))
def commit_Put_j4 (a1 : Int) (y120 : (Int × Int × S66)) (l167 : (List S72)) (x171 : Int) (x172 : Int) (b173 : Bool) (x174 : Int) (x175 : Int) : Option (Int × (Option S66)) :=
  if (x175 != 0) = true then (commit_Put_j5 a1 y120 l167 x171 x172 b173 x174 x175 (x175 != 9)) else (commit_Put_j5 a1 y120 l167 x171 x172 b173 x174 x175 false)
def commit_Put_j3 (a1 : Int) (a2 : (List Int)) (a3 : (List S63)) (y120 : (Int × Int × S66)) (l150 : (List S72)) (x154 : Int) (x155 : Int) (b156 : Bool) (x157 : Int) (x158 : Int) : Option (Int × (Option S66)) :=
  if (x158 == 0) = true then ((commit_write (⟨l150, x154, x155, b156, x157⟩ : S66) a1 a2 a3).bind fun y201 => (commit_Put_j4 a1 y120 y201.2.f0 y201.2.f1 y201.2.f2 y201.2.f3 y201.2.f4 y201.1)) else (commit_Put_j4 a1 y120 l150 x154 x155 b156 x157 x158)
def commit_Put_j2 (a1 : Int) (a2 : (List Int)) (a3 : (List S63)) (y120 : (Int × Int × S66)) (x141 : Int) : Option (Int × (Option S66)) :=
  if (x141 == 0) = true then ((commit_sweep y120.2.2 y120.1).bind fun y208 => (commit_Put_j3 a1 a2 a3 y120 y208.2.f0 y208.2.f1 y208.2.f2 y208.2.f3 y208.2.f4 y208.1)) else (commit_Put_j3 a1 a2 a3 y120 y120.2.2.f0 y120.2.2.f1 y120.2.2.f2 y120.2.2.f3 y120.2.2.f4 x141)
def commit_Put_j6 (a1 : Int) (a2 : (List Int)) (a3 : (List S63)) (y120 : (Int × Int × S66)) (b217 : Bool) : Option (Int × (Option S66)) :=
  if b217 = true then (commit_Put_j2 a1 a2 a3 y120 7) else (commit_Put_j2 a1 a2 a3 y120 y120.2.1)
def commit_Put_j1 (a1 : Int) (a2 : (List Int)) (a3 : (List S63)) (x101 : S66) (b116 : Bool) : Option (Int × (Option S66)) :=
  if b116 = true then (some (1, some x101)) else ((commit_last x101).bind fun y120 => (if (y120.2.1 == 0) = true then (ltt (IntKind.u64.wrap (a1 - 1)) fun x220 => (commit_Put_j6 a1 a2 a3 y120 (y120.1 != x220))) else (commit_Put_j6 a1 a2 a3 y120 false)))
def commit_Put (a0 : (Option S66)) (a1 : Int) (a2 : (List Int)) (a3 : (List S63)) : Option (Int × (Option S66)) :=
  match a0 with | none => (some (5, none)) | some x101 => (if (decide (a1 < 1)) = true then (commit_Put_j1 a1 a2 a3 x101 true) else (commit_Put_j1 a1 a2 a3 x101 (decide (125 < a1))))
def commit_Recover_b1 (y114 : (Int × Int × S66)) (l130 : (List S72)) (x134 : Int) (x135 : Int) (b136 : Bool) (x137 : Int) (y148 : ((List Int) × Int)) (l775 : (List S63)) : Option (Int × (List Int) × (List S63) × Int × (Option S66)) :=
  some (y114.1, y148.1, l775, 0, some (⟨l130, x134, x135, b136, x137⟩ : S66))
def commit_Recover_x1_0 (y114 : (Int × Int × S66)) (l130 : (List S72)) (x134 : Int) (x135 : Int) (b136 : Bool) (x137 : Int) (y148 : ((List Int) × Int)) (l923 : (List S63)) : Option (Int × (List Int) × (List S63) × Int × (Option S66)) :=
  commit_Recover_b1 y114 l130 x134 x135 b136 x137 y148 l923
def commit_Recover_l1 (y114 : (Int × Int × S66)) (l130 : (List S72)) (x134 : Int) (x135 : Int) (b136 : Bool) (x137 : Int) (l853 : (List S63)) (x857 : Int) : Option (((List S63) × Int) ⊕ (((List S63)) ⊕ (Int × (List Int) × (List S63) × Int × (Option S66)))) :=
  if (decide (x857 ≤ y114.1)) = true then ((commit_file [111, 117, 116] x857).bind fun y934 => ((files_Store_Read (some (⟨l130, x134, x135, b136, x137⟩ : S66)) y934).bind fun y936 => (if (y936.2 != 0) = true then ((commit_lost y936.2).bind fun y950 => (some (.inr (.inr (0, [], [], y950, some (⟨l130, x134, x135, b136, x137⟩ : S66)))))) else ((ledger_Read y936.1).bind fun y957 => (if (y957.2 != 0) = true then (some (.inr (.inr (0, [], [], y957.2, some (⟨l130, x134, x135, b136, x137⟩ : S66))))) else (chk (l853.length + y957.1.length ≤ 140737488355328 / 88) (ltt (IntKind.u64.wrap (x857 + 1)) fun x974 => (some (.inl (l853 ++ y957.1, x974)))))))))) else (some (.inr (.inl (l853))))
def commit_Recover_j2 (y114 : (Int × Int × S66)) (l130 : (List S72)) (x134 : Int) (x135 : Int) (b136 : Bool) (x137 : Int) (x138 : Int) (b142 : Bool) : Option (Int × (List Int) × (List S63) × Int × (Option S66)) :=
  if b142 = true then (some (0, [], [], x138, some (⟨l130, x134, x135, b136, x137⟩ : S66))) else ((commit_file [115, 116, 97, 116, 101] y114.1).bind fun y146 => ((files_Store_Read (some (⟨l130, x134, x135, b136, x137⟩ : S66)) y146).bind fun y148 => (if (y148.2 != 0) = true then ((commit_lost y148.2).bind fun y162 => (some (0, [], [], y162, some (⟨l130, x134, x135, b136, x137⟩ : S66)))) else ((loop (fun s => commit_Recover_l1 y114 l130 x134 x135 b136 x137 s.1 s.2) ([], 1)).bind fun t => match t with | (.inl t) => commit_Recover_x1_0 y114 l130 x134 x135 b136 x137 y148 t | (.inr t) => some t))))
def commit_Recover_j1 (y114 : (Int × Int × S66)) (l130 : (List S72)) (x134 : Int) (x135 : Int) (b136 : Bool) (x137 : Int) (x138 : Int) : Option (Int × (List Int) × (List S63) × Int × (Option S66)) :=
  if (x138 != 0) = true then (commit_Recover_j2 y114 l130 x134 x135 b136 x137 x138 true) else (commit_Recover_j2 y114 l130 x134 x135 b136 x137 x138 (y114.1 == 0))
def commit_Recover (a0 : (Option S66)) : Option (Int × (List Int) × (List S63) × Int × (Option S66)) :=
  match a0 with | none => (some (0, [], [], 5, none)) | some x101 => ((commit_last x101).bind fun y114 => (if (y114.2.1 == 0) = true then ((commit_sweep y114.2.2 y114.1).bind fun y979 => (commit_Recover_j1 y114 y979.2.f0 y979.2.f1 y979.2.f2 y979.2.f3 y979.2.f4 y979.1)) else (commit_Recover_j1 y114 y114.2.2.f0 y114.2.2.f1 y114.2.2.f2 y114.2.2.f3 y114.2.2.f4 y114.2.1)))
end
theorem F_commit_file {r : World} {L : List HP} {w : World} (a0 : (List UInt8)) (a1 : Int) {y : ((List UInt8))} (G : commit_file a0 a1 = some y) (X : SH r (L) w) :
  Ret Tryz.prog 28 #[str a0, .int .u64 a1] w fun v w' => v = str y ∧ SH r (L) w' := by
 refine enter Tryz.func28 rfl Tryz.ntmps28 [(0, str a0), (1, .int .u64 a1)] rfl (by simp) ?_
 intro U J Qf hQ hQn
 unfold commit_file at G
 refine ws fun K100 hK100 => ?_
 refine x_m J rfl fun U J => ?_
 refine wn (hK100 _ _ ?_)
 refine ws fun K101 hK101 => ?_
 refine x_m J rfl fun U J => ?_
 obtain ⟨h102, G⟩ := chk_some G
 refine x_v J (r_catS rfl (J.ev rfl) (J.ev rfl) h102) rfl fun U J => ?_
 refine x_m J rfl fun U J => ?_
 obtain ⟨y103, h104, G⟩ := bnd G
 refine x_call' en52 J (F_strconv_FormatUint (L := L) a1 10 h104 X) (fun v U w hR J => ?_) rfl
 obtain ⟨rfl, X⟩ := hR
 obtain ⟨h105, G⟩ := chk_some G
 refine x_v J (r_catS rfl (J.ev rfl) (J.ev rfl) h105) rfl fun U J => ?_
 refine x_m J rfl fun U J => ?_
 refine wn (hK101 _ _ ?_)
 refine wp_ret ?_
 cases G
 refine hQ _ _ ?_
 refine lv Tryz.results28 J rfl ?_
 exact ⟨rfl, X⟩
theorem F_commit_lost {r : World} {L : List HP} {w : World} (a0 : Int) {y : (Int)} (G : commit_lost a0 = some y) (X : SH r (L) w) :
  Ret Tryz.prog 29 #[.int .i64 a0] w fun v w' => v = .int .i64 y ∧ SH r (L) w' := by
 refine enter Tryz.func29 rfl Tryz.ntmps29 [(0, .int .i64 a0)] rfl (by simp) ?_
 intro U J Qf hQ hQn
 unfold commit_lost at G
 refine ws fun K100 hK100 => ?_
 refine x_m J rfl fun U J => ?_
 refine wn (hK100 _ _ ?_)
 refine wp_seq_k fun K101 hK101 => ?_
 refine ws fun K102 hK102 => ?_
 refine x_m J rfl fun U J => ?_
 refine x_v J (r_eqI rfl (J.ev rfl) (J.ev rfl)) rfl fun U J => ?_
 refine wn (hK102 _ _ ?_)
 refine c_if J rfl (fun hb103 => ?_) fun hb103 => ?_
 ·replace G := ift hb103 G
  refine ws fun K104 hK104 => ?_
  refine x_m J rfl fun U J => ?_
  refine wn (hK104 _ _ ?_)
  refine wp_ret ?_
  cases G
  refine hQ _ _ ?_
  refine lv Tryz.results29 J rfl ?_
  exact ⟨rfl, X⟩
 replace G := iff' hb103 G
 refine wp_skip ?_
 refine hK101 _ _ ?_
 refine ws fun K105 hK105 => ?_
 refine x_m J rfl fun U J => ?_
 refine x_m J rfl fun U J => ?_
 refine wn (hK105 _ _ ?_)
 refine wp_ret ?_
 cases G
 refine hQ _ _ ?_
 refine lv Tryz.results29 J rfl ?_
 exact ⟨rfl, X⟩
theorem F_commit_last_1 {r : World} {L : List HP} {w : World} {Z : Nat → Prop} {wz : World} (a0 : S121) (a1 : Int) (g0 : Nat) (g1 : Nat) {y : ((S121 × Int) ⊕ (S121 × Int))} (G : commit_last_1 a0 a1 = some y) (qz : Nat) (hZ : L[qz]? = some (zone Z wz)) (X : SH r (obj121 Z wz g0 a0 :: obj30 g1 a1 :: L) w) :
  RetS Tryz.prog 43 #[.pointer (some ⟨g0, 0, none⟩), (pP g1)] w badC y (fun y v w' => v = .tuple #[] ∧ SH r (obj121 Z wz g0 y.1 :: obj30 g1 y.2 :: L) w') (fun y w' => SH r (obj121 Z wz g0 y.1 :: obj30 g1 y.2 :: L) w') := by
 refine enterS Tryz.func43 rfl Tryz.ntmps43 [(0, (pP g0)), (1, (pP g1))] rfl (by simp) ?_
 intro U J Qf hQ hQn hQp
 unfold commit_last_1 at G
 obtain ⟨A100, n101, c102, X⟩ := obj121_open X
 obtain ⟨h103, X⟩ := (X.pk 1).unpure
 replace X := X.pk 1
 replace X := obj30_open X
 refine wp_reg ?_
 refine x_m J rfl fun U J => ?_
 replace X := SH.pure_ h103 X
 replace X := X.pk 2
 replace X := obj121_mk (x := a0) X
 obtain ⟨y104, h105, G⟩ := bnd G
 rcases y104 with y104 | y104
 rotate_left
 ·replace G := sum_r G
  refine x_callp' (vs := #[.pointer (some ⟨g0, 0, none⟩), .int .u64 500]) en44 J (RetS.rf (F_column_Reader_Uint (L := blk g1 30 [.int .u64 a1] :: L) a0 500 g0 h105 (qz + 1) hZ X)) (fun w hR => ?_) rfl
  replace X := hR
  obtain ⟨A106, n107, c108, X⟩ := obj121_open X
  obtain ⟨h109, X⟩ := (X.pk 1).unpure
  replace X := SH.pure_ h109 X
  replace X := X.pk 1
  replace X := obj121_mk (x := y104) X
  replace X := X.pk 1
  replace X := obj30_mk (x := a1) X
  replace X := X.pk 1
  cases G
  exact hQp _ rfl _ _ J.defers X
 replace G := sum_l G
 refine x_callw' (vs := #[.pointer (some ⟨g0, 0, none⟩), .int .u64 500]) en44 J (RetS.lf (F_column_Reader_Uint (L := blk g1 30 [.int .u64 a1] :: L) a0 500 g0 h105 (qz + 1) hZ X)) (fun v U w hR J => ?_) rfl
 obtain ⟨rfl, X⟩ := hR
 obtain ⟨A110, n111, c112, X⟩ := obj121_open X
 obtain ⟨h113, X⟩ := (X.pk 1).unpure
 refine x_stb' 1 sz30 J X rfl (fun  U w X J => ?_) rfl
 refine wpList_nil ?_
 replace X := SH.pure_ h113 X
 replace X := X.pk 2
 replace X := obj121_mk (x := y104.2) X
 replace X := X.pk 1
 replace X := obj30_mk (x := y104.1) X
 replace X := X.pk 1
 cases G
 refine hQn _ rfl _ _ ?_
 refine lv0n Tryz.results43 J ?_
 exact ⟨rfl, X⟩
theorem F_Try_commit_last_1 {r : World} {L : List HP} {w : World} {Z : Nat → Prop} {wz : World} (a0 : (List Int)) (a60 : Int) (A0 : Option Addr) (n0 : Nat) (c0 : Nat) (g60 : Nat) {y : (Bool × Int)} (G : Try_commit_last_1 a0 a60 = some y) (qz : Nat) (hZ : L[qz]? = some (zone Z wz)) (ha0 : Imm Z wz (kI .u8) A0 n0 c0 a0) (X : SH r (obj30 g60 a60 :: L) w) :
  Ret Tryz.prog 42 #[.slice A0 n0 c0, .func (.func 43) #[] #[.pointer (some ⟨g60, 0, none⟩)]] w fun v w' => v = .bool y.1 ∧ SH r (obj30 g60 y.2 :: L) w' := by
 obtain ⟨y', hy, G⟩ := bnd G
 refine Ret.mono_ (try_walk (R := fun v w' => v = .bool y.1 ∧ SH r (obj30 g60 y.2 :: L) w') en43 X (fun g g4 w1 hS1 => ?_)) (fun v w' h => h)
 replace hS1 := obj121_mk (x := ⟨a0⟩) (hS1.pk 1 |> fun h => (SH.pure_ ha0 (h.pk 1)).pk 1)
 replace hS1 := hS1.pk 1
 replace hS1 := hS1.pk 2
 replace hS1 := hS1.pk 2
 rcases y' with y' | y'
 ·replace G := sum_l G
  cases G
  left
  refine Ret.mono_ (RetS.lf (F_commit_last_1 (L := blk g4 4 [.bool false] :: L) (⟨a0⟩ : S121) a60 g g60 hy (qz + 1) hZ hS1)) ?_
  rintro v w2 ⟨rfl, X⟩
  replace X := X.pk 2 |>.pk 1
  obtain ⟨A', n', c', X⟩ := obj121_open X
  have hQ := SH.unpure (X.pk 1)
  clear X
  obtain ⟨hi, X⟩ := hQ
  refine ⟨_, A', n', c', X, fun w3 h3 => ⟨?_, h3⟩⟩
  rw [← hi.ln]
 ·replace G := sum_r G
  cases G
  right
  refine Calls.mono (RetS.rf (F_commit_last_1 (L := blk g4 4 [.bool false] :: L) (⟨a0⟩ : S121) a60 g g60 hy (qz + 1) hZ hS1)) ?_
  rintro e w2 ⟨rfl, X⟩
  replace X := X.pk 2 |>.drop 1
  exact ⟨rfl, _, X, fun w3 h3 => ⟨rfl, h3⟩⟩
theorem F_commit_last {r : World} {L : List HP} {w : World} {Z : Nat → Prop} {wz : World} (a0 : S66) (g0 : Nat) {y : (Int × Int × S66)} (G : commit_last a0 = some y) (hG0 : Imm Z wz (kI .u32) (some ⟨0, 0, none⟩) 16 16 gl_page_table) (X : SH r (obj66 g0 a0 :: zone Z wz :: L) w) :
  Ret Tryz.prog 25 #[.pointer (some ⟨g0, 0, none⟩)] w fun v w' => ∃ (Z' : Nat → Prop) (wz' : World), v = .tuple #[(.int .u64 y.1), (.int .i64 y.2.1)] ∧ Sub Z wz Z' wz' ∧ SH r (obj66 g0 y.2.2 :: zone Z' wz' :: L) w' := by
 refine enter Tryz.func25 rfl Tryz.ntmps25 [(0, (pP g0))] rfl (by simp) ?_
 intro U J Qf hQ hQn
 unfold commit_last at G
 obtain ⟨A100, n101, c102, X⟩ := obj66_open X
 refine ws fun K103 hK103 => ?_
 refine x_m J rfl fun U J => ?_
 refine x_m J rfl fun U J => ?_
 refine wn (hK103 _ _ ?_)
 refine ws fun K104 hK104 => ?_
 refine x_m J rfl fun U J => ?_
 replace X := X.pk 1 |>.pk 1
 replace X := obj66_mk (x := a0) X
 replace X := SH.optS X
 obtain ⟨y105, h106, G⟩ := bnd G
 refine x_call' en17 J (F_files_Store_Read (L := zone Z wz :: L) (some a0) [109, 97, 110] (some ⟨g0, 0, none⟩) h106 X) (fun v U w hR J => ?_) rfl
 obtain ⟨B107, m108, d109, rfl, X⟩ := hR
 replace X := X.pk 1
 replace X := SH.unoptP X
 obtain ⟨A110, n111, c112, X⟩ := obj66_open X
 refine x_m J rfl fun U J => ?_
 refine x_v J (r_extract rfl (J.ev rfl) rfl) rfl fun U J => ?_
 refine x_v J (r_extract rfl (J.ev rfl) rfl) rfl fun U J => ?_
 refine x_m J rfl fun U J => ?_
 refine x_m J rfl fun U J => ?_
 refine wn (hK104 _ _ ?_)
 refine wp_seq_k fun K113 hK113 => ?_
 refine ws fun K114 hK114 => ?_
 refine x_m J rfl fun U J => ?_
 refine wn (hK114 _ _ ?_)
 refine wp_block_k fun Kx115 hKx115 => ?_
 refine ws fun K116 hK116 => ?_
 refine x_v J (r_eqI rfl (J.ev rfl) (J.ev rfl)) rfl fun U J => ?_
 refine x_m J rfl fun U J => ?_
 refine wn (hK116 _ _ ?_)
 refine c_if J rfl (fun hb117 => ?_) fun hb117 => ?_
 ·replace G := ift hb117 G
  refine ws fun K118 hK118 => ?_
  refine x_m J rfl fun U J => ?_
  refine x_m J rfl fun U J => ?_
  refine wn (hK118 _ _ ?_)
  refine wp_ret ?_
  replace X := X.pk 1 |>.pk 1
  replace X := obj66_mk (x := a0) X
  replace X := X.drop 1 |>.pk 1 |>.pk 1
  cases G
  refine hQ _ _ ?_
  refine lv2 Tryz.results25 J rfl rfl ?_
  exact ⟨Z, wz, rfl, (Sub.refl _ _), X⟩
 replace G := iff' hb117 G
 refine ws fun K119 hK119 => ?_
 refine x_v J (r_eqI rfl (J.ev rfl) (J.ev rfl)) rfl fun U J => ?_
 refine x_m J rfl fun U J => ?_
 refine wn (hK119 _ _ ?_)
 refine c_if J rfl (fun hb120 => ?_) fun hb120 => ?_
 ·replace G := ift hb120 G
  refine wp_skip ?_
  refine hKx115 _ _ ?_
  refine hK113 _ _ ?_
  refine ws fun K121 hK121 => ?_
  refine x_m J rfl fun U J => ?_
  replace X := X.pk 3 |>.pk 3
  obtain ⟨Z122, wz123, X, h124, sb128⟩ := SH.freeze (n := m108) (c := d109) (A := B107) X
  obtain ⟨y125, h126, G⟩ := bnd G
  refine x_call' en41 J (F_page_One (L := zone Z122 wz123 :: blk g0 66 [.slice A110 n111 c112, .int .i64 a0.f1, .int .i64 a0.f2, .bool a0.f3, .int .i64 a0.f4] :: own2 kp72 (kI .u8) 5 (fun x : S72 => x.f1) 72 A110 n111 c112 a0.f0 :: L) y105.1 109 B107 m108 d109 h126 0 rfl h124 (Imm.sub hG0 sb128) X) (fun v U w hR J => ?_) rfl
  obtain ⟨B127, m128, d129, rfl, X⟩ := hR
  refine x_m J rfl fun U J => ?_
  refine x_v J (r_extract rfl (J.ev rfl) rfl) rfl fun U J => ?_
  refine x_v J (r_extract rfl (J.ev rfl) rfl) rfl fun U J => ?_
  refine x_m J rfl fun U J => ?_
  refine x_m J rfl fun U J => ?_
  refine wn (hK121 _ _ ?_)
  refine wp_seq_k fun K130 hK130 => ?_
  refine ws fun K131 hK131 => ?_
  refine x_m J rfl fun U J => ?_
  refine x_v J (r_neI rfl (J.ev rfl) (J.ev rfl)) rfl fun U J => ?_
  refine wn (hK131 _ _ ?_)
  refine c_if J rfl (fun hb132 => ?_) fun hb132 => ?_
  ·replace G := ift hb132 G
   refine ws fun K133 hK133 => ?_
   refine x_m J rfl fun U J => ?_
   refine x_m J rfl fun U J => ?_
   refine x_m J rfl fun U J => ?_
   refine wn (hK133 _ _ ?_)
   refine wp_ret ?_
   replace X := X.pk 3 |>.pk 3
   replace X := obj66_mk (x := a0) X
   replace X := X.drop 1 |>.pk 1 |>.pk 1
   cases G
   refine hQ _ _ ?_
   refine lv2 Tryz.results25 J rfl rfl ?_
   exact ⟨Z122, wz123, rfl, sb128, X⟩
  replace G := iff' hb132 G
  refine wp_skip ?_
  refine hK130 _ _ ?_
  refine ws fun K134 hK134 => ?_
  refine x_alloc' (cs := [.int .u64 0]) zr30 J X (fun g135 U w X J => ?_) rfl
  refine x_stb' 0 sz30 J X rfl (fun  U w X J => ?_) rfl
  refine wn (hK134 _ _ ?_)
  refine wp_seq_k fun K136 hK136 => ?_
  refine wp_seq_k fun K137 hK137 => ?_
  have hj1 : ∀ (x138 : Int) (b139 : Bool), commit_last_j1 a0 x138 b139 = some y → ∀ (Z140 : Nat → Prop) (wz141 : World) (h142 : Sub Z wz Z140 wz141) (U : Act) (w : World), FR 36 [] U [(0, (pP g0)), (7, (pP g135)), (34, .bool b139)] → SH r (blk g0 66 [.slice A110 n111 c112, .int .i64 a0.f1, .int .i64 a0.f2, .bool a0.f3, .int .i64 a0.f4] :: blk g135 30 [.int .u64 x138] :: own2 kp72 (kI .u8) 5 (fun x : S72 => x.f1) 72 A110 n111 c112 a0.f0 :: zone Z140 wz141 :: L) w → K137 U w := by
   intro x138 b139 G Z140 wz141 h142 U w J X
   unfold commit_last_j1 at G
   refine hK137 _ _ ?_
   refine c_if J rfl (fun hb143 => ?_) fun hb143 => ?_
   ·replace G := ift hb143 G
    refine ws fun K144 hK144 => ?_
    refine x_m J rfl fun U J => ?_
    refine x_m J rfl fun U J => ?_
    refine wn (hK144 _ _ ?_)
    refine wp_ret ?_
    replace X := X.pk 2 |>.pk 1
    replace X := obj66_mk (x := a0) X
    replace X := X.drop 1 |>.pk 1 |>.pk 1
    cases G
    refine hQ _ _ ?_
    refine lv2 Tryz.results25 J rfl rfl ?_
    exact ⟨Z140, wz141, rfl, h142, X⟩
   replace G := iff' hb143 G
   refine wp_skip ?_
   refine hK136 _ _ ?_
   refine ws fun K145 hK145 => ?_
   refine x_ld' uu30 (X.cell 1 rfl 0 _ rfl) J (fun U J => ?_) rfl
   refine x_m J rfl fun U J => ?_
   refine x_m J rfl fun U J => ?_
   refine wn (hK145 _ _ ?_)
   refine wp_ret ?_
   replace X := X.pk 2 |>.pk 1
   replace X := obj66_mk (x := a0) X
   replace X := X.drop 1 |>.pk 1 |>.pk 1
   cases G
   refine hQ _ _ ?_
   refine lv2 Tryz.results25 J rfl rfl ?_
   exact ⟨Z140, wz141, rfl, h142, X⟩
  refine wp_reg ?_
  refine x_m J rfl fun U J => ?_
  refine x_v J (r_makeFunc rfl (mapev (vals := #[]) J rfl) (mapev (vals := #[.pointer (some ⟨g135, 0, none⟩)]) J rfl)) rfl fun U J => ?_
  replace X := X.pk 2 |>.pk 2
  obtain ⟨Z146, wz147, X, h148, sb161⟩ := SH.freeze (n := m128) (c := d129) (A := B127) X
  have h149 := Imm.sub h124 sb161
  replace X := X.pk 1
  replace X := obj30_mk (x := 0) X
  obtain ⟨y150, h151, G⟩ := bnd G
  refine x_call' en42 J (F_Try_commit_last_1 (L := zone Z146 wz147 :: blk g0 66 [.slice A110 n111 c112, .int .i64 a0.f1, .int .i64 a0.f2, .bool a0.f3, .int .i64 a0.f4] :: own2 kp72 (kI .u8) 5 (fun x : S72 => x.f1) 72 A110 n111 c112 a0.f0 :: L) y125.1 0 B127 m128 d129 g135 h151 0 rfl h148 X) (fun v U w hR J => ?_) rfl
  obtain ⟨rfl, X⟩ := hR
  replace X := obj30_open X
  refine x_v J (r_not rfl (J.ev rfl)) rfl fun U J => ?_
  refine x_m J rfl fun U J => ?_
  refine bcase (b := !y150.1) (fun hb152 => ?_) fun hb152 => ?_
  ·replace G := ift hb152 G
   refine xO 2 hb152 J rfl fun U J => ?_
   refine x_pickt' hb152 J (fun U J => ?_) rfl
   refine wpList_nil ?_
   replace X := X.pk 1 |>.pk 3 |>.pk 2 |>.pk 3
   exact hj1 y150.2 true G Z146 wz147 (Sub.trans sb128 sb161) U w (J.sub _ rfl) X
  replace G := iff' hb152 G
  refine x_on' hb152 J ?_ rfl
  refine x_ld' uu30 (X.cell 0 rfl 0 _ rfl) J (fun U J => ?_) rfl
  refine x_on' hb152 J ?_ rfl
  refine x_v J (r_eqI rfl (J.ev rfl) (J.ev rfl)) rfl fun U J => ?_
  refine x_pickf' hb152 J (fun U J => ?_) rfl
  refine wpList_nil ?_
  replace X := X.pk 1 |>.pk 3 |>.pk 2 |>.pk 3
  exact hj1 y150.2 (y150.2 == 0) G Z146 wz147 (Sub.trans sb128 sb161) U w (J.sub _ rfl) X
 replace G := iff' hb120 G
 refine ws fun K153 hK153 => ?_
 refine x_m J rfl fun U J => ?_
 refine x_m J rfl fun U J => ?_
 refine x_m J rfl fun U J => ?_
 refine wn (hK153 _ _ ?_)
 refine wp_ret ?_
 replace X := X.pk 1 |>.pk 1
 replace X := obj66_mk (x := a0) X
 replace X := X.drop 1 |>.pk 1 |>.pk 1
 cases G
 refine hQ _ _ ?_
 refine lv2 Tryz.results25 J rfl rfl ?_
 exact ⟨Z, wz, rfl, (Sub.refl _ _), X⟩
theorem F_commit_sweep {r : World} {L : List HP} {w : World} {Z : Nat → Prop} {wz : World} (a0 : S66) (a1 : Int) (g0 : Nat) {y : (Int × S66)} (G : commit_sweep a0 a1 = some y) (qz : Nat) (hZ : L[qz]? = some (zone Z wz)) (hG1 : Gc Z wz 1 isI64) (hG2 : Gc Z wz 2 isEr) (hG3 : Gc Z wz 3 isEr) (X : SH r (obj66 g0 a0 :: L) w) :
  Ret Tryz.prog 26 #[.pointer (some ⟨g0, 0, none⟩), .int .u64 a1] w fun v w' => v = .int .i64 y.1 ∧ SH r (obj66 g0 y.2 :: L) w' := by
 refine enter Tryz.func26 rfl Tryz.ntmps26 [(0, (pP g0)), (1, .int .u64 a1)] rfl (by simp) ?_
 intro U J Qf hQ hQn
 unfold commit_sweep at G
 obtain ⟨A100, n101, c102, X⟩ := obj66_open X
 refine ws fun K103 hK103 => ?_
 refine x_m J rfl fun U J => ?_
 refine wn (hK103 _ _ ?_)
 refine wp_seq_k fun K104 hK104 => ?_
 refine ws fun K105 hK105 => ?_
 refine x_m J rfl fun U J => ?_
 replace X := X.pk 1 |>.pk 1
 replace X := obj66_mk (x := a0) X
 replace X := SH.optS X
 obtain ⟨y106, h107, G⟩ := bnd G
 refine x_call' en14 J (F_files_Store_List (L := L) (some a0) (some ⟨g0, 0, none⟩) h107 X) (fun v U w hR J => ?_) rfl
 obtain ⟨B108, m109, d110, rfl, X⟩ := hR
 replace X := X.pk 1
 replace X := SH.unoptP X
 obtain ⟨A111, n112, c113, X⟩ := obj66_open X
 refine x_len' uu42 (X.rd 2 rfl).2.1 J (fun U J => ?_) rfl
 refine x_m J rfl fun U J => ?_
 refine wn (hK105 _ _ ?_)
 refine wp_block_k fun Kx114 hKx114 => ?_
 have hb1 : ∀ (l115 : (List S72)) (x116 : Int) (x117 : Int) (b118 : Bool) (x119 : Int), commit_sweep_b1 l115 x116 x117 b118 x119 = some y → ∀ (A120 : Option Addr) (n121 : Nat) (c122 : Nat) (U : Act) (w : World), FR 76 [] U [(0, (pP g0))] → SH r (blk g0 66 [.slice A120 n121 c122, .int .i64 x116, .int .i64 x117, .bool b118, .int .i64 x119] :: own2 kp72 (kI .u8) 5 (fun x : S72 => x.f1) 72 A120 n121 c122 l115 :: L) w → Kx114 U w := by
  intro l115 x116 x117 b118 x119 G A120 n121 c122 U w J X
  unfold commit_sweep_b1 at G
  refine hKx114 _ _ ?_
  refine hK104 _ _ ?_
  refine ws fun K123 hK123 => ?_
  refine x_m J rfl fun U J => ?_
  refine wn (hK123 _ _ ?_)
  refine wp_ret ?_
  replace X := X.pk 1 |>.pk 1
  replace X := obj66_mk (x := (⟨l115, x116, x117, b118, x119⟩ : S66)) X
  cases G
  refine hQ _ _ ?_
  refine lv Tryz.results26 J rfl ?_
  exact ⟨rfl, X⟩
 obtain ⟨t124, hl124, G⟩ := bnd G
 have hR124 := G
 have hx124_0 : ∀ (l125 : (List S72)) (x126 : Int) (x127 : Int) (b128 : Bool) (x124 : Int), (.inl (l125, x126, x127, b128, x124)) = t124 → ∀ (A129 : Option Addr) (n130 : Nat) (c131 : Nat) (U : Act) (w : World), FR 76 [] U [(0, (pP g0))] → SH r (blk g0 66 [.slice A129 n130 c131, .int .i64 x126, .int .i64 x127, .bool b128, .int .i64 x124] :: own2 kp72 (kI .u8) 5 (fun x : S72 => x.f1) 72 A129 n130 c131 l125 :: L) w → Kx114 U w := by
  intro l125 x126 x127 b128 x124 ht A129 n130 c131 U w J X
  subst ht
  replace G : commit_sweep_x1_0 l125 x126 x127 b128 x124 = some y := G
  unfold commit_sweep_x1_0 at G
  exact hb1 l125 x126 x127 b128 x124 G A129 n130 c131 U w (J.sub _ rfl) X
 refine wp_loop_fn hl124 (fun s U w => ∃ (A132 : Option Addr) (n133 : Nat) (c134 : Nat), FR 76 [] U [(0, (pP g0)), (1, .int .u64 a1), (15, .slice B108 m109 d110), (16, .int .i64 (y106.length : Int)), (17, .int .i64 s.2.2.2.2.2)] ∧ SH r (blk g0 66 [.slice A132 n133 c134, .int .i64 s.2.1, .int .i64 s.2.2.1, .bool s.2.2.2.1, .int .i64 s.2.2.2.2.1] :: own2 kp72 (kI .u8) 5 (fun x : S72 => x.f1) 72 A132 n133 c134 s.1 :: own kS 9 B108 m109 d110 y106 :: L) w) ⟨A111, n112, c113, J.sub _ rfl, X⟩ ?_
 intro N124 s124 o124 G N124_ T124_ U w hLab
 obtain ⟨l135, x136, x137, b138, x139, x140⟩ := s124
 replace G : commit_sweep_l1 a1 y106 l135 x136 x137 b138 x139 x140 = some o124 := G
 unfold commit_sweep_l1 at G
 try dsimp only at hLab
 obtain ⟨A132, n133, c134, J, X⟩ := hLab
 refine ws fun K141 hK141 => ?_
 refine x_v J (r_ltI rfl (J.ev rfl) (J.ev rfl)) rfl fun U J => ?_
 refine wn (hK141 _ _ ?_)
 refine wp_seq_k fun K142 hK142 => ?_
 refine c_if J rfl (fun hb143 => ?_) fun hb143 => ?_
 ·replace G := ift hb143 G
  refine wp_skip ?_
  refine hK142 _ _ ?_
  refine wp_seq_k fun K144 hK144 => ?_
  refine wp_block_k fun Kx145 hKx145 => ?_
  have hb2 : ∀ (l146 : (List S72)) (x147 : Int) (x148 : Int) (b149 : Bool) (x150 : Int), commit_sweep_b2 x140 l146 x147 x148 b149 x150 = some o124 → ∀ (A151 : Option Addr) (n152 : Nat) (c153 : Nat) (U : Act) (w : World), FR 76 [] U [(0, (pP g0)), (1, .int .u64 a1), (15, .slice B108 m109 d110), (16, .int .i64 (y106.length : Int)), (17, .int .i64 x140)] → SH r (blk g0 66 [.slice A151 n152 c153, .int .i64 x147, .int .i64 x148, .bool b149, .int .i64 x150] :: own2 kp72 (kI .u8) 5 (fun x : S72 => x.f1) 72 A151 n152 c153 l146 :: own kS 9 B108 m109 d110 y106 :: L) w → Kx145 U w := by
   intro l146 x147 x148 b149 x150 G A151 n152 c153 U w J X
   unfold commit_sweep_b2 at G
   refine hKx145 _ _ ?_
   refine hK144 _ _ ?_
   refine wp_reg ?_
   obtain ⟨x154, h155, G⟩ := ltt_ G
   refine x_v (v := .int .i64 x154) J (rv_i h155 (r_add rfl (J.ev rfl) (J.ev rfl))) rfl fun U J => ?_
   refine x_m J rfl fun U J => ?_
   refine wpList_nil ?_
   cases G
   exact ⟨_, N124_ _ rfl, A151, n152, c153, J.sub _ rfl, X⟩
  refine ws fun K156 hK156 => ?_
  obtain ⟨x157, h158, G⟩ := bnd G
  refine x_ia' uu42 sz9 (X.rd 2 rfl) h158 J (fun U J => ?_) rfl
  obtain ⟨cs, hV, hc159⟩ := el (X.rd 2 rfl) h158
  obtain rfl := hV
  refine x_ld' uu9 (hc159 0 _ rfl) J (fun U J => ?_) rfl
  refine x_m J rfl fun U J => ?_
  refine wn (hK156 _ _ ?_)
  refine ws fun K160 hK160 => ?_
  refine x_m J rfl fun U J => ?_
  obtain ⟨y161, h162, G⟩ := bnd G
  refine x_call' en45 J (F_strings_Cut (L := blk g0 66 [.slice A132 n133 c134, .int .i64 x136, .int .i64 x137, .bool b138, .int .i64 x139] :: own2 kp72 (kI .u8) 5 (fun x : S72 => x.f1) 72 A132 n133 c134 l135 :: own kS 9 B108 m109 d110 y106 :: L) x157 [46] h162 (qz + 3) hZ hG1 X) (fun v U w hR J => ?_) rfl
  obtain ⟨rfl, X⟩ := hR
  refine x_m J rfl fun U J => ?_
  refine x_v J (r_extract rfl (J.ev rfl) rfl) rfl fun U J => ?_
  refine x_v J (r_extract rfl (J.ev rfl) rfl) rfl fun U J => ?_
  refine x_v J (r_extract rfl (J.ev rfl) rfl) rfl fun U J => ?_
  refine x_m J rfl fun U J => ?_
  refine x_m J rfl fun U J => ?_
  refine x_m J rfl fun U J => ?_
  refine wn (hK160 _ _ ?_)
  refine ws fun K163 hK163 => ?_
  refine x_m J rfl fun U J => ?_
  obtain ⟨y164, h165, G⟩ := bnd G
  refine x_call' en46 J (F_strconv_ParseUint (L := blk g0 66 [.slice A132 n133 c134, .int .i64 x136, .int .i64 x137, .bool b138, .int .i64 x139] :: own2 kp72 (kI .u8) 5 (fun x : S72 => x.f1) 72 A132 n133 c134 l135 :: own kS 9 B108 m109 d110 y106 :: L) y161.2.1 10 32 h165 (qz + 3) hZ hG2 hG3 X) (fun v U w hR J => ?_) rfl
  obtain ⟨E166, rfl, h167, X⟩ := hR
  refine x_m J rfl fun U J => ?_
  refine x_v J (r_extract rfl (J.ev rfl) rfl) rfl fun U J => ?_
  refine x_v J (r_extract rfl (J.ev rfl) rfl) rfl fun U J => ?_
  refine x_m J rfl fun U J => ?_
  refine x_m J rfl fun U J => ?_
  refine wn (hK163 _ _ ?_)
  refine wp_seq_k fun K168 hK168 => ?_
  have hj1 : ∀ (b169 : Bool), commit_sweep_j1 l135 x136 x137 b138 x139 x140 x157 y161 b169 = some o124 → ∀ (U : Act) (w : World), FR 76 [] U [(0, (pP g0)), (1, .int .u64 a1), (6, str x157), (7, str y161.1), (12, .bool b169), (15, .slice B108 m109 d110), (16, .int .i64 (y106.length : Int)), (17, .int .i64 x140)] → SH r (blk g0 66 [.slice A132 n133 c134, .int .i64 x136, .int .i64 x137, .bool b138, .int .i64 x139] :: own2 kp72 (kI .u8) 5 (fun x : S72 => x.f1) 72 A132 n133 c134 l135 :: own kS 9 B108 m109 d110 y106 :: L) w → K168 U w := by
   intro b169 G U w J X
   unfold commit_sweep_j1 at G
   refine hK168 _ _ ?_
   refine wp_seq_k fun K170 hK170 => ?_
   have hj2 : ∀ (b171 : Bool), commit_sweep_j2 l135 x136 x137 b138 x139 x140 x157 b171 = some o124 → ∀ (U : Act) (w : World), FR 76 [] U [(0, (pP g0)), (1, .int .u64 a1), (6, str x157), (15, .slice B108 m109 d110), (16, .int .i64 (y106.length : Int)), (17, .int .i64 x140), (68, .bool b171)] → SH r (blk g0 66 [.slice A132 n133 c134, .int .i64 x136, .int .i64 x137, .bool b138, .int .i64 x139] :: own2 kp72 (kI .u8) 5 (fun x : S72 => x.f1) 72 A132 n133 c134 l135 :: own kS 9 B108 m109 d110 y106 :: L) w → K170 U w := by
    intro b171 G U w J X
    unfold commit_sweep_j2 at G
    refine hK170 _ _ ?_
    refine c_if J rfl (fun hb172 => ?_) fun hb172 => ?_
    ·replace G := ift hb172 G
     refine ws fun K173 hK173 => ?_
     refine x_m J rfl fun U J => ?_
     refine x_m J rfl fun U J => ?_
     replace X := X.pk 1 |>.pk 1
     replace X := obj66_mk (x := (⟨l135, x136, x137, b138, x139⟩ : S66)) X
     replace X := SH.optS X
     obtain ⟨y174, h175, G⟩ := bnd G
     refine x_call' en15 J (F_files_Store_Delete (L := own kS 9 B108 m109 d110 y106 :: L) (some (⟨l135, x136, x137, b138, x139⟩ : S66)) x157 (some ⟨g0, 0, none⟩) h175 X) (fun v U w hR J => ?_) rfl
     obtain ⟨rfl, X⟩ := hR
     obtain ⟨o176, h177, G⟩ := bnd G
     rw [h177] at X
     replace X := SH.unoptP X
     obtain ⟨A178, n179, c180, X⟩ := obj66_open X
     refine x_m J rfl fun U J => ?_
     refine wn (hK173 _ _ ?_)
     refine ws fun K181 hK181 => ?_
     refine x_m J rfl fun U J => ?_
     refine x_v J (r_neI rfl (J.ev rfl) (J.ev rfl)) rfl fun U J => ?_
     refine wn (hK181 _ _ ?_)
     refine c_if J rfl (fun hb182 => ?_) fun hb182 => ?_
     ·replace G := ift hb182 G
      refine ws fun K183 hK183 => ?_
      refine x_m J rfl fun U J => ?_
      refine x_m J rfl fun U J => ?_
      refine wn (hK183 _ _ ?_)
      refine wp_ret ?_
      replace X := X.pk 1 |>.pk 1
      replace X := obj66_mk (x := o176) X
      replace X := X.drop 1
      cases G
      have ht := T124_ _ rfl
      subst ht
      replace G := hR124
      replace G : some (y174.1, o176) = some y := G
      cases G
      refine hQ _ _ ?_
      refine lv Tryz.results26 J rfl ?_
      exact ⟨rfl, X⟩
     replace G := iff' hb182 G
     refine wp_skip ?_
     exact hb2 o176.f0 o176.f1 o176.f2 o176.f3 o176.f4 G A178 n179 c180 U w (J.sub _ rfl) X
    replace G := iff' hb172 G
    refine wp_skip ?_
    exact hb2 l135 x136 x137 b138 x139 G A132 n133 c134 U w (J.sub _ rfl) X
   refine wp_reg ?_
   refine x_m J rfl fun U J => ?_
   refine x_v J (r_eqS rfl (J.ev rfl) (J.ev rfl)) rfl fun U J => ?_
   refine x_m J rfl fun U J => ?_
   refine bcase (b := x157 == [109, 97, 110, 46, 116, 109, 112]) (fun hb184 => ?_) fun hb184 => ?_
   ·replace G := ift hb184 G
    refine xO 3 hb184 J rfl fun U J => ?_
    refine x_offU' J (fun U J => ?_) rfl
    refine x_offU' J (fun U J => ?_) rfl
    refine xO 2 hb184 J rfl fun U J => ?_
    refine x_offU' J (fun U J => ?_) rfl
    refine xO 1 hb184 J rfl fun U J => ?_
    refine x_pickt' hb184 J (fun U J => ?_) rfl
    refine wpList_nil ?_
    exact hj2 true G U w (J.sub _ rfl) X
   replace G := iff' hb184 G
   refine x_on' hb184 J ?_ rfl
   refine x_m J rfl fun U J => ?_
   refine x_on' hb184 J ?_ rfl
   refine x_v J (r_eqS rfl (J.ev rfl) (J.ev rfl)) rfl fun U J => ?_
   refine x_on' hb184 J ?_ rfl
   refine x_m J rfl fun U J => ?_
   refine bcase (b := y161.1 == [115, 116, 97, 116, 101]) (fun hb185 => ?_) fun hb185 => ?_
   ·replace G := ift hb185 G
    refine xO 2 hb185 J rfl fun U J => ?_
    refine x_on' hb184 J ?_ rfl
    refine x_pickt' hb185 J (fun U J => ?_) rfl
    refine x_on' hb184 J ?_ rfl
    refine x_m J rfl fun U J => ?_
    refine x_on' rfl J ?_ rfl
    refine x_m J rfl fun U J => ?_
    refine x_on' hb184 J ?_ rfl
    refine x_pickt' rfl J (fun U J => ?_) rfl
    refine x_pickf' hb184 J (fun U J => ?_) rfl
    refine wpList_nil ?_
    exact hj2 b169 G U w (J.sub _ rfl) X
   replace G := iff' hb185 G
   refine x_on' hb185 J ?_ rfl
   refine x_m J rfl fun U J => ?_
   refine x_on' hb185 J ?_ rfl
   refine x_v J (r_eqS rfl (J.ev rfl) (J.ev rfl)) rfl fun U J => ?_
   refine x_on' hb184 J ?_ rfl
   refine x_pickf' hb185 J (fun U J => ?_) rfl
   refine x_on' hb184 J ?_ rfl
   refine x_m J rfl fun U J => ?_
   refine bcase (b := y161.1 == [111, 117, 116]) (fun hb186 => ?_) fun hb186 => ?_
   ·replace G := ift hb186 G
    refine x_on' hb186 J ?_ rfl
    refine x_m J rfl fun U J => ?_
    refine x_on' hb184 J ?_ rfl
    refine x_pickt' hb186 J (fun U J => ?_) rfl
    refine x_pickf' hb184 J (fun U J => ?_) rfl
    refine wpList_nil ?_
    exact hj2 b169 G U w (J.sub _ rfl) X
   replace G := iff' hb186 G
   refine xO 1 hb186 J rfl fun U J => ?_
   refine x_on' hb184 J ?_ rfl
   refine x_pickf' hb186 J (fun U J => ?_) rfl
   refine x_pickf' hb184 J (fun U J => ?_) rfl
   refine wpList_nil ?_
   exact hj2 false G U w (J.sub _ rfl) X
  refine wp_reg ?_
  refine x_m J rfl fun U J => ?_
  refine x_v J (r_neE uu99 rfl (J.ev rfl) h167) rfl fun U J => ?_
  refine x_m J rfl fun U J => ?_
  refine bcase (b := y164.2) (fun hb187 => ?_) fun hb187 => ?_
  ·replace G := ift hb187 G
   refine xO 3 hb187 J rfl fun U J => ?_
   refine x_offU' J (fun U J => ?_) rfl
   refine x_offU' J (fun U J => ?_) rfl
   refine x_offU' J (fun U J => ?_) rfl
   refine xO 1 hb187 J rfl fun U J => ?_
   refine x_pickt' hb187 J (fun U J => ?_) rfl
   refine x_m J rfl fun U J => ?_
   refine xO 3 rfl J rfl fun U J => ?_
   refine x_offU' J (fun U J => ?_) rfl
   refine x_offU' J (fun U J => ?_) rfl
   refine x_offU' J (fun U J => ?_) rfl
   refine x_offU' J (fun U J => ?_) rfl
   refine x_offU' J (fun U J => ?_) rfl
   refine x_offU' J (fun U J => ?_) rfl
   refine x_offU' J (fun U J => ?_) rfl
   refine xO 1 rfl J rfl fun U J => ?_
   refine x_pickt' rfl J (fun U J => ?_) rfl
   refine x_m J rfl fun U J => ?_
   refine wpList_nil ?_
   exact hj1 true G U w (J.sub _ rfl) X
  replace G := iff' hb187 G
  refine x_on' hb187 J ?_ rfl
  refine x_m J rfl fun U J => ?_
  refine x_on' hb187 J ?_ rfl
  refine x_v J (r_eqS rfl (J.ev rfl) (J.ev rfl)) rfl fun U J => ?_
  refine x_on' hb187 J ?_ rfl
  refine x_m J rfl fun U J => ?_
  refine bcase (b := y161.1 == [115, 116, 97, 116, 101]) (fun hb188 => ?_) fun hb188 => ?_
  ·replace G := ift hb188 G
   refine x_on' hb188 J ?_ rfl
   refine x_m J rfl fun U J => ?_
   refine x_on' hb188 J ?_ rfl
   refine x_m J rfl fun U J => ?_
   refine x_on' hb188 J ?_ rfl
   refine x_v J (r_neI rfl (J.ev rfl) (J.ev rfl)) rfl fun U J => ?_
   refine x_on' hb187 J ?_ rfl
   refine x_pickt' hb188 J (fun U J => ?_) rfl
   refine x_pickf' hb187 J (fun U J => ?_) rfl
   refine x_m J rfl fun U J => ?_
   refine bcase (b := y164.1 != a1) (fun hb189 => ?_) fun hb189 => ?_
   ·replace G := ift hb189 G
    refine xO 3 hb189 J rfl fun U J => ?_
    refine x_offU' J (fun U J => ?_) rfl
    refine x_offU' J (fun U J => ?_) rfl
    refine x_offU' J (fun U J => ?_) rfl
    refine x_offU' J (fun U J => ?_) rfl
    refine x_offU' J (fun U J => ?_) rfl
    refine x_offU' J (fun U J => ?_) rfl
    refine x_offU' J (fun U J => ?_) rfl
    refine xO 1 hb189 J rfl fun U J => ?_
    refine x_pickt' hb189 J (fun U J => ?_) rfl
    refine x_m J rfl fun U J => ?_
    refine wpList_nil ?_
    exact hj1 true G U w (J.sub _ rfl) X
   replace G := iff' hb189 G
   refine x_on' hb189 J ?_ rfl
   refine x_m J rfl fun U J => ?_
   refine x_on' hb189 J ?_ rfl
   refine x_v J (r_eqS rfl (J.ev rfl) (J.ev rfl)) rfl fun U J => ?_
   refine x_on' hb189 J ?_ rfl
   refine x_m J rfl fun U J => ?_
   refine bcase (b := y161.1 == [111, 117, 116]) (fun hb190 => ?_) fun hb190 => ?_
   ·replace G := ift hb190 G
    refine x_on' hb190 J ?_ rfl
    refine x_m J rfl fun U J => ?_
    refine x_on' hb190 J ?_ rfl
    refine x_v J (r_eqI rfl (J.ev rfl) (J.ev rfl)) rfl fun U J => ?_
    refine x_on' hb190 J ?_ rfl
    refine x_m J rfl fun U J => ?_
    refine bcase (b := y164.1 == 0) (fun hb191 => ?_) fun hb191 => ?_
    ·replace G := ift hb191 G
     refine xO 3 hb191 J rfl fun U J => ?_
     refine x_on' hb190 J ?_ rfl
     refine x_pickt' hb191 J (fun U J => ?_) rfl
     refine x_on' hb189 J ?_ rfl
     refine x_pickt' hb190 J (fun U J => ?_) rfl
     refine x_pickf' hb189 J (fun U J => ?_) rfl
     refine x_m J rfl fun U J => ?_
     refine wpList_nil ?_
     exact hj1 true G U w (J.sub _ rfl) X
    replace G := iff' hb191 G
    refine x_on' hb191 J ?_ rfl
    refine x_m J rfl fun U J => ?_
    refine x_on' hb191 J ?_ rfl
    refine x_m J rfl fun U J => ?_
    refine x_on' hb191 J ?_ rfl
    refine x_v J (r_gtI rfl (J.ev rfl) (J.ev rfl)) rfl fun U J => ?_
    refine x_on' hb190 J ?_ rfl
    refine x_pickf' hb191 J (fun U J => ?_) rfl
    refine x_on' hb189 J ?_ rfl
    refine x_pickt' hb190 J (fun U J => ?_) rfl
    refine x_pickf' hb189 J (fun U J => ?_) rfl
    refine x_m J rfl fun U J => ?_
    refine wpList_nil ?_
    exact hj1 (decide (a1 < y164.1)) G U w (J.sub _ rfl) X
   replace G := iff' hb190 G
   refine xO 3 hb190 J rfl fun U J => ?_
   refine x_offU' J (fun U J => ?_) rfl
   refine x_offU' J (fun U J => ?_) rfl
   refine x_offU' J (fun U J => ?_) rfl
   refine xO 1 hb190 J rfl fun U J => ?_
   refine x_on' hb189 J ?_ rfl
   refine x_pickf' hb190 J (fun U J => ?_) rfl
   refine x_pickf' hb189 J (fun U J => ?_) rfl
   refine x_m J rfl fun U J => ?_
   refine wpList_nil ?_
   exact hj1 false G U w (J.sub _ rfl) X
  replace G := iff' hb188 G
  refine xO 3 hb188 J rfl fun U J => ?_
  refine x_on' hb187 J ?_ rfl
  refine x_pickf' hb188 J (fun U J => ?_) rfl
  refine x_pickf' hb187 J (fun U J => ?_) rfl
  refine x_m J rfl fun U J => ?_
  refine x_on' rfl J ?_ rfl
  refine x_m J rfl fun U J => ?_
  refine x_on' rfl J ?_ rfl
  refine x_v J (r_eqS rfl (J.ev rfl) (J.ev rfl)) rfl fun U J => ?_
  refine x_on' rfl J ?_ rfl
  refine x_m J rfl fun U J => ?_
  refine bcase (b := y161.1 == [111, 117, 116]) (fun hb192 => ?_) fun hb192 => ?_
  ·replace G := ift hb192 G
   refine x_on' hb192 J ?_ rfl
   refine x_m J rfl fun U J => ?_
   refine x_on' hb192 J ?_ rfl
   refine x_v J (r_eqI rfl (J.ev rfl) (J.ev rfl)) rfl fun U J => ?_
   refine x_on' hb192 J ?_ rfl
   refine x_m J rfl fun U J => ?_
   refine bcase (b := y164.1 == 0) (fun hb193 => ?_) fun hb193 => ?_
   ·replace G := ift hb193 G
    refine xO 3 hb193 J rfl fun U J => ?_
    refine x_on' hb192 J ?_ rfl
    refine x_pickt' hb193 J (fun U J => ?_) rfl
    refine x_on' rfl J ?_ rfl
    refine x_pickt' hb192 J (fun U J => ?_) rfl
    refine x_pickf' rfl J (fun U J => ?_) rfl
    refine x_m J rfl fun U J => ?_
    refine wpList_nil ?_
    exact hj1 true G U w (J.sub _ rfl) X
   replace G := iff' hb193 G
   refine x_on' hb193 J ?_ rfl
   refine x_m J rfl fun U J => ?_
   refine x_on' hb193 J ?_ rfl
   refine x_m J rfl fun U J => ?_
   refine x_on' hb193 J ?_ rfl
   refine x_v J (r_gtI rfl (J.ev rfl) (J.ev rfl)) rfl fun U J => ?_
   refine x_on' hb192 J ?_ rfl
   refine x_pickf' hb193 J (fun U J => ?_) rfl
   refine x_on' rfl J ?_ rfl
   refine x_pickt' hb192 J (fun U J => ?_) rfl
   refine x_pickf' rfl J (fun U J => ?_) rfl
   refine x_m J rfl fun U J => ?_
   refine wpList_nil ?_
   exact hj1 (decide (a1 < y164.1)) G U w (J.sub _ rfl) X
  replace G := iff' hb192 G
  refine xO 3 hb192 J rfl fun U J => ?_
  refine x_offU' J (fun U J => ?_) rfl
  refine x_offU' J (fun U J => ?_) rfl
  refine x_offU' J (fun U J => ?_) rfl
  refine xO 1 hb192 J rfl fun U J => ?_
  refine x_on' rfl J ?_ rfl
  refine x_pickf' hb192 J (fun U J => ?_) rfl
  refine x_pickf' rfl J (fun U J => ?_) rfl
  refine x_m J rfl fun U J => ?_
  refine wpList_nil ?_
  exact hj1 false G U w (J.sub _ rfl) X
 replace G := iff' hb143 G
 refine wp_exit ?_
 replace X := X.drop 2
 cases G
 exact hx124_0 l135 x136 x137 b138 x139 (T124_ _ rfl) A132 n133 c134 U w (J.sub _ rfl) X
theorem F_commit_put {r : World} {L : List HP} {w : World} (a0 : S66) (a1 : (List UInt8)) (a2 : (List Int)) (g0 : Nat) (A2 : Option Addr) (n2 : Nat) (c2 : Nat) {y : (Int × S66)} (G : commit_put a0 a1 a2 = some y) (ha2 : RdL L (kI .u8) A2 n2 c2 a2) (X : SH r (obj66 g0 a0 :: L) w) :
  Ret Tryz.prog 47 #[.pointer (some ⟨g0, 0, none⟩), str a1, .slice A2 n2 c2] w fun v w' => v = .int .i64 y.1 ∧ SH r (obj66 g0 y.2 :: L) w' := by
 refine enter Tryz.func47 rfl Tryz.ntmps47 [(0, (pP g0)), (1, str a1), (2, .slice A2 n2 c2)] rfl (by simp) ?_
 intro U J Qf hQ hQn
 unfold commit_put at G
 obtain ⟨A100, n101, c102, X⟩ := obj66_open X
 refine ws fun K103 hK103 => ?_
 refine x_m J rfl fun U J => ?_
 refine wn (hK103 _ _ ?_)
 refine ws fun K104 hK104 => ?_
 refine x_m J rfl fun U J => ?_
 refine x_m J rfl fun U J => ?_
 refine x_m J rfl fun U J => ?_
 replace X := X.pk 1 |>.pk 1
 replace X := obj66_mk (x := a0) X
 replace X := SH.optS X
 obtain ⟨y105, h106, G⟩ := bnd G
 refine x_call' en9 J (F_files_Store_Append (L := L) (some a0) a1 a2 (some ⟨g0, 0, none⟩) A2 n2 c2 h106 (RdL.sfx 0 rfl ha2) X) (fun v U w hR J => ?_) rfl
 obtain ⟨rfl, X⟩ := hR
 obtain ⟨o107, h108, G⟩ := bnd G
 rw [h108] at X
 replace X := SH.unoptP X
 obtain ⟨A109, n110, c111, X⟩ := obj66_open X
 refine x_m J rfl fun U J => ?_
 refine wn (hK104 _ _ ?_)
 refine wp_seq_k fun K112 hK112 => ?_
 have hj1 : ∀ (l113 : (List S72)) (x114 : Int) (x115 : Int) (b116 : Bool) (x117 : Int) (x118 : Int), commit_put_j1 l113 x114 x115 b116 x117 x118 = some y → ∀ (A119 : Option Addr) (n120 : Nat) (c121 : Nat) (U : Act) (w : World), FR 18 [] U [(0, (pP g0)), (7, .int .i64 x118)] → SH r (blk g0 66 [.slice A119 n120 c121, .int .i64 x114, .int .i64 x115, .bool b116, .int .i64 x117] :: own2 kp72 (kI .u8) 5 (fun x : S72 => x.f1) 72 A119 n120 c121 l113 :: L) w → K112 U w := by
  intro l113 x114 x115 b116 x117 x118 G A119 n120 c121 U w J X
  unfold commit_put_j1 at G
  refine hK112 _ _ ?_
  refine ws fun K122 hK122 => ?_
  refine x_m J rfl fun U J => ?_
  refine x_m J rfl fun U J => ?_
  refine wn (hK122 _ _ ?_)
  refine wp_ret ?_
  replace X := X.pk 1 |>.pk 1
  replace X := obj66_mk (x := (⟨l113, x114, x115, b116, x117⟩ : S66)) X
  cases G
  refine hQ _ _ ?_
  refine lv Tryz.results47 J rfl ?_
  exact ⟨rfl, X⟩
 refine ws fun K123 hK123 => ?_
 refine x_m J rfl fun U J => ?_
 refine x_v J (r_eqI rfl (J.ev rfl) (J.ev rfl)) rfl fun U J => ?_
 refine wn (hK123 _ _ ?_)
 refine c_if J rfl (fun hb124 => ?_) fun hb124 => ?_
 ·replace G := ift hb124 G
  refine wp_reg ?_
  refine x_m J rfl fun U J => ?_
  refine x_m J rfl fun U J => ?_
  replace X := X.pk 1 |>.pk 1
  replace X := obj66_mk (x := o107) X
  replace X := SH.optS X
  obtain ⟨y125, h126, G⟩ := bnd G
  refine x_call' en66 J (F_files_Store_Sync (L := L) (some o107) a1 (some ⟨g0, 0, none⟩) h126 X) (fun v U w hR J => ?_) rfl
  obtain ⟨rfl, X⟩ := hR
  obtain ⟨o127, h128, G⟩ := bnd G
  rw [h128] at X
  replace X := SH.unoptP X
  obtain ⟨A129, n130, c131, X⟩ := obj66_open X
  refine x_m J rfl fun U J => ?_
  refine wpList_nil ?_
  exact hj1 o127.f0 o127.f1 o127.f2 o127.f3 o127.f4 y125.1 G A129 n130 c131 U w (J.sub _ rfl) X
 replace G := iff' hb124 G
 refine wp_skip ?_
 exact hj1 o107.f0 o107.f1 o107.f2 o107.f3 o107.f4 y105.1 G A109 n110 c111 U w (J.sub _ rfl) X
theorem F_commit_write {r : World} {L : List HP} {w : World} {Z : Nat → Prop} {wz : World} (a0 : S66) (a1 : Int) (a2 : (List Int)) (a3 : (List S63)) (g0 : Nat) (A2 : Option Addr) (n2 : Nat) (c2 : Nat) (A3 : Option Addr) (n3 : Nat) (c3 : Nat) {y : (Int × S66)} (G : commit_write a0 a1 a2 a3 = some y) (qz : Nat) (hZ : L[qz]? = some (zone Z wz)) (ha2 : RdL L (kI .u8) A2 n2 c2 a2) (ha3 : RdL L k63 A3 n3 c3 a3) (hG0 : Imm Z wz (kI .u32) (some ⟨0, 0, none⟩) 16 16 gl_page_table) (X : SH r (obj66 g0 a0 :: L) w) :
  Ret Tryz.prog 27 #[.pointer (some ⟨g0, 0, none⟩), .int .u64 a1, .slice A2 n2 c2, .slice A3 n3 c3] w fun v w' => v = .int .i64 y.1 ∧ SH r (obj66 g0 y.2 :: L) w' := by
 refine enter Tryz.func27 rfl Tryz.ntmps27 [(0, (pP g0)), (1, .int .u64 a1), (2, .slice A2 n2 c2), (3, .slice A3 n3 c3)] rfl (by simp) ?_
 intro U J Qf hQ hQn
 unfold commit_write at G
 obtain ⟨A100, n101, c102, X⟩ := obj66_open X
 refine ws fun K103 hK103 => ?_
 refine x_m J rfl fun U J => ?_
 refine wn (hK103 _ _ ?_)
 refine wp_seq_k fun K104 hK104 => ?_
 refine ws fun K105 hK105 => ?_
 refine x_m J rfl fun U J => ?_
 refine x_m J rfl fun U J => ?_
 obtain ⟨y106, h107, G⟩ := bnd G
 refine x_call' en28 J (F_commit_file (L := blk g0 66 [.slice A100 n101 c102, .int .i64 a0.f1, .int .i64 a0.f2, .bool a0.f3, .int .i64 a0.f4] :: own2 kp72 (kI .u8) 5 (fun x : S72 => x.f1) 72 A100 n101 c102 a0.f0 :: L) [111, 117, 116] a1 h107 X) (fun v U w hR J => ?_) rfl
 obtain ⟨rfl, X⟩ := hR
 refine x_m J rfl fun U J => ?_
 obtain ⟨y108, h109, G⟩ := bnd G
 refine x_call' en48 J (F_ledger_Lay (L := blk g0 66 [.slice A100 n101 c102, .int .i64 a0.f1, .int .i64 a0.f2, .bool a0.f3, .int .i64 a0.f4] :: own2 kp72 (kI .u8) 5 (fun x : S72 => x.f1) 72 A100 n101 c102 a0.f0 :: L) a3 A3 n3 c3 h109 (qz + 2) hZ (RdL.sfx 2 rfl ha3) hG0 X) (fun v U w hR J => ?_) rfl
 obtain ⟨B110, m111, d112, rfl, X⟩ := hR
 replace X := X.pk 2 |>.pk 2
 replace X := obj66_mk (x := a0) X
 obtain ⟨y113, h114, G⟩ := bnd G
 refine x_call' en47 J (F_commit_put (L := own (kI .u8) 5 B110 m111 d112 y108 :: L) a0 y106 y108 g0 B110 m111 d112 h114 (RdL.own 0 rfl (X.dropN 1)) X) (fun v U w hR J => ?_) rfl
 obtain ⟨rfl, X⟩ := hR
 obtain ⟨A115, n116, c117, X⟩ := obj66_open X
 refine x_m J rfl fun U J => ?_
 refine wn (hK105 _ _ ?_)
 refine ws fun K118 hK118 => ?_
 refine x_m J rfl fun U J => ?_
 refine x_v J (r_neI rfl (J.ev rfl) (J.ev rfl)) rfl fun U J => ?_
 refine wn (hK118 _ _ ?_)
 refine c_if J rfl (fun hb119 => ?_) fun hb119 => ?_
 ·replace G := ift hb119 G
  refine ws fun K120 hK120 => ?_
  refine x_m J rfl fun U J => ?_
  refine x_m J rfl fun U J => ?_
  refine wn (hK120 _ _ ?_)
  refine wp_ret ?_
  replace X := X.pk 1 |>.pk 1
  replace X := obj66_mk (x := y113.2) X
  replace X := X.drop 1
  cases G
  refine hQ _ _ ?_
  refine lv Tryz.results27 J rfl ?_
  exact ⟨rfl, X⟩
 replace G := iff' hb119 G
 refine wp_skip ?_
 refine hK104 _ _ ?_
 refine wp_seq_k fun K121 hK121 => ?_
 refine ws fun K122 hK122 => ?_
 refine x_m J rfl fun U J => ?_
 refine x_m J rfl fun U J => ?_
 obtain ⟨y123, h124, G⟩ := bnd G
 refine x_call' en28 J (F_commit_file (L := blk g0 66 [.slice A115 n116 c117, .int .i64 y113.2.f1, .int .i64 y113.2.f2, .bool y113.2.f3, .int .i64 y113.2.f4] :: own2 kp72 (kI .u8) 5 (fun x : S72 => x.f1) 72 A115 n116 c117 y113.2.f0 :: own (kI .u8) 5 B110 m111 d112 y108 :: L) [115, 116, 97, 116, 101] a1 h124 X) (fun v U w hR J => ?_) rfl
 obtain ⟨rfl, X⟩ := hR
 refine x_m J rfl fun U J => ?_
 replace X := X.pk 1 |>.pk 1
 replace X := obj66_mk (x := y113.2) X
 obtain ⟨y125, h126, G⟩ := bnd G
 refine x_call' en47 J (F_commit_put (L := own (kI .u8) 5 B110 m111 d112 y108 :: L) y113.2 y123 a2 g0 A2 n2 c2 h126 (RdL.sfx 1 rfl ha2) X) (fun v U w hR J => ?_) rfl
 obtain ⟨rfl, X⟩ := hR
 obtain ⟨A127, n128, c129, X⟩ := obj66_open X
 refine x_m J rfl fun U J => ?_
 refine wn (hK122 _ _ ?_)
 refine ws fun K130 hK130 => ?_
 refine x_m J rfl fun U J => ?_
 refine x_v J (r_neI rfl (J.ev rfl) (J.ev rfl)) rfl fun U J => ?_
 refine wn (hK130 _ _ ?_)
 refine c_if J rfl (fun hb131 => ?_) fun hb131 => ?_
 ·replace G := ift hb131 G
  refine ws fun K132 hK132 => ?_
  refine x_m J rfl fun U J => ?_
  refine x_m J rfl fun U J => ?_
  refine wn (hK132 _ _ ?_)
  refine wp_ret ?_
  replace X := X.pk 1 |>.pk 1
  replace X := obj66_mk (x := y125.2) X
  replace X := X.drop 1
  cases G
  refine hQ _ _ ?_
  refine lv Tryz.results27 J rfl ?_
  exact ⟨rfl, X⟩
 replace G := iff' hb131 G
 refine wp_skip ?_
 refine hK121 _ _ ?_
 refine wp_seq_k fun K133 hK133 => ?_
 refine ws fun K134 hK134 => ?_
 refine x_m J rfl fun U J => ?_
 refine x_m J rfl fun U J => ?_
 replace X := SH.nil_own (d := (kI .u8)) (e := 5) X
 obtain ⟨y135, h136, G⟩ := bnd G
 refine x_call' en50 J (F_column_Uint (L := blk g0 66 [.slice A127 n128 c129, .int .i64 y125.2.f1, .int .i64 y125.2.f2, .bool y125.2.f3, .int .i64 y125.2.f4] :: own2 kp72 (kI .u8) 5 (fun x : S72 => x.f1) 72 A127 n128 c129 y125.2.f0 :: own (kI .u8) 5 B110 m111 d112 y108 :: L) [] a1 none 0 0 h136 X) (fun v U w hR J => ?_) rfl
 obtain ⟨B137, m138, d139, rfl, X⟩ := hR
 replace X := SH.nil_own (d := (kI .u8)) (e := 5) X
 obtain ⟨y140, h141, G⟩ := bnd G
 refine x_call' en49 J (F_page_Lay (L := own (kI .u8) 5 B137 m138 d139 y135 :: blk g0 66 [.slice A127 n128 c129, .int .i64 y125.2.f1, .int .i64 y125.2.f2, .bool y125.2.f3, .int .i64 y125.2.f4] :: own2 kp72 (kI .u8) 5 (fun x : S72 => x.f1) 72 A127 n128 c129 y125.2.f0 :: own (kI .u8) 5 B110 m111 d112 y108 :: L) [] 109 y135 none 0 0 B137 m138 d139 h141 (qz + 4) hZ (RdL.own 0 rfl (X.dropN 1)) hG0 X) (fun v U w hR J => ?_) rfl
 obtain ⟨B142, m143, d144, rfl, X⟩ := hR
 replace X := X.pk 3 |>.pk 3
 replace X := obj66_mk (x := y125.2) X
 obtain ⟨y145, h146, G⟩ := bnd G
 refine x_call' en47 J (F_commit_put (L := own (kI .u8) 5 B142 m143 d144 y140 :: own (kI .u8) 5 B137 m138 d139 y135 :: own (kI .u8) 5 B110 m111 d112 y108 :: L) y125.2 [109, 97, 110, 46, 116, 109, 112] y140 g0 B142 m143 d144 h146 (RdL.own 0 rfl (X.dropN 1)) X) (fun v U w hR J => ?_) rfl
 obtain ⟨rfl, X⟩ := hR
 obtain ⟨A147, n148, c149, X⟩ := obj66_open X
 refine x_m J rfl fun U J => ?_
 refine wn (hK134 _ _ ?_)
 refine ws fun K150 hK150 => ?_
 refine x_m J rfl fun U J => ?_
 refine x_v J (r_neI rfl (J.ev rfl) (J.ev rfl)) rfl fun U J => ?_
 refine wn (hK150 _ _ ?_)
 refine c_if J rfl (fun hb151 => ?_) fun hb151 => ?_
 ·replace G := ift hb151 G
  refine ws fun K152 hK152 => ?_
  refine x_m J rfl fun U J => ?_
  refine x_m J rfl fun U J => ?_
  refine wn (hK152 _ _ ?_)
  refine wp_ret ?_
  replace X := X.pk 1 |>.pk 1
  replace X := obj66_mk (x := y145.2) X
  replace X := X.drop 1 |>.drop 1 |>.drop 1
  cases G
  refine hQ _ _ ?_
  refine lv Tryz.results27 J rfl ?_
  exact ⟨rfl, X⟩
 replace G := iff' hb151 G
 refine wp_skip ?_
 refine hK133 _ _ ?_
 refine ws fun K153 hK153 => ?_
 refine x_m J rfl fun U J => ?_
 replace X := X.pk 1 |>.pk 1
 replace X := obj66_mk (x := y145.2) X
 replace X := SH.optS X
 obtain ⟨y154, h155, G⟩ := bnd G
 refine x_call' en51 J (F_files_Store_Rename (L := own (kI .u8) 5 B142 m143 d144 y140 :: own (kI .u8) 5 B137 m138 d139 y135 :: own (kI .u8) 5 B110 m111 d112 y108 :: L) (some y145.2) [109, 97, 110, 46, 116, 109, 112] [109, 97, 110] (some ⟨g0, 0, none⟩) h155 X) (fun v U w hR J => ?_) rfl
 obtain ⟨rfl, X⟩ := hR
 obtain ⟨o156, h157, G⟩ := bnd G
 rw [h157] at X
 replace X := SH.unoptP X
 obtain ⟨A158, n159, c160, X⟩ := obj66_open X
 refine x_m J rfl fun U J => ?_
 refine wn (hK153 _ _ ?_)
 refine wp_ret ?_
 replace X := X.pk 1 |>.pk 1
 replace X := obj66_mk (x := o156) X
 replace X := X.drop 1 |>.drop 1 |>.drop 1
 cases G
 refine hQ _ _ ?_
 refine lv Tryz.results27 J rfl ?_
 exact ⟨rfl, X⟩
theorem F_commit_Put {r : World} {L : List HP} {w : World} {Z : Nat → Prop} {wz : World} (a0 : (Option S66)) (a1 : Int) (a2 : (List Int)) (a3 : (List S63)) (p0 : Option Addr) (A2 : Option Addr) (n2 : Nat) (c2 : Nat) (A3 : Option Addr) (n3 : Nat) (c3 : Nat) {y : (Int × (Option S66))} (G : commit_Put a0 a1 a2 a3 = some y) (ha2 : Imm Z wz (kI .u8) A2 n2 c2 a2) (ha3 : Imm Z wz k63 A3 n3 c3 a3) (hG0 : Imm Z wz (kI .u32) (some ⟨0, 0, none⟩) 16 16 gl_page_table) (hG1 : Gc Z wz 1 isI64) (hG2 : Gc Z wz 2 isEr) (hG3 : Gc Z wz 3 isEr) (X : SH r (optP (obj66) p0 a0 :: zone Z wz :: L) w) :
  Ret Tryz.prog 11 #[.pointer p0, .int .u64 a1, .slice A2 n2 c2, .slice A3 n3 c3] w fun v w' => ∃ (Z' : Nat → Prop) (wz' : World), v = .int .i64 y.1 ∧ Sub Z wz Z' wz' ∧ SH r (optP (obj66) p0 y.2 :: zone Z' wz' :: L) w' := by
 refine enter Tryz.func11 rfl Tryz.ntmps11 [(0, .pointer p0), (1, .int .u64 a1), (2, .slice A2 n2 c2), (3, .slice A3 n3 c3)] rfl (by simp) ?_
 intro U J Qf hQ hQn
 unfold commit_Put at G
 cases a0 with
 | none =>
  have hU := SH.unoptN X
  clear X
  obtain ⟨rfl, X⟩ := hU
  refine ws fun K100 hK100 => ?_
  refine x_m J rfl fun U J => ?_
  refine wn (hK100 _ _ ?_)
  refine wp_seq_k fun K101 hK101 => ?_
  refine ws fun K102 hK102 => ?_
  refine x_m J rfl fun U J => ?_
  refine x_v (v := .bool true) J (r_eqNilP (p := none) uu24 rfl (J.ev rfl) (J.ev rfl)) rfl fun U J => ?_
  refine wn (hK102 _ _ ?_)
  refine c_t (b := true) rfl J ?_ rfl
  refine ws fun K103 hK103 => ?_
  refine x_m J rfl fun U J => ?_
  refine wn (hK103 _ _ ?_)
  refine wp_ret ?_
  replace X := SH.optN (obj66) X
  replace X := X.pk 1 |>.pk 1
  cases G
  refine hQ _ _ ?_
  refine lv Tryz.results11 J rfl ?_
  exact ⟨Z, wz, rfl, (Sub.refl _ _), X⟩
 | some x104 =>
  have hU := SH.unoptS X
  clear X
  obtain ⟨g105, rfl, X⟩ := hU
  obtain ⟨A106, n107, c108, X⟩ := obj66_open X
  refine ws fun K109 hK109 => ?_
  refine x_m J rfl fun U J => ?_
  refine wn (hK109 _ _ ?_)
  refine wp_seq_k fun K110 hK110 => ?_
  refine ws fun K111 hK111 => ?_
  refine x_m J rfl fun U J => ?_
  refine x_v (v := .bool false) J (r_eqNilP (p := some ⟨g105, 0, none⟩) uu24 rfl (J.ev rfl) (J.ev rfl)) rfl fun U J => ?_
  refine wn (hK111 _ _ ?_)
  refine c_f (b := false) rfl J ?_ rfl
  refine wp_skip ?_
  refine hK110 _ _ ?_
  refine wp_seq_k fun K112 hK112 => ?_
  refine wp_seq_k fun K113 hK113 => ?_
  have hj1 : ∀ (b114 : Bool), commit_Put_j1 a1 a2 a3 x104 b114 = some y → ∀ (U : Act) (w : World), FR 60 [] U [(0, (pP g105)), (1, .int .u64 a1), (2, .slice A2 n2 c2), (3, .slice A3 n3 c3), (18, .bool b114)] → SH r (blk g105 66 [.slice A106 n107 c108, .int .i64 x104.f1, .int .i64 x104.f2, .bool x104.f3, .int .i64 x104.f4] :: own2 kp72 (kI .u8) 5 (fun x : S72 => x.f1) 72 A106 n107 c108 x104.f0 :: zone Z wz :: L) w → K113 U w := by
   intro b114 G U w J X
   unfold commit_Put_j1 at G
   refine hK113 _ _ ?_
   refine c_if J rfl (fun hb115 => ?_) fun hb115 => ?_
   ·replace G := ift hb115 G
    refine ws fun K116 hK116 => ?_
    refine x_m J rfl fun U J => ?_
    refine wn (hK116 _ _ ?_)
    refine wp_ret ?_
    replace X := X.pk 1 |>.pk 1
    replace X := obj66_mk (x := x104) X
    replace X := SH.optS X
    replace X := X.pk 1 |>.pk 1
    cases G
    refine hQ _ _ ?_
    refine lv Tryz.results11 J rfl ?_
    exact ⟨Z, wz, rfl, (Sub.refl _ _), X⟩
   replace G := iff' hb115 G
   refine wp_skip ?_
   refine hK112 _ _ ?_
   refine ws fun K117 hK117 => ?_
   refine x_m J rfl fun U J => ?_
   replace X := X.pk 1 |>.pk 1
   replace X := obj66_mk (x := x104) X
   replace X := X.pk 1 |>.pk 1
   obtain ⟨y118, h119, G⟩ := bnd G
   refine x_call' en25 J (F_commit_last (L := L) x104 g105 h119 hG0 X) (fun v U w hR J => ?_) rfl
   obtain ⟨Z120, wz121, rfl, h122, X⟩ := hR
   have h123 := Imm.sub ha2 h122
   have h124 := Imm.sub ha3 h122
   obtain ⟨A125, n126, c127, X⟩ := obj66_open X
   refine x_m J rfl fun U J => ?_
   refine x_v J (r_extract rfl (J.ev rfl) rfl) rfl fun U J => ?_
   refine x_v J (r_extract rfl (J.ev rfl) rfl) rfl fun U J => ?_
   refine x_m J rfl fun U J => ?_
   refine x_m J rfl fun U J => ?_
   refine wn (hK117 _ _ ?_)
   refine wp_seq_k fun K128 hK128 => ?_
   have hj2 : ∀ (x129 : Int), commit_Put_j2 a1 a2 a3 y118 x129 = some y → ∀ (U : Act) (w : World), FR 60 [] U [(0, (pP g105)), (1, .int .u64 a1), (2, .slice A2 n2 c2), (3, .slice A3 n3 c3), (9, .int .u64 y118.1), (10, .int .i64 x129)] → SH r (blk g105 66 [.slice A125 n126 c127, .int .i64 y118.2.2.f1, .int .i64 y118.2.2.f2, .bool y118.2.2.f3, .int .i64 y118.2.2.f4] :: own2 kp72 (kI .u8) 5 (fun x : S72 => x.f1) 72 A125 n126 c127 y118.2.2.f0 :: zone Z120 wz121 :: L) w → K128 U w := by
    intro x129 G U w J X
    unfold commit_Put_j2 at G
    refine hK128 _ _ ?_
    refine wp_seq_k fun K130 hK130 => ?_
    have hj3 : ∀ (l131 : (List S72)) (x132 : Int) (x133 : Int) (b134 : Bool) (x135 : Int) (x136 : Int), commit_Put_j3 a1 a2 a3 y118 l131 x132 x133 b134 x135 x136 = some y → ∀ (A137 : Option Addr) (n138 : Nat) (c139 : Nat) (U : Act) (w : World), FR 60 [] U [(0, (pP g105)), (1, .int .u64 a1), (2, .slice A2 n2 c2), (3, .slice A3 n3 c3), (9, .int .u64 y118.1), (10, .int .i64 x136)] → SH r (blk g105 66 [.slice A137 n138 c139, .int .i64 x132, .int .i64 x133, .bool b134, .int .i64 x135] :: own2 kp72 (kI .u8) 5 (fun x : S72 => x.f1) 72 A137 n138 c139 l131 :: zone Z120 wz121 :: L) w → K130 U w := by
     intro l131 x132 x133 b134 x135 x136 G A137 n138 c139 U w J X
     unfold commit_Put_j3 at G
     refine hK130 _ _ ?_
     refine wp_seq_k fun K140 hK140 => ?_
     have hj4 : ∀ (l141 : (List S72)) (x142 : Int) (x143 : Int) (b144 : Bool) (x145 : Int) (x146 : Int), commit_Put_j4 a1 y118 l141 x142 x143 b144 x145 x146 = some y → ∀ (A147 : Option Addr) (n148 : Nat) (c149 : Nat) (U : Act) (w : World), FR 60 [] U [(0, (pP g105)), (1, .int .u64 a1), (9, .int .u64 y118.1), (10, .int .i64 x146)] → SH r (blk g105 66 [.slice A147 n148 c149, .int .i64 x142, .int .i64 x143, .bool b144, .int .i64 x145] :: own2 kp72 (kI .u8) 5 (fun x : S72 => x.f1) 72 A147 n148 c149 l141 :: zone Z120 wz121 :: L) w → K140 U w := by
      intro l141 x142 x143 b144 x145 x146 G A147 n148 c149 U w J X
      unfold commit_Put_j4 at G
      refine hK140 _ _ ?_
      refine wp_seq_k fun K150 hK150 => ?_
      refine wp_seq_k fun K151 hK151 => ?_
      have hj5 : ∀ (b152 : Bool), commit_Put_j5 a1 y118 l141 x142 x143 b144 x145 x146 b152 = some y → ∀ (U : Act) (w : World), FR 60 [] U [(0, (pP g105)), (1, .int .u64 a1), (9, .int .u64 y118.1), (10, .int .i64 x146), (49, .bool b152)] → SH r (blk g105 66 [.slice A147 n148 c149, .int .i64 x142, .int .i64 x143, .bool b144, .int .i64 x145] :: own2 kp72 (kI .u8) 5 (fun x : S72 => x.f1) 72 A147 n148 c149 l141 :: zone Z120 wz121 :: L) w → K151 U w := by
       intro b152 G U w J X
       unfold commit_Put_j5 at G
       refine hK151 _ _ ?_
       refine c_if J rfl (fun hb153 => ?_) fun hb153 => ?_
       ·replace G := ift hb153 G
        refine ws fun K154 hK154 => ?_
        refine x_m J rfl fun U J => ?_
        refine x_m J rfl fun U J => ?_
        replace X := X.pk 1 |>.pk 1
        replace X := obj66_mk (x := (⟨l141, x142, x143, b144, x145⟩ : S66)) X
        obtain ⟨y155, h156, G⟩ := bnd G
        refine x_call' en26 J (F_commit_sweep (L := zone Z120 wz121 :: L) (⟨l141, x142, x143, b144, x145⟩ : S66) y118.1 g105 h156 0 rfl (Gc.sub hG1 h122) (Gc.sub hG2 h122) (Gc.sub hG3 h122) X) (fun v U w hR J => ?_) rfl
        obtain ⟨rfl, X⟩ := hR
        obtain ⟨A157, n158, c159, X⟩ := obj66_open X
        refine wn (hK154 _ _ ?_)
        refine ws fun K160 hK160 => ?_
        refine x_m J rfl fun U J => ?_
        refine x_m J rfl fun U J => ?_
        refine wn (hK160 _ _ ?_)
        refine wp_ret ?_
        replace X := X.pk 1 |>.pk 1
        replace X := obj66_mk (x := y155.2) X
        replace X := SH.optS X
        replace X := X.pk 1 |>.pk 1
        cases G
        refine hQ _ _ ?_
        refine lv Tryz.results11 J rfl ?_
        exact ⟨Z120, wz121, rfl, h122, X⟩
       replace G := iff' hb153 G
       refine wp_skip ?_
       refine hK150 _ _ ?_
       refine wp_seq_k fun K161 hK161 => ?_
       refine ws fun K162 hK162 => ?_
       refine x_m J rfl fun U J => ?_
       refine x_v J (r_eqI rfl (J.ev rfl) (J.ev rfl)) rfl fun U J => ?_
       refine wn (hK162 _ _ ?_)
       refine c_if J rfl (fun hb163 => ?_) fun hb163 => ?_
       ·replace G := ift hb163 G
        refine ws fun K164 hK164 => ?_
        refine x_m J rfl fun U J => ?_
        refine x_m J rfl fun U J => ?_
        replace X := X.pk 1 |>.pk 1
        replace X := obj66_mk (x := (⟨l141, x142, x143, b144, x145⟩ : S66)) X
        obtain ⟨y165, h166, G⟩ := bnd G
        refine x_call' en26 J (F_commit_sweep (L := zone Z120 wz121 :: L) (⟨l141, x142, x143, b144, x145⟩ : S66) a1 g105 h166 0 rfl (Gc.sub hG1 h122) (Gc.sub hG2 h122) (Gc.sub hG3 h122) X) (fun v U w hR J => ?_) rfl
        obtain ⟨rfl, X⟩ := hR
        obtain ⟨A167, n168, c169, X⟩ := obj66_open X
        refine x_m J rfl fun U J => ?_
        refine wn (hK164 _ _ ?_)
        refine wp_ret ?_
        replace X := X.pk 1 |>.pk 1
        replace X := obj66_mk (x := y165.2) X
        replace X := SH.optS X
        replace X := X.pk 1 |>.pk 1
        cases G
        refine hQ _ _ ?_
        refine lv Tryz.results11 J rfl ?_
        exact ⟨Z120, wz121, rfl, h122, X⟩
       replace G := iff' hb163 G
       refine wp_skip ?_
       refine hK161 _ _ ?_
       refine ws fun K170 hK170 => ?_
       refine x_m J rfl fun U J => ?_
       refine x_m J rfl fun U J => ?_
       refine wn (hK170 _ _ ?_)
       refine wp_ret ?_
       replace X := X.pk 1 |>.pk 1
       replace X := obj66_mk (x := (⟨l141, x142, x143, b144, x145⟩ : S66)) X
       replace X := SH.optS X
       replace X := X.pk 1 |>.pk 1
       cases G
       refine hQ _ _ ?_
       refine lv Tryz.results11 J rfl ?_
       exact ⟨Z120, wz121, rfl, h122, X⟩
      refine wp_reg ?_
      refine x_m J rfl fun U J => ?_
      refine x_v J (r_neI rfl (J.ev rfl) (J.ev rfl)) rfl fun U J => ?_
      refine x_m J rfl fun U J => ?_
      refine bcase (b := x146 != 0) (fun hb171 => ?_) fun hb171 => ?_
      ·replace G := ift hb171 G
       refine x_on' hb171 J ?_ rfl
       refine x_m J rfl fun U J => ?_
       refine x_on' hb171 J ?_ rfl
       refine x_v J (r_neI rfl (J.ev rfl) (J.ev rfl)) rfl fun U J => ?_
       refine x_pickt' hb171 J (fun U J => ?_) rfl
       refine wpList_nil ?_
       exact hj5 (x146 != 9) G U w (J.sub _ rfl) X
      replace G := iff' hb171 G
      refine xO 2 hb171 J rfl fun U J => ?_
      refine x_pickf' hb171 J (fun U J => ?_) rfl
      refine wpList_nil ?_
      exact hj5 false G U w (J.sub _ rfl) X
     refine ws fun K172 hK172 => ?_
     refine x_m J rfl fun U J => ?_
     refine x_v J (r_eqI rfl (J.ev rfl) (J.ev rfl)) rfl fun U J => ?_
     refine wn (hK172 _ _ ?_)
     refine c_if J rfl (fun hb173 => ?_) fun hb173 => ?_
     ·replace G := ift hb173 G
      refine wp_reg ?_
      refine x_m J rfl fun U J => ?_
      refine x_m J rfl fun U J => ?_
      refine x_m J rfl fun U J => ?_
      refine x_m J rfl fun U J => ?_
      replace X := X.pk 1 |>.pk 1
      replace X := obj66_mk (x := (⟨l131, x132, x133, b134, x135⟩ : S66)) X
      obtain ⟨y174, h175, G⟩ := bnd G
      refine x_call' en27 J (F_commit_write (L := zone Z120 wz121 :: L) (⟨l131, x132, x133, b134, x135⟩ : S66) a1 a2 a3 g105 A2 n2 c2 A3 n3 c3 h175 0 rfl (h123.rdl 0 rfl) (h124.rdl 0 rfl) (Imm.sub hG0 h122) X) (fun v U w hR J => ?_) rfl
      obtain ⟨rfl, X⟩ := hR
      obtain ⟨A176, n177, c178, X⟩ := obj66_open X
      refine x_m J rfl fun U J => ?_
      refine wpList_nil ?_
      exact hj4 y174.2.f0 y174.2.f1 y174.2.f2 y174.2.f3 y174.2.f4 y174.1 G A176 n177 c178 U w (J.sub _ rfl) X
     replace G := iff' hb173 G
     refine wp_skip ?_
     exact hj4 l131 x132 x133 b134 x135 x136 G A137 n138 c139 U w (J.sub _ rfl) X
    refine ws fun K179 hK179 => ?_
    refine x_m J rfl fun U J => ?_
    refine x_v J (r_eqI rfl (J.ev rfl) (J.ev rfl)) rfl fun U J => ?_
    refine wn (hK179 _ _ ?_)
    refine c_if J rfl (fun hb180 => ?_) fun hb180 => ?_
    ·replace G := ift hb180 G
     refine wp_reg ?_
     refine x_m J rfl fun U J => ?_
     refine x_m J rfl fun U J => ?_
     replace X := X.pk 1 |>.pk 1
     replace X := obj66_mk (x := y118.2.2) X
     obtain ⟨y181, h182, G⟩ := bnd G
     refine x_call' en26 J (F_commit_sweep (L := zone Z120 wz121 :: L) y118.2.2 y118.1 g105 h182 0 rfl (Gc.sub hG1 h122) (Gc.sub hG2 h122) (Gc.sub hG3 h122) X) (fun v U w hR J => ?_) rfl
     obtain ⟨rfl, X⟩ := hR
     obtain ⟨A183, n184, c185, X⟩ := obj66_open X
     refine x_m J rfl fun U J => ?_
     refine wpList_nil ?_
     exact hj3 y181.2.f0 y181.2.f1 y181.2.f2 y181.2.f3 y181.2.f4 y181.1 G A183 n184 c185 U w (J.sub _ rfl) X
    replace G := iff' hb180 G
    refine wp_skip ?_
    exact hj3 y118.2.2.f0 y118.2.2.f1 y118.2.2.f2 y118.2.2.f3 y118.2.2.f4 x129 G A125 n126 c127 U w (J.sub _ rfl) X
   refine wp_seq_k fun K186 hK186 => ?_
   have hj6 : ∀ (b187 : Bool), commit_Put_j6 a1 a2 a3 y118 b187 = some y → ∀ (U : Act) (w : World), FR 60 [] U [(0, (pP g105)), (1, .int .u64 a1), (2, .slice A2 n2 c2), (3, .slice A3 n3 c3), (9, .int .u64 y118.1), (10, .int .i64 y118.2.1), (31, .bool b187)] → SH r (blk g105 66 [.slice A125 n126 c127, .int .i64 y118.2.2.f1, .int .i64 y118.2.2.f2, .bool y118.2.2.f3, .int .i64 y118.2.2.f4] :: own2 kp72 (kI .u8) 5 (fun x : S72 => x.f1) 72 A125 n126 c127 y118.2.2.f0 :: zone Z120 wz121 :: L) w → K186 U w := by
    intro b187 G U w J X
    unfold commit_Put_j6 at G
    refine hK186 _ _ ?_
    refine c_if J rfl (fun hb188 => ?_) fun hb188 => ?_
    ·replace G := ift hb188 G
     refine wp_reg ?_
     refine x_m J rfl fun U J => ?_
     refine wpList_nil ?_
     exact hj2 7 G U w (J.sub _ rfl) X
    replace G := iff' hb188 G
    refine wp_skip ?_
    exact hj2 y118.2.1 G U w (J.sub _ rfl) X
   refine wp_reg ?_
   refine x_m J rfl fun U J => ?_
   refine x_v J (r_eqI rfl (J.ev rfl) (J.ev rfl)) rfl fun U J => ?_
   refine x_m J rfl fun U J => ?_
   refine bcase (b := y118.2.1 == 0) (fun hb189 => ?_) fun hb189 => ?_
   ·replace G := ift hb189 G
    refine x_on' hb189 J ?_ rfl
    refine x_m J rfl fun U J => ?_
    refine x_on' hb189 J ?_ rfl
    refine x_m J rfl fun U J => ?_
    refine x_on' hb189 J ?_ rfl
    obtain ⟨x190, h191, G⟩ := ltt_ G
    refine x_v (v := .int .u64 x190) J (rv_i h191 (r_sub rfl (J.ev rfl) (J.ev rfl))) rfl fun U J => ?_
    refine x_on' hb189 J ?_ rfl
    refine x_v J (r_neI rfl (J.ev rfl) (J.ev rfl)) rfl fun U J => ?_
    refine x_pickt' hb189 J (fun U J => ?_) rfl
    refine wpList_nil ?_
    exact hj6 (y118.1 != x190) G U w (J.sub _ rfl) X
   replace G := iff' hb189 G
   refine xO 4 hb189 J rfl fun U J => ?_
   refine x_pickf' hb189 J (fun U J => ?_) rfl
   refine wpList_nil ?_
   exact hj6 false G U w (J.sub _ rfl) X
  refine wp_reg ?_
  refine x_m J rfl fun U J => ?_
  refine x_v J (r_ltI rfl (J.ev rfl) (J.ev rfl)) rfl fun U J => ?_
  refine x_m J rfl fun U J => ?_
  refine bcase (b := decide (a1 < 1)) (fun hb192 => ?_) fun hb192 => ?_
  ·replace G := ift hb192 G
   refine xO 2 hb192 J rfl fun U J => ?_
   refine x_pickt' hb192 J (fun U J => ?_) rfl
   refine wpList_nil ?_
   exact hj1 true G U w (J.sub _ rfl) X
  replace G := iff' hb192 G
  refine x_on' hb192 J ?_ rfl
  refine x_m J rfl fun U J => ?_
  refine x_on' hb192 J ?_ rfl
  refine x_v J (r_gtI rfl (J.ev rfl) (J.ev rfl)) rfl fun U J => ?_
  refine x_pickf' hb192 J (fun U J => ?_) rfl
  refine wpList_nil ?_
  exact hj1 (decide (125 < a1)) G U w (J.sub _ rfl) X
theorem F_commit_Recover {r : World} {L : List HP} {w : World} {Z : Nat → Prop} {wz : World} (a0 : (Option S66)) (p0 : Option Addr) {y : (Int × (List Int) × (List S63) × Int × (Option S66))} (G : commit_Recover a0 = some y) (hG0 : Imm Z wz (kI .u32) (some ⟨0, 0, none⟩) 16 16 gl_page_table) (hG1 : Gc Z wz 1 isI64) (hG2 : Gc Z wz 2 isEr) (hG3 : Gc Z wz 3 isEr) (X : SH r (optP (obj66) p0 a0 :: zone Z wz :: L) w) :
  Ret Tryz.prog 12 #[.pointer p0] w fun v w' => ∃ (Z' : Nat → Prop) (wz' : World) (B1 : Option Addr) (m1 : Nat) (d1 : Nat) (B2 : Option Addr) (m2 : Nat) (d2 : Nat), v = .tuple #[(.int .u64 y.1), (.slice B1 m1 d1), (.slice B2 m2 d2), (.int .i64 y.2.2.2.1)] ∧ Sub Z wz Z' wz' ∧ SH r (own (kI .u8) 5 B1 m1 d1 y.2.1 :: own k63 63 B2 m2 d2 y.2.2.1 :: optP (obj66) p0 y.2.2.2.2 :: zone Z' wz' :: L) w' := by
 refine enter Tryz.func12 rfl Tryz.ntmps12 [(0, .pointer p0)] rfl (by simp) ?_
 intro U J Qf hQ hQn
 unfold commit_Recover at G
 cases a0 with
 | none =>
  have hU := SH.unoptN X
  clear X
  obtain ⟨rfl, X⟩ := hU
  refine ws fun K100 hK100 => ?_
  refine x_m J rfl fun U J => ?_
  refine x_m J rfl fun U J => ?_
  refine x_m J rfl fun U J => ?_
  refine x_m J rfl fun U J => ?_
  refine wn (hK100 _ _ ?_)
  refine wp_seq_k fun K101 hK101 => ?_
  refine ws fun K102 hK102 => ?_
  refine x_m J rfl fun U J => ?_
  refine x_v (v := .bool true) J (r_eqNilP (p := none) uu24 rfl (J.ev rfl) (J.ev rfl)) rfl fun U J => ?_
  refine wn (hK102 _ _ ?_)
  refine c_t (b := true) rfl J ?_ rfl
  refine ws fun K103 hK103 => ?_
  refine x_m J rfl fun U J => ?_
  refine x_m J rfl fun U J => ?_
  refine x_m J rfl fun U J => ?_
  refine x_m J rfl fun U J => ?_
  refine wn (hK103 _ _ ?_)
  refine wp_ret ?_
  replace X := SH.nil_own (d := (kI .u8)) (e := 5) X
  replace X := SH.nil_own (d := k63) (e := 63) X
  replace X := SH.optN (obj66) X
  replace X := X.pk 3 |>.pk 1 |>.pk 2 |>.pk 3
  cases G
  refine hQ _ _ ?_
  refine lv4 Tryz.results12 J rfl rfl rfl rfl ?_
  exact ⟨Z, wz, none, 0, 0, none, 0, 0, rfl, (Sub.refl _ _), X⟩
 | some x104 =>
  have hU := SH.unoptS X
  clear X
  obtain ⟨g105, rfl, X⟩ := hU
  obtain ⟨A106, n107, c108, X⟩ := obj66_open X
  refine ws fun K109 hK109 => ?_
  refine x_m J rfl fun U J => ?_
  refine x_m J rfl fun U J => ?_
  refine x_m J rfl fun U J => ?_
  refine x_m J rfl fun U J => ?_
  refine wn (hK109 _ _ ?_)
  refine wp_seq_k fun K110 hK110 => ?_
  refine ws fun K111 hK111 => ?_
  refine x_m J rfl fun U J => ?_
  refine x_v (v := .bool false) J (r_eqNilP (p := some ⟨g105, 0, none⟩) uu24 rfl (J.ev rfl) (J.ev rfl)) rfl fun U J => ?_
  refine wn (hK111 _ _ ?_)
  refine c_f (b := false) rfl J ?_ rfl
  refine wp_skip ?_
  refine hK110 _ _ ?_
  refine ws fun K112 hK112 => ?_
  refine x_m J rfl fun U J => ?_
  replace X := X.pk 1 |>.pk 1
  replace X := obj66_mk (x := x104) X
  replace X := X.pk 1 |>.pk 1
  obtain ⟨y113, h114, G⟩ := bnd G
  refine x_call' en25 J (F_commit_last (L := L) x104 g105 h114 hG0 X) (fun v U w hR J => ?_) rfl
  obtain ⟨Z115, wz116, rfl, h117, X⟩ := hR
  obtain ⟨A118, n119, c120, X⟩ := obj66_open X
  refine x_m J rfl fun U J => ?_
  refine x_v J (r_extract rfl (J.ev rfl) rfl) rfl fun U J => ?_
  refine x_v J (r_extract rfl (J.ev rfl) rfl) rfl fun U J => ?_
  refine x_m J rfl fun U J => ?_
  refine x_m J rfl fun U J => ?_
  refine wn (hK112 _ _ ?_)
  refine wp_seq_k fun K121 hK121 => ?_
  have hj1 : ∀ (l122 : (List S72)) (x123 : Int) (x124 : Int) (b125 : Bool) (x126 : Int) (x127 : Int), commit_Recover_j1 y113 l122 x123 x124 b125 x126 x127 = some y → ∀ (A128 : Option Addr) (n129 : Nat) (c130 : Nat) (U : Act) (w : World), FR 74 [] U [(0, (pP g105)), (6, .int .u64 y113.1), (7, .int .i64 x127)] → SH r (blk g105 66 [.slice A128 n129 c130, .int .i64 x123, .int .i64 x124, .bool b125, .int .i64 x126] :: own2 kp72 (kI .u8) 5 (fun x : S72 => x.f1) 72 A128 n129 c130 l122 :: zone Z115 wz116 :: L) w → K121 U w := by
   intro l122 x123 x124 b125 x126 x127 G A128 n129 c130 U w J X
   unfold commit_Recover_j1 at G
   refine hK121 _ _ ?_
   refine wp_seq_k fun K131 hK131 => ?_
   refine wp_seq_k fun K132 hK132 => ?_
   have hj2 : ∀ (b133 : Bool), commit_Recover_j2 y113 l122 x123 x124 b125 x126 x127 b133 = some y → ∀ (U : Act) (w : World), FR 74 [] U [(0, (pP g105)), (6, .int .u64 y113.1), (7, .int .i64 x127), (31, .bool b133)] → SH r (blk g105 66 [.slice A128 n129 c130, .int .i64 x123, .int .i64 x124, .bool b125, .int .i64 x126] :: own2 kp72 (kI .u8) 5 (fun x : S72 => x.f1) 72 A128 n129 c130 l122 :: zone Z115 wz116 :: L) w → K132 U w := by
    intro b133 G U w J X
    unfold commit_Recover_j2 at G
    refine hK132 _ _ ?_
    refine c_if J rfl (fun hb134 => ?_) fun hb134 => ?_
    ·replace G := ift hb134 G
     refine ws fun K135 hK135 => ?_
     refine x_m J rfl fun U J => ?_
     refine x_m J rfl fun U J => ?_
     refine x_m J rfl fun U J => ?_
     refine x_m J rfl fun U J => ?_
     refine x_m J rfl fun U J => ?_
     refine wn (hK135 _ _ ?_)
     refine wp_ret ?_
     replace X := SH.nil_own (d := (kI .u8)) (e := 5) X
     replace X := SH.nil_own (d := k63) (e := 63) X
     replace X := X.pk 3 |>.pk 3
     replace X := obj66_mk (x := (⟨l122, x123, x124, b125, x126⟩ : S66)) X
     replace X := SH.optS X
     replace X := X.pk 3 |>.pk 1 |>.pk 2 |>.pk 3
     cases G
     refine hQ _ _ ?_
     refine lv4 Tryz.results12 J rfl rfl rfl rfl ?_
     exact ⟨Z115, wz116, none, 0, 0, none, 0, 0, rfl, h117, X⟩
    replace G := iff' hb134 G
    refine wp_skip ?_
    refine hK131 _ _ ?_
    refine ws fun K136 hK136 => ?_
    refine x_m J rfl fun U J => ?_
    refine x_m J rfl fun U J => ?_
    obtain ⟨y137, h138, G⟩ := bnd G
    refine x_call' en28 J (F_commit_file (L := blk g105 66 [.slice A128 n129 c130, .int .i64 x123, .int .i64 x124, .bool b125, .int .i64 x126] :: own2 kp72 (kI .u8) 5 (fun x : S72 => x.f1) 72 A128 n129 c130 l122 :: zone Z115 wz116 :: L) [115, 116, 97, 116, 101] y113.1 h138 X) (fun v U w hR J => ?_) rfl
    obtain ⟨rfl, X⟩ := hR
    replace X := X.pk 1 |>.pk 1
    replace X := obj66_mk (x := (⟨l122, x123, x124, b125, x126⟩ : S66)) X
    replace X := SH.optS X
    obtain ⟨y139, h140, G⟩ := bnd G
    refine x_call' en17 J (F_files_Store_Read (L := zone Z115 wz116 :: L) (some (⟨l122, x123, x124, b125, x126⟩ : S66)) y137 (some ⟨g105, 0, none⟩) h140 X) (fun v U w hR J => ?_) rfl
    obtain ⟨B141, m142, d143, rfl, X⟩ := hR
    replace X := X.pk 1
    replace X := SH.unoptP X
    obtain ⟨A144, n145, c146, X⟩ := obj66_open X
    refine x_m J rfl fun U J => ?_
    refine x_v J (r_extract rfl (J.ev rfl) rfl) rfl fun U J => ?_
    refine x_v J (r_extract rfl (J.ev rfl) rfl) rfl fun U J => ?_
    refine x_m J rfl fun U J => ?_
    refine x_m J rfl fun U J => ?_
    refine wn (hK136 _ _ ?_)
    refine wp_seq_k fun K147 hK147 => ?_
    refine ws fun K148 hK148 => ?_
    refine x_m J rfl fun U J => ?_
    refine x_v J (r_neI rfl (J.ev rfl) (J.ev rfl)) rfl fun U J => ?_
    refine wn (hK148 _ _ ?_)
    refine c_if J rfl (fun hb149 => ?_) fun hb149 => ?_
    ·replace G := ift hb149 G
     refine ws fun K150 hK150 => ?_
     refine x_m J rfl fun U J => ?_
     obtain ⟨y151, h152, G⟩ := bnd G
     refine x_call' en29 J (F_commit_lost (L := blk g105 66 [.slice A144 n145 c146, .int .i64 ((⟨l122, x123, x124, b125, x126⟩ : S66).f1), .int .i64 ((⟨l122, x123, x124, b125, x126⟩ : S66).f2), .bool ((⟨l122, x123, x124, b125, x126⟩ : S66).f3), .int .i64 ((⟨l122, x123, x124, b125, x126⟩ : S66).f4)] :: own2 kp72 (kI .u8) 5 (fun x : S72 => x.f1) 72 A144 n145 c146 ((⟨l122, x123, x124, b125, x126⟩ : S66).f0) :: own (kI .u8) 5 B141 m142 d143 y139.1 :: zone Z115 wz116 :: L) y139.2 h152 X) (fun v U w hR J => ?_) rfl
     obtain ⟨rfl, X⟩ := hR
     refine x_m J rfl fun U J => ?_
     refine x_m J rfl fun U J => ?_
     refine x_m J rfl fun U J => ?_
     refine x_m J rfl fun U J => ?_
     refine wn (hK150 _ _ ?_)
     refine wp_ret ?_
     replace X := SH.nil_own (d := (kI .u8)) (e := 5) X
     replace X := SH.nil_own (d := k63) (e := 63) X
     replace X := X.pk 3 |>.pk 3
     replace X := obj66_mk (x := (⟨l122, x123, x124, b125, x126⟩ : S66)) X
     replace X := SH.optS X
     replace X := X.drop 3 |>.pk 3 |>.pk 1 |>.pk 2 |>.pk 3
     cases G
     refine hQ _ _ ?_
     refine lv4 Tryz.results12 J rfl rfl rfl rfl ?_
     exact ⟨Z115, wz116, none, 0, 0, none, 0, 0, rfl, h117, X⟩
    replace G := iff' hb149 G
    refine wp_skip ?_
    refine hK147 _ _ ?_
    refine ws fun K153 hK153 => ?_
    refine x_m J rfl fun U J => ?_
    refine wn (hK153 _ _ ?_)
    refine wp_seq_k fun K154 hK154 => ?_
    refine ws fun K155 hK155 => ?_
    refine x_m J rfl fun U J => ?_
    refine wn (hK155 _ _ ?_)
    refine wp_block_k fun Kx156 hKx156 => ?_
    have hb1 : ∀ (l157 : (List S63)), commit_Recover_b1 y113 l122 x123 x124 b125 x126 y139 l157 = some y → ∀ (Z158 : Nat → Prop) (wz159 : World) (A160 : Option Addr) (n161 : Nat) (c162 : Nat) (A163 : Option Addr) (n164 : Nat) (c165 : Nat) (h166 : Sub Z wz Z158 wz159) (U : Act) (w : World), FR 74 [] U [(0, (pP g105)), (6, .int .u64 y113.1), (8, .slice B141 m142 d143), (9, .slice A163 n164 c165)] → SH r (blk g105 66 [.slice A160 n161 c162, .int .i64 ((⟨l122, x123, x124, b125, x126⟩ : S66).f1), .int .i64 ((⟨l122, x123, x124, b125, x126⟩ : S66).f2), .bool ((⟨l122, x123, x124, b125, x126⟩ : S66).f3), .int .i64 ((⟨l122, x123, x124, b125, x126⟩ : S66).f4)] :: own2 kp72 (kI .u8) 5 (fun x : S72 => x.f1) 72 A160 n161 c162 ((⟨l122, x123, x124, b125, x126⟩ : S66).f0) :: own (kI .u8) 5 B141 m142 d143 y139.1 :: own k63 63 A163 n164 c165 l157 :: zone Z158 wz159 :: L) w → Kx156 U w := by
     intro l157 G Z158 wz159 A160 n161 c162 A163 n164 c165 h166 U w J X
     unfold commit_Recover_b1 at G
     refine hKx156 _ _ ?_
     refine hK154 _ _ ?_
     refine ws fun K167 hK167 => ?_
     refine x_m J rfl fun U J => ?_
     refine x_m J rfl fun U J => ?_
     refine x_m J rfl fun U J => ?_
     refine x_m J rfl fun U J => ?_
     refine x_m J rfl fun U J => ?_
     refine x_m J rfl fun U J => ?_
     refine x_m J rfl fun U J => ?_
     refine wn (hK167 _ _ ?_)
     refine wp_ret ?_
     replace X := X.pk 1 |>.pk 1
     replace X := obj66_mk (x := (⟨l122, x123, x124, b125, x126⟩ : S66)) X
     replace X := SH.optS X
     replace X := X.pk 3 |>.pk 1 |>.pk 3 |>.pk 3
     cases G
     refine hQ _ _ ?_
     refine lv4 Tryz.results12 J rfl rfl rfl rfl ?_
     exact ⟨Z158, wz159, B141, m142, d143, A163, n164, c165, rfl, h166, X⟩
    obtain ⟨t168, hl168, G⟩ := bnd G
    have hR168 := G
    have hx168_0 : ∀ (l169 : (List S63)), (.inl (l169)) = t168 → ∀ (Z170 : Nat → Prop) (wz171 : World) (A172 : Option Addr) (n173 : Nat) (c174 : Nat) (A175 : Option Addr) (n176 : Nat) (c168 : Nat) (h177 : Sub Z wz Z170 wz171) (U : Act) (w : World), FR 74 [] U [(0, (pP g105)), (6, .int .u64 y113.1), (8, .slice B141 m142 d143), (9, .slice A175 n176 c168)] → SH r (blk g105 66 [.slice A172 n173 c174, .int .i64 ((⟨l122, x123, x124, b125, x126⟩ : S66).f1), .int .i64 ((⟨l122, x123, x124, b125, x126⟩ : S66).f2), .bool ((⟨l122, x123, x124, b125, x126⟩ : S66).f3), .int .i64 ((⟨l122, x123, x124, b125, x126⟩ : S66).f4)] :: own2 kp72 (kI .u8) 5 (fun x : S72 => x.f1) 72 A172 n173 c174 ((⟨l122, x123, x124, b125, x126⟩ : S66).f0) :: own (kI .u8) 5 B141 m142 d143 y139.1 :: own k63 63 A175 n176 c168 l169 :: zone Z170 wz171 :: L) w → Kx156 U w := by
     intro l169 ht Z170 wz171 A172 n173 c174 A175 n176 c168 h177 U w J X
     subst ht
     replace G : commit_Recover_x1_0 y113 l122 x123 x124 b125 x126 y139 l169 = some y := G
     unfold commit_Recover_x1_0 at G
     exact hb1 l169 G Z170 wz171 A172 n173 c174 A175 n176 c168 h177 U w (J.sub _ rfl) X
    replace X := SH.nil_own (d := k63) (e := 63) X
    replace X := X.pk 4 |>.pk 1 |>.pk 4 |>.pk 4 |>.pk 4
    refine wp_loop_fn hl168 (fun s U w => ∃ (Z178 : Nat → Prop) (wz179 : World) (A180 : Option Addr) (n181 : Nat) (c182 : Nat) (A183 : Option Addr) (n184 : Nat) (c185 : Nat), Sub Z wz Z178 wz179 ∧ FR 74 [] U [(0, (pP g105)), (6, .int .u64 y113.1), (8, .slice B141 m142 d143), (9, .slice A183 n184 c185), (10, .int .u64 s.2)] ∧ SH r (blk g105 66 [.slice A180 n181 c182, .int .i64 ((⟨l122, x123, x124, b125, x126⟩ : S66).f1), .int .i64 ((⟨l122, x123, x124, b125, x126⟩ : S66).f2), .bool ((⟨l122, x123, x124, b125, x126⟩ : S66).f3), .int .i64 ((⟨l122, x123, x124, b125, x126⟩ : S66).f4)] :: own2 kp72 (kI .u8) 5 (fun x : S72 => x.f1) 72 A180 n181 c182 ((⟨l122, x123, x124, b125, x126⟩ : S66).f0) :: own (kI .u8) 5 B141 m142 d143 y139.1 :: own k63 63 A183 n184 c185 s.1 :: zone Z178 wz179 :: L) w) ⟨Z115, wz116, A144, n145, c146, none, 0, 0, h117, J.sub _ rfl, X⟩ ?_
    intro N168 s168 o168 G N168_ T168_ U w hLab
    obtain ⟨l186, x187⟩ := s168
    replace G : commit_Recover_l1 y113 l122 x123 x124 b125 x126 l186 x187 = some o168 := G
    unfold commit_Recover_l1 at G
    try dsimp only at hLab
    obtain ⟨Z178, wz179, A180, n181, c182, A183, n184, c185, h188, J, X⟩ := hLab
    refine wp_seq_k fun K189 hK189 => ?_
    refine ws fun K190 hK190 => ?_
    refine x_m J rfl fun U J => ?_
    refine x_m J rfl fun U J => ?_
    refine x_v J (r_leI rfl (J.ev rfl) (J.ev rfl)) rfl fun U J => ?_
    refine wn (hK190 _ _ ?_)
    refine c_if J rfl (fun hb191 => ?_) fun hb191 => ?_
    ·replace G := ift hb191 G
     refine wp_skip ?_
     refine hK189 _ _ ?_
     refine wp_seq_k fun K192 hK192 => ?_
     refine wp_block_k fun Kx193 hKx193 => ?_
     refine ws fun K194 hK194 => ?_
     refine x_m J rfl fun U J => ?_
     refine x_m J rfl fun U J => ?_
     obtain ⟨y195, h196, G⟩ := bnd G
     refine x_call' en28 J (F_commit_file (L := blk g105 66 [.slice A180 n181 c182, .int .i64 ((⟨l122, x123, x124, b125, x126⟩ : S66).f1), .int .i64 ((⟨l122, x123, x124, b125, x126⟩ : S66).f2), .bool ((⟨l122, x123, x124, b125, x126⟩ : S66).f3), .int .i64 ((⟨l122, x123, x124, b125, x126⟩ : S66).f4)] :: own2 kp72 (kI .u8) 5 (fun x : S72 => x.f1) 72 A180 n181 c182 ((⟨l122, x123, x124, b125, x126⟩ : S66).f0) :: own (kI .u8) 5 B141 m142 d143 y139.1 :: own k63 63 A183 n184 c185 l186 :: zone Z178 wz179 :: L) [111, 117, 116] x187 h196 X) (fun v U w hR J => ?_) rfl
     obtain ⟨rfl, X⟩ := hR
     replace X := X.pk 1 |>.pk 1
     replace X := obj66_mk (x := (⟨l122, x123, x124, b125, x126⟩ : S66)) X
     replace X := SH.optS X
     obtain ⟨y197, h198, G⟩ := bnd G
     refine x_call' en17 J (F_files_Store_Read (L := own (kI .u8) 5 B141 m142 d143 y139.1 :: own k63 63 A183 n184 c185 l186 :: zone Z178 wz179 :: L) (some (⟨l122, x123, x124, b125, x126⟩ : S66)) y195 (some ⟨g105, 0, none⟩) h198 X) (fun v U w hR J => ?_) rfl
     obtain ⟨B199, m200, d201, rfl, X⟩ := hR
     replace X := X.pk 1
     replace X := SH.unoptP X
     obtain ⟨A202, n203, c204, X⟩ := obj66_open X
     refine x_m J rfl fun U J => ?_
     refine x_v J (r_extract rfl (J.ev rfl) rfl) rfl fun U J => ?_
     refine x_v J (r_extract rfl (J.ev rfl) rfl) rfl fun U J => ?_
     refine x_m J rfl fun U J => ?_
     refine x_m J rfl fun U J => ?_
     refine wn (hK194 _ _ ?_)
     refine wp_seq_k fun K205 hK205 => ?_
     refine ws fun K206 hK206 => ?_
     refine x_m J rfl fun U J => ?_
     refine x_v J (r_neI rfl (J.ev rfl) (J.ev rfl)) rfl fun U J => ?_
     refine wn (hK206 _ _ ?_)
     refine c_if J rfl (fun hb207 => ?_) fun hb207 => ?_
     ·replace G := ift hb207 G
      refine ws fun K208 hK208 => ?_
      refine x_m J rfl fun U J => ?_
      obtain ⟨y209, h210, G⟩ := bnd G
      refine x_call' en29 J (F_commit_lost (L := blk g105 66 [.slice A202 n203 c204, .int .i64 ((⟨l122, x123, x124, b125, x126⟩ : S66).f1), .int .i64 ((⟨l122, x123, x124, b125, x126⟩ : S66).f2), .bool ((⟨l122, x123, x124, b125, x126⟩ : S66).f3), .int .i64 ((⟨l122, x123, x124, b125, x126⟩ : S66).f4)] :: own2 kp72 (kI .u8) 5 (fun x : S72 => x.f1) 72 A202 n203 c204 ((⟨l122, x123, x124, b125, x126⟩ : S66).f0) :: own (kI .u8) 5 B199 m200 d201 y197.1 :: own (kI .u8) 5 B141 m142 d143 y139.1 :: own k63 63 A183 n184 c185 l186 :: zone Z178 wz179 :: L) y197.2 h210 X) (fun v U w hR J => ?_) rfl
      obtain ⟨rfl, X⟩ := hR
      refine x_m J rfl fun U J => ?_
      refine x_m J rfl fun U J => ?_
      refine x_m J rfl fun U J => ?_
      refine x_m J rfl fun U J => ?_
      refine wn (hK208 _ _ ?_)
      refine wp_ret ?_
      replace X := SH.nil_own (d := (kI .u8)) (e := 5) X
      replace X := SH.nil_own (d := k63) (e := 63) X
      replace X := X.pk 3 |>.pk 3
      replace X := obj66_mk (x := (⟨l122, x123, x124, b125, x126⟩ : S66)) X
      replace X := SH.optS X
      replace X := X.drop 3 |>.drop 3 |>.drop 3 |>.pk 3 |>.pk 1 |>.pk 2 |>.pk 3
      cases G
      have ht := T168_ _ rfl
      subst ht
      replace G := hR168
      replace G : some (0, [], [], y209, some (⟨l122, x123, x124, b125, x126⟩ : S66)) = some y := G
      cases G
      refine hQ _ _ ?_
      refine lv4 Tryz.results12 J rfl rfl rfl rfl ?_
      exact ⟨Z178, wz179, none, 0, 0, none, 0, 0, rfl, h188, X⟩
     replace G := iff' hb207 G
     refine wp_skip ?_
     refine hK205 _ _ ?_
     refine ws fun K211 hK211 => ?_
     refine x_m J rfl fun U J => ?_
     replace X := X.pk 5 |>.pk 3
     obtain ⟨Z212, wz213, X, h214, sb956⟩ := SH.freeze (n := m200) (c := d201) (A := B199) X
     obtain ⟨y215, h216, G⟩ := bnd G
     refine x_call' en30 J (F_ledger_Read (L := blk g105 66 [.slice A202 n203 c204, .int .i64 ((⟨l122, x123, x124, b125, x126⟩ : S66).f1), .int .i64 ((⟨l122, x123, x124, b125, x126⟩ : S66).f2), .bool ((⟨l122, x123, x124, b125, x126⟩ : S66).f3), .int .i64 ((⟨l122, x123, x124, b125, x126⟩ : S66).f4)] :: own2 kp72 (kI .u8) 5 (fun x : S72 => x.f1) 72 A202 n203 c204 ((⟨l122, x123, x124, b125, x126⟩ : S66).f0) :: own (kI .u8) 5 B141 m142 d143 y139.1 :: own k63 63 A183 n184 c185 l186 :: L) y197.1 B199 m200 d201 h216 h214 (Imm.sub hG0 (Sub.trans h188 sb956)) X) (fun v U w hR J => ?_) rfl
     obtain ⟨Z217, wz218, B219, m220, d221, rfl, h222, X⟩ := hR
     have h223 := Imm.sub h214 h222
     refine x_m J rfl fun U J => ?_
     refine x_v J (r_extract rfl (J.ev rfl) rfl) rfl fun U J => ?_
     refine x_v J (r_extract rfl (J.ev rfl) rfl) rfl fun U J => ?_
     refine x_m J rfl fun U J => ?_
     refine x_m J rfl fun U J => ?_
     refine wn (hK211 _ _ ?_)
     refine wp_seq_k fun K224 hK224 => ?_
     refine ws fun K225 hK225 => ?_
     refine x_m J rfl fun U J => ?_
     refine x_v J (r_neI rfl (J.ev rfl) (J.ev rfl)) rfl fun U J => ?_
     refine wn (hK225 _ _ ?_)
     refine c_if J rfl (fun hb226 => ?_) fun hb226 => ?_
     ·replace G := ift hb226 G
      refine ws fun K227 hK227 => ?_
      refine x_m J rfl fun U J => ?_
      refine x_m J rfl fun U J => ?_
      refine x_m J rfl fun U J => ?_
      refine x_m J rfl fun U J => ?_
      refine x_m J rfl fun U J => ?_
      refine wn (hK227 _ _ ?_)
      refine wp_ret ?_
      replace X := SH.nil_own (d := (kI .u8)) (e := 5) X
      replace X := SH.nil_own (d := k63) (e := 63) X
      replace X := X.pk 5 |>.pk 5
      replace X := obj66_mk (x := (⟨l122, x123, x124, b125, x126⟩ : S66)) X
      replace X := SH.optS X
      replace X := X.drop 3 |>.drop 4 |>.drop 4 |>.pk 3 |>.pk 1 |>.pk 2 |>.pk 3
      cases G
      have ht := T168_ _ rfl
      subst ht
      replace G := hR168
      replace G : some (0, [], [], y215.2, some (⟨l122, x123, x124, b125, x126⟩ : S66)) = some y := G
      cases G
      refine hQ _ _ ?_
      refine lv4 Tryz.results12 J rfl rfl rfl rfl ?_
      exact ⟨Z217, wz218, none, 0, 0, none, 0, 0, rfl, (Sub.trans (Sub.trans h188 sb956) h222), X⟩
     replace G := iff' hb226 G
     refine wp_skip ?_
     refine hK224 _ _ ?_
     refine wp_reg ?_
     refine x_m J rfl fun U J => ?_
     refine x_m J rfl fun U J => ?_
     obtain ⟨h228, G⟩ := chk_some G
     have hr := X.rd 0 rfl
     refine x_app' 5 inf63 uu31 J X hr.1 hr.2.1 h228 rfl (fun A229 n230 c231 U w X J => ?_) rfl
     refine x_m J rfl fun U J => ?_
     refine wpList_nil ?_
     refine hKx193 _ _ ?_
     refine hK192 _ _ ?_
     refine wp_reg ?_
     refine x_m J rfl fun U J => ?_
     obtain ⟨x232, h233, G⟩ := ltt_ G
     refine x_v (v := .int .u64 x232) J (rv_i h233 (r_add rfl (J.ev rfl) (J.ev rfl))) rfl fun U J => ?_
     refine x_m J rfl fun U J => ?_
     refine wpList_nil ?_
     replace X := X.drop 1 |>.pk 1 |>.pk 1 |>.pk 4 |>.pk 4 |>.pk 4
     cases G
     exact ⟨_, N168_ _ rfl, Z217, wz218, A202, n203, c204, A229, n230, c231, (Sub.trans (Sub.trans h188 sb956) h222), J.sub _ rfl, X⟩
    replace G := iff' hb191 G
    refine wp_exit ?_
    cases G
    exact hx168_0 l186 (T168_ _ rfl) Z178 wz179 A180 n181 c182 A183 n184 c185 h188 U w (J.sub _ rfl) X
   refine wp_reg ?_
   refine x_m J rfl fun U J => ?_
   refine x_v J (r_neI rfl (J.ev rfl) (J.ev rfl)) rfl fun U J => ?_
   refine x_m J rfl fun U J => ?_
   refine bcase (b := x127 != 0) (fun hb234 => ?_) fun hb234 => ?_
   ·replace G := ift hb234 G
    refine xO 2 hb234 J rfl fun U J => ?_
    refine x_pickt' hb234 J (fun U J => ?_) rfl
    refine wpList_nil ?_
    exact hj2 true G U w (J.sub _ rfl) X
   replace G := iff' hb234 G
   refine x_on' hb234 J ?_ rfl
   refine x_m J rfl fun U J => ?_
   refine x_on' hb234 J ?_ rfl
   refine x_v J (r_eqI rfl (J.ev rfl) (J.ev rfl)) rfl fun U J => ?_
   refine x_pickf' hb234 J (fun U J => ?_) rfl
   refine wpList_nil ?_
   exact hj2 (y113.1 == 0) G U w (J.sub _ rfl) X
  refine ws fun K235 hK235 => ?_
  refine x_m J rfl fun U J => ?_
  refine x_v J (r_eqI rfl (J.ev rfl) (J.ev rfl)) rfl fun U J => ?_
  refine wn (hK235 _ _ ?_)
  refine c_if J rfl (fun hb236 => ?_) fun hb236 => ?_
  ·replace G := ift hb236 G
   refine wp_reg ?_
   refine x_m J rfl fun U J => ?_
   refine x_m J rfl fun U J => ?_
   replace X := X.pk 1 |>.pk 1
   replace X := obj66_mk (x := y113.2.2) X
   obtain ⟨y237, h238, G⟩ := bnd G
   refine x_call' en26 J (F_commit_sweep (L := zone Z115 wz116 :: L) y113.2.2 y113.1 g105 h238 0 rfl (Gc.sub hG1 h117) (Gc.sub hG2 h117) (Gc.sub hG3 h117) X) (fun v U w hR J => ?_) rfl
   obtain ⟨rfl, X⟩ := hR
   obtain ⟨A239, n240, c241, X⟩ := obj66_open X
   refine x_m J rfl fun U J => ?_
   refine wpList_nil ?_
   exact hj1 y237.2.f0 y237.2.f1 y237.2.f2 y237.2.f3 y237.2.f4 y237.1 G A239 n240 c241 U w (J.sub _ rfl) X
  replace G := iff' hb236 G
  refine wp_skip ?_
  exact hj1 y113.2.2.f0 y113.2.2.f1 y113.2.2.f2 y113.2.2.f3 y113.2.2.f4 y113.2.1 G A118 n119 c120 U w (J.sub _ rfl) X
noncomputable section
set_option linter.unusedSimpArgs false
def law18_fine_b1 (l1331 : (List S63)) : Option ((List S63)) :=
  some l1331
def law18_fine_x1_0 (l1611 : (List S63)) : Option ((List S63)) :=
  law18_fine_b1 l1611
def law18_fine_b2 (x1479 : Int) (l1707 : (List S63)) : Option (((List S63) × Int) ⊕ (((List S63)))) :=
  ltt (IntKind.i64.wrap (x1479 + 1)) fun x1711 => (some (.inl (l1707, x1711)))
def law18_fine_j2 (a0 : (List S63)) (l1475 : (List S63)) (x1479 : Int) (b1721 : Bool) : Option (((List S63) × Int) ⊕ (((List S63)))) :=
  if b1721 = true then ((at_ a0 x1479).bind fun x1723 => (chk (l1475.length + [x1723].length ≤ 140737488355328 / 88) (law18_fine_b2 x1479 (l1475 ++ [x1723])))) else (law18_fine_b2 x1479 l1475)
def law18_fine_j1 (a0 : (List S63)) (l1475 : (List S63)) (x1479 : Int) (b1619 : Bool) : Option (((List S63) × Int) ⊕ (((List S63)))) :=
  if b1619 = true then ((at_ a0 x1479).bind fun x1731 => (if (decide (x1731.f1 ≤ 1099511627776)) = true then (if (decide ((x1731.f2.f0.length : Int) ≤ 32)) = true then (law18_fine_j2 a0 l1475 x1479 (decide (x1731.f2.f2.f0 ≤ 1099511627776))) else (law18_fine_j2 a0 l1475 x1479 false)) else (law18_fine_j2 a0 l1475 x1479 false))) else (some (.inr (l1475)))
def law18_fine_l1 (a0 : (List S63)) (l1475 : (List S63)) (x1479 : Int) : Option (((List S63) × Int) ⊕ (((List S63)))) :=
  if (decide (x1479 < (a0.length : Int))) = true then (law18_fine_j1 a0 l1475 x1479 (decide (x1479 < 10))) else (law18_fine_j1 a0 l1475 x1479 false)
def law18_fine (a0 : (List S63)) : Option ((List S63)) :=
  (loop (fun s => law18_fine_l1 a0 s.1 s.2) ([], 0)).bind fun t => law18_fine_x1_0 t
def law18_awake_j1 (o156 : (Option S66)) (b157 : Bool) : Option (Bool) :=
  if b157 = true then (some false) else ((commit_Recover o156).bind fun y161 => (if (y161.2.2.2.1 == 0) = true then (if (y161.1 == 2) = true then (if ((bts y161.2.1) == [98]) = true then (if ((y161.2.2.1.length : Int) == 2) = true then ((at_ y161.2.2.1 1).bind fun x177 => (some (x177.f2.f0 == [121]))) else (some false)) else (some false)) else (some false)) else (some false)))
def law18_awake : Option (Bool) :=
  (files_New 65536).bind fun y103 => ((commit_Put y103.1 1 [97] [(⟨true, 0, (⟨[120], (⟨0, 0⟩ : S56), (⟨0, 0, false, 0, 0⟩ : S59)⟩ : S61)⟩ : S63)]).bind fun y190 => (if (y190.1 != 0) = true then (law18_awake_j1 y190.2 true) else ((commit_Put y190.2 2 [98] [(⟨true, 0, (⟨[121], (⟨0, 0⟩ : S56), (⟨0, 0, false, 0, 0⟩ : S59)⟩ : S61)⟩ : S63)]).bind fun y212 => (law18_awake_j1 y212.2 (y212.1 != 0)))))
end
theorem F_law18_fine {r : World} {L : List HP} {w : World} (a0 : (List S63)) (A0 : Option Addr) (n0 : Nat) (c0 : Nat) {y : ((List S63))} (G : law18_fine a0 = some y) (ha0 : RdL L k63 A0 n0 c0 a0) (X : SH r (L) w) :
  Ret Tryz.prog 10 #[.slice A0 n0 c0] w fun v w' => ∃ (B0 : Option Addr) (m0 : Nat) (d0 : Nat), v = .slice B0 m0 d0 ∧ SH r (own k63 63 B0 m0 d0 y :: L) w' := by
 refine enter Tryz.func10 rfl Tryz.ntmps10 [(0, .slice A0 n0 c0)] rfl (by simp) ?_
 intro U J Qf hQ hQn
 unfold law18_fine at G
 refine ws fun K100 hK100 => ?_
 refine x_m J rfl fun U J => ?_
 refine wn (hK100 _ _ ?_)
 refine ws fun K101 hK101 => ?_
 refine x_m J rfl fun U J => ?_
 refine wn (hK101 _ _ ?_)
 refine wp_seq_k fun K102 hK102 => ?_
 refine ws fun K103 hK103 => ?_
 refine x_m J rfl fun U J => ?_
 refine wn (hK103 _ _ ?_)
 refine wp_block_k fun Kx104 hKx104 => ?_
 have hb1 : ∀ (l105 : (List S63)), law18_fine_b1 l105 = some y → ∀ (A106 : Option Addr) (n107 : Nat) (c108 : Nat) (U : Act) (w : World), FR 49 [] U [(3, .slice A106 n107 c108)] → SH r (own k63 63 A106 n107 c108 l105 :: L) w → Kx104 U w := by
  intro l105 G A106 n107 c108 U w J X
  unfold law18_fine_b1 at G
  refine hKx104 _ _ ?_
  refine hK102 _ _ ?_
  refine ws fun K109 hK109 => ?_
  refine x_m J rfl fun U J => ?_
  refine x_m J rfl fun U J => ?_
  refine wn (hK109 _ _ ?_)
  refine wp_ret ?_
  cases G
  refine hQ _ _ ?_
  refine lv Tryz.results10 J rfl ?_
  exact ⟨A106, n107, c108, rfl, X⟩
 obtain ⟨t110, hl110, G⟩ := bnd G
 have hx110_0 : ∀ (l111 : (List S63)), (l111) = t110 → ∀ (A112 : Option Addr) (n113 : Nat) (c110 : Nat) (U : Act) (w : World), FR 49 [] U [(3, .slice A112 n113 c110)] → SH r (own k63 63 A112 n113 c110 l111 :: L) w → Kx104 U w := by
  intro l111 ht A112 n113 c110 U w J X
  subst ht
  replace G : law18_fine_x1_0 l111 = some y := G
  unfold law18_fine_x1_0 at G
  exact hb1 l111 G A112 n113 c110 U w (J.sub _ rfl) X
 replace X := SH.nil_own (d := k63) (e := 63) X
 refine wp_loop_fn hl110 (fun s U w => ∃ (A114 : Option Addr) (n115 : Nat) (c116 : Nat), FR 49 [] U [(0, .slice A0 n0 c0), (3, .slice A114 n115 c116), (4, .int .i64 s.2)] ∧ SH r (own k63 63 A114 n115 c116 s.1 :: L) w) ⟨none, 0, 0, J.sub _ rfl, X⟩ ?_
 intro N110 s110 o110 G N110_ T110_ U w hLab
 obtain ⟨l117, x118⟩ := s110
 replace G : law18_fine_l1 a0 l117 x118 = some o110 := G
 unfold law18_fine_l1 at G
 try dsimp only at hLab
 obtain ⟨A114, n115, c116, J, X⟩ := hLab
 refine wp_seq_k fun K119 hK119 => ?_
 refine wp_seq_k fun K120 hK120 => ?_
 have hj1 : ∀ (b121 : Bool), law18_fine_j1 a0 l117 x118 b121 = some o110 → ∀ (U : Act) (w : World), FR 49 [] U [(0, .slice A0 n0 c0), (3, .slice A114 n115 c116), (4, .int .i64 x118), (12, .bool b121)] → SH r (own k63 63 A114 n115 c116 l117 :: L) w → K120 U w := by
  intro b121 G U w J X
  unfold law18_fine_j1 at G
  refine hK120 _ _ ?_
  refine c_if J rfl (fun hb122 => ?_) fun hb122 => ?_
  ·replace G := ift hb122 G
   refine wp_skip ?_
   refine hK119 _ _ ?_
   refine wp_seq_k fun K123 hK123 => ?_
   refine wp_block_k fun Kx124 hKx124 => ?_
   have hb2 : ∀ (l125 : (List S63)), law18_fine_b2 x118 l125 = some o110 → ∀ (A126 : Option Addr) (n127 : Nat) (c128 : Nat) (U : Act) (w : World), FR 49 [] U [(0, .slice A0 n0 c0), (3, .slice A126 n127 c128), (4, .int .i64 x118)] → SH r (own k63 63 A126 n127 c128 l125 :: L) w → Kx124 U w := by
    intro l125 G A126 n127 c128 U w J X
    unfold law18_fine_b2 at G
    refine hKx124 _ _ ?_
    refine hK123 _ _ ?_
    refine wp_reg ?_
    refine x_m J rfl fun U J => ?_
    obtain ⟨x129, h130, G⟩ := ltt_ G
    refine x_v (v := .int .i64 x129) J (rv_i h130 (r_add rfl (J.ev rfl) (J.ev rfl))) rfl fun U J => ?_
    refine x_m J rfl fun U J => ?_
    refine wpList_nil ?_
    cases G
    exact ⟨_, N110_ _ rfl, A126, n127, c128, J.sub _ rfl, X⟩
   refine wp_seq_k fun K131 hK131 => ?_
   have hj2 : ∀ (b132 : Bool), law18_fine_j2 a0 l117 x118 b132 = some o110 → ∀ (U : Act) (w : World), FR 49 [] U [(0, .slice A0 n0 c0), (3, .slice A114 n115 c116), (4, .int .i64 x118), (40, .bool b132)] → SH r (own k63 63 A114 n115 c116 l117 :: L) w → K131 U w := by
    intro b132 G U w J X
    unfold law18_fine_j2 at G
    refine hK131 _ _ ?_
    refine c_if J rfl (fun hb133 => ?_) fun hb133 => ?_
    ·replace G := ift hb133 G
     refine wp_reg ?_
     refine x_m J rfl fun U J => ?_
     refine x_m J rfl fun U J => ?_
     refine x_m J rfl fun U J => ?_
     obtain ⟨x134, h135, G⟩ := bnd G
     refine x_ia' uu31 sz63 (X.rdl 1 ha0 rfl) h135 J (fun U J => ?_) rfl
     obtain ⟨cs, hV, hc136⟩ := el (X.rdl 1 ha0 rfl) h135
     obtain rfl := hV
     refine x_lda' (cs := [.bool x134.f0, .int .u64 x134.f1, str x134.f2.f0, .int .i64 x134.f2.f1.f0, .int .i64 x134.f2.f1.f1, .int .u64 x134.f2.f2.f0, .float .f64 x134.f2.f2.f1, .bool x134.f2.f2.f2, .float .f64 x134.f2.f2.f3, .float .f64 x134.f2.f2.f4]) uu63 sz63 (fun j u h => by rw [ea_add]; exact hc136 _ _ h) J (fun U J => ?_) rfl
     refine x_bsl' (d := k63) (e := 63) (ps := #[(0, .agg #[.bool x134.f0, .int .u64 x134.f1, str x134.f2.f0, .int .i64 x134.f2.f1.f0, .int .i64 x134.f2.f1.f1, .int .u64 x134.f2.f2.f0, .float .f64 x134.f2.f2.f1, .bool x134.f2.f2.f2, .float .f64 x134.f2.f2.f3, .float .f64 x134.f2.f2.f4])]) (cells := [.bool x134.f0, .int .u64 x134.f1, str x134.f2.f0, .int .i64 x134.f2.f1.f0, .int .i64 x134.f2.f1.f1, .int .u64 x134.f2.f2.f0, .float .f64 x134.f2.f2.f1, .bool x134.f2.f2.f2, .float .f64 x134.f2.f2.f3, .float .f64 x134.f2.f2.f4]) (xs := [x134]) (fun w => by kernel_rfl) rfl ⟨[.bool x134.f0, .int .u64 x134.f1, str x134.f2.f0, .int .i64 x134.f2.f1.f0, .int .i64 x134.f2.f1.f1, .int .u64 x134.f2.f2.f0, .float .f64 x134.f2.f2.f1, .bool x134.f2.f2.f2, .float .f64 x134.f2.f2.f3, .float .f64 x134.f2.f2.f4], _, rfl, rfl, rfl⟩ J X (fun g137 U w X J => ?_) rfl
     obtain ⟨h138, G⟩ := chk_some G
     have hr := X.rd 0 rfl
     refine x_app' 1 inf63 uu31 J X hr.1 hr.2.1 h138 rfl (fun A139 n140 c141 U w X J => ?_) rfl
     refine x_m J rfl fun U J => ?_
     refine wpList_nil ?_
     replace X := X.drop 1
     exact hb2 (l117 ++ [x134]) G A139 n140 c141 U w (J.sub _ rfl) X
    replace G := iff' hb133 G
    refine wp_skip ?_
    exact hb2 l117 G A114 n115 c116 U w (J.sub _ rfl) X
   refine wp_reg ?_
   refine x_m J rfl fun U J => ?_
   refine x_m J rfl fun U J => ?_
   obtain ⟨x142, h143, G⟩ := bnd G
   refine x_ia' uu31 sz63 (X.rdl 1 ha0 rfl) h143 J (fun U J => ?_) rfl
   refine x_fae (m := x118.toNat * 10) fa63_1 J (fun U J => ?_) rfl rfl rfl rfl rfl
   obtain ⟨cs, hV, hc144⟩ := el (X.rdl 1 ha0 rfl) h143
   obtain rfl := hV
   refine x_ld' uu30 (hc144 1 _ rfl) J (fun U J => ?_) rfl
   refine x_v J (r_leI rfl (J.ev rfl) (J.ev rfl)) rfl fun U J => ?_
   refine x_m J rfl fun U J => ?_
   refine bcase (b := decide (x142.f1 ≤ 1099511627776)) (fun hb145 => ?_) fun hb145 => ?_
   ·replace G := ift hb145 G
    refine x_on' hb145 J ?_ rfl
    refine x_m J rfl fun U J => ?_
    refine x_on' hb145 J ?_ rfl
    refine x_m J rfl fun U J => ?_
    refine x_on' hb145 J ?_ rfl
    refine x_ia' uu31 sz63 (X.rdl 1 ha0 rfl) h143 J (fun U J => ?_) rfl
    refine x_on' hb145 J ?_ rfl
    refine x_fae (m := x118.toNat * 10) fa63_2 J (fun U J => ?_) rfl rfl rfl rfl rfl
    refine x_on' hb145 J ?_ rfl
    refine x_fae (m := x118.toNat * 10 + 2) fa61_0 J (fun U J => ?_) rfl rfl rfl rfl rfl
    refine x_on' hb145 J ?_ rfl
    obtain ⟨cs, hV, hc146⟩ := el (X.rdl 1 ha0 rfl) h143
    obtain rfl := hV
    refine x_ld' uu9 (hc146 2 _ rfl) J (fun U J => ?_) rfl
    refine x_on' hb145 J ?_ rfl
    refine x_v J (r_lenS uu9 rfl (J.ev rfl)) rfl fun U J => ?_
    refine x_on' hb145 J ?_ rfl
    refine x_v J (r_leI rfl (J.ev rfl) (J.ev rfl)) rfl fun U J => ?_
    refine x_pickt' hb145 J (fun U J => ?_) rfl
    refine x_m J rfl fun U J => ?_
    refine bcase (b := decide ((x142.f2.f0.length : Int) ≤ 32)) (fun hb147 => ?_) fun hb147 => ?_
    ·replace G := ift hb147 G
     refine x_on' hb147 J ?_ rfl
     refine x_m J rfl fun U J => ?_
     refine x_on' hb147 J ?_ rfl
     refine x_m J rfl fun U J => ?_
     refine x_on' hb147 J ?_ rfl
     refine x_ia' uu31 sz63 (X.rdl 1 ha0 rfl) h143 J (fun U J => ?_) rfl
     refine x_on' hb147 J ?_ rfl
     refine x_fae (m := x118.toNat * 10) fa63_2 J (fun U J => ?_) rfl rfl rfl rfl rfl
     refine x_on' hb147 J ?_ rfl
     refine x_fae (m := x118.toNat * 10 + 2) fa61_2 J (fun U J => ?_) rfl rfl rfl rfl rfl
     refine x_on' hb147 J ?_ rfl
     refine x_fae (m := x118.toNat * 10 + 5) fa59_0 J (fun U J => ?_) rfl rfl rfl rfl rfl
     refine x_on' hb147 J ?_ rfl
     obtain ⟨cs, hV, hc148⟩ := el (X.rdl 1 ha0 rfl) h143
     obtain rfl := hV
     refine x_ld' uu30 (hc148 5 _ rfl) J (fun U J => ?_) rfl
     refine x_on' hb147 J ?_ rfl
     refine x_v J (r_leI rfl (J.ev rfl) (J.ev rfl)) rfl fun U J => ?_
     refine x_pickt' hb147 J (fun U J => ?_) rfl
     refine wpList_nil ?_
     exact hj2 (decide (x142.f2.f2.f0 ≤ 1099511627776)) G U w (J.sub _ rfl) X
    replace G := iff' hb147 G
    refine xO 8 hb147 J rfl fun U J => ?_
    refine x_pickf' hb147 J (fun U J => ?_) rfl
    refine wpList_nil ?_
    exact hj2 false G U w (J.sub _ rfl) X
   replace G := iff' hb145 G
   refine xO 8 hb145 J rfl fun U J => ?_
   refine x_pickf' hb145 J (fun U J => ?_) rfl
   refine x_m J rfl fun U J => ?_
   refine xO 8 rfl J rfl fun U J => ?_
   refine x_pickf' rfl J (fun U J => ?_) rfl
   refine wpList_nil ?_
   exact hj2 false G U w (J.sub _ rfl) X
  replace G := iff' hb122 G
  refine wp_exit ?_
  cases G
  exact hx110_0 l117 (T110_ _ rfl) A114 n115 c116 U w (J.sub _ rfl) X
 refine wp_reg ?_
 refine x_m J rfl fun U J => ?_
 refine x_m J rfl fun U J => ?_
 refine x_len' uu31 (X.rdl 1 ha0 rfl).2.1 J (fun U J => ?_) rfl
 refine x_v J (r_ltI rfl (J.ev rfl) (J.ev rfl)) rfl fun U J => ?_
 refine x_m J rfl fun U J => ?_
 refine bcase (b := decide (x118 < (a0.length : Int))) (fun hb149 => ?_) fun hb149 => ?_
 ·replace G := ift hb149 G
  refine x_on' hb149 J ?_ rfl
  refine x_m J rfl fun U J => ?_
  refine x_on' hb149 J ?_ rfl
  refine x_v J (r_ltI rfl (J.ev rfl) (J.ev rfl)) rfl fun U J => ?_
  refine x_pickt' hb149 J (fun U J => ?_) rfl
  refine wpList_nil ?_
  exact hj1 (decide (x118 < 10)) G U w (J.sub _ rfl) X
 replace G := iff' hb149 G
 refine xO 2 hb149 J rfl fun U J => ?_
 refine x_pickf' hb149 J (fun U J => ?_) rfl
 refine wpList_nil ?_
 exact hj1 false G U w (J.sub _ rfl) X
theorem F_law18_awake {r : World} {L : List HP} {w : World} {Z : Nat → Prop} {wz : World} {y : (Bool)} (G : law18_awake = some y) (hG0 : Imm Z wz (kI .u32) (some ⟨0, 0, none⟩) 16 16 gl_page_table) (hG1 : Gc Z wz 1 isI64) (hG2 : Gc Z wz 2 isEr) (hG3 : Gc Z wz 3 isEr) (X : SH r (zone Z wz :: L) w) :
  Ret Tryz.prog 7 #[] w fun v w' => ∃ (Z' : Nat → Prop) (wz' : World), v = .bool y ∧ Sub Z wz Z' wz' ∧ SH r (zone Z' wz' :: L) w' := by
 refine enter Tryz.func7 rfl Tryz.ntmps7 [] rfl (by simp) ?_
 intro U J Qf hQ hQn
 unfold law18_awake at G
 refine ws fun K100 hK100 => ?_
 refine x_m J rfl fun U J => ?_
 refine wn (hK100 _ _ ?_)
 refine ws fun K101 hK101 => ?_
 obtain ⟨y102, h103, G⟩ := bnd G
 refine x_call' en8 J (F_files_New (L := zone Z wz :: L) 65536 h103 X) (fun v U w hR J => ?_) rfl
 obtain ⟨p104, rfl, X⟩ := hR
 refine x_m J rfl fun U J => ?_
 refine x_v J (r_extract rfl (J.ev rfl) rfl) rfl fun U J => ?_
 refine x_v J (r_extract rfl (J.ev rfl) rfl) rfl fun U J => ?_
 refine x_m J rfl fun U J => ?_
 refine x_m J rfl fun U J => ?_
 refine wn (hK101 _ _ ?_)
 refine ws fun K105 hK105 => ?_
 refine x_v (v := .agg #[str [120], .int .i64 0, .int .i64 0, .int .u64 0, .float .f64 0, .bool false, .float .f64 0, .float .f64 0]) J (r_build (ps := #[(0, str [120])]) rfl (mapev2 J rfl) (fun w => by kernel_rfl)) rfl fun U J => ?_
 refine x_v (v := .agg #[.bool true, .int .u64 0, str [120], .int .i64 0, .int .i64 0, .int .u64 0, .float .f64 0, .bool false, .float .f64 0, .float .f64 0]) J (r_build (ps := #[(0, .bool true), (2, .agg #[str [120], .int .i64 0, .int .i64 0, .int .u64 0, .float .f64 0, .bool false, .float .f64 0, .float .f64 0])]) rfl (mapev2 J rfl) (fun w => by kernel_rfl)) rfl fun U J => ?_
 refine x_bsl' (d := k63) (e := 63) (ps := #[(0, .agg #[.bool true, .int .u64 0, str [120], .int .i64 0, .int .i64 0, .int .u64 0, .float .f64 0, .bool false, .float .f64 0, .float .f64 0])]) (cells := [.bool true, .int .u64 0, str [120], .int .i64 0, .int .i64 0, .int .u64 0, .float .f64 0, .bool false, .float .f64 0, .float .f64 0]) (xs := [(⟨true, 0, (⟨[120], (⟨0, 0⟩ : S56), (⟨0, 0, false, 0, 0⟩ : S59)⟩ : S61)⟩ : S63)]) (fun w => by kernel_rfl) rfl ⟨[.bool true, .int .u64 0, str [120], .int .i64 0, .int .i64 0, .int .u64 0, .float .f64 0, .bool false, .float .f64 0, .float .f64 0], _, rfl, rfl, rfl⟩ J X (fun g106 U w X J => ?_) rfl
 refine x_m J rfl fun U J => ?_
 refine wn (hK105 _ _ ?_)
 refine ws fun K107 hK107 => ?_
 refine x_v (v := .agg #[str [121], .int .i64 0, .int .i64 0, .int .u64 0, .float .f64 0, .bool false, .float .f64 0, .float .f64 0]) J (r_build (ps := #[(0, str [121])]) rfl (mapev2 J rfl) (fun w => by kernel_rfl)) rfl fun U J => ?_
 refine x_v (v := .agg #[.bool true, .int .u64 0, str [121], .int .i64 0, .int .i64 0, .int .u64 0, .float .f64 0, .bool false, .float .f64 0, .float .f64 0]) J (r_build (ps := #[(0, .bool true), (2, .agg #[str [121], .int .i64 0, .int .i64 0, .int .u64 0, .float .f64 0, .bool false, .float .f64 0, .float .f64 0])]) rfl (mapev2 J rfl) (fun w => by kernel_rfl)) rfl fun U J => ?_
 refine x_bsl' (d := k63) (e := 63) (ps := #[(0, .agg #[.bool true, .int .u64 0, str [121], .int .i64 0, .int .i64 0, .int .u64 0, .float .f64 0, .bool false, .float .f64 0, .float .f64 0])]) (cells := [.bool true, .int .u64 0, str [121], .int .i64 0, .int .i64 0, .int .u64 0, .float .f64 0, .bool false, .float .f64 0, .float .f64 0]) (xs := [(⟨true, 0, (⟨[121], (⟨0, 0⟩ : S56), (⟨0, 0, false, 0, 0⟩ : S59)⟩ : S61)⟩ : S63)]) (fun w => by kernel_rfl) rfl ⟨[.bool true, .int .u64 0, str [121], .int .i64 0, .int .i64 0, .int .u64 0, .float .f64 0, .bool false, .float .f64 0, .float .f64 0], _, rfl, rfl, rfl⟩ J X (fun g108 U w X J => ?_) rfl
 refine x_m J rfl fun U J => ?_
 refine wn (hK107 _ _ ?_)
 refine wp_seq_k fun K109 hK109 => ?_
 refine wp_seq_k fun K110 hK110 => ?_
 have hj1 : ∀ (o111 : (Option S66)) (b112 : Bool), law18_awake_j1 o111 b112 = some y → ∀ (Z113 : Nat → Prop) (wz114 : World) (h115 : Sub Z wz Z113 wz114) (U : Act) (w : World), FR 64 [] U [(1, .pointer p104), (32, .bool b112)] → SH r (optP (obj66) p104 o111 :: zone Z113 wz114 :: L) w → K110 U w := by
  intro o111 b112 G Z113 wz114 h115 U w J X
  unfold law18_awake_j1 at G
  refine hK110 _ _ ?_
  refine c_if J rfl (fun hb116 => ?_) fun hb116 => ?_
  ·replace G := ift hb116 G
   refine ws fun K117 hK117 => ?_
   refine x_m J rfl fun U J => ?_
   refine wn (hK117 _ _ ?_)
   refine wp_ret ?_
   replace X := X.drop 0
   cases G
   refine hQ _ _ ?_
   refine lv Tryz.results7 J rfl ?_
   exact ⟨Z113, wz114, rfl, h115, X⟩
  replace G := iff' hb116 G
  refine wp_skip ?_
  refine hK109 _ _ ?_
  refine ws fun K118 hK118 => ?_
  refine x_m J rfl fun U J => ?_
  replace X := X.pk 1 |>.pk 1
  obtain ⟨y119, h120, G⟩ := bnd G
  refine x_call' en12 J (F_commit_Recover (L := L) o111 p104 h120 (Imm.sub hG0 h115) (Gc.sub hG1 h115) (Gc.sub hG2 h115) (Gc.sub hG3 h115) X) (fun v U w hR J => ?_) rfl
  obtain ⟨Z121, wz122, B123, m124, d125, B126, m127, d128, rfl, h129, X⟩ := hR
  refine x_m J rfl fun U J => ?_
  refine x_v J (r_extract rfl (J.ev rfl) rfl) rfl fun U J => ?_
  refine x_v J (r_extract rfl (J.ev rfl) rfl) rfl fun U J => ?_
  refine x_v J (r_extract rfl (J.ev rfl) rfl) rfl fun U J => ?_
  refine x_v J (r_extract rfl (J.ev rfl) rfl) rfl fun U J => ?_
  refine x_m J rfl fun U J => ?_
  refine x_m J rfl fun U J => ?_
  refine x_m J rfl fun U J => ?_
  refine x_m J rfl fun U J => ?_
  refine wn (hK118 _ _ ?_)
  refine ws fun K130 hK130 => ?_
  refine x_m J rfl fun U J => ?_
  refine x_v J (r_eqI rfl (J.ev rfl) (J.ev rfl)) rfl fun U J => ?_
  refine x_m J rfl fun U J => ?_
  refine bcase (b := y119.2.2.2.1 == 0) (fun hb131 => ?_) fun hb131 => ?_
  ·replace G := ift hb131 G
   refine x_on' hb131 J ?_ rfl
   refine x_m J rfl fun U J => ?_
   refine x_on' hb131 J ?_ rfl
   refine x_v J (r_eqI rfl (J.ev rfl) (J.ev rfl)) rfl fun U J => ?_
   refine x_pickt' hb131 J (fun U J => ?_) rfl
   refine x_m J rfl fun U J => ?_
   refine bcase (b := y119.1 == 2) (fun hb132 => ?_) fun hb132 => ?_
   ·replace G := ift hb132 G
    refine x_on' hb132 J ?_ rfl
    refine x_m J rfl fun U J => ?_
    refine x_on' hb132 J ?_ rfl
    refine x_b2s' uu29 uu5 uu9 (X.rd 0 rfl) J (fun U J => ?_) rfl
    refine x_on' hb132 J ?_ rfl
    refine x_v J (r_eqS rfl (J.ev rfl) (J.ev rfl)) rfl fun U J => ?_
    refine x_pickt' hb132 J (fun U J => ?_) rfl
    refine x_m J rfl fun U J => ?_
    refine bcase (b := (bts y119.2.1) == [98]) (fun hb133 => ?_) fun hb133 => ?_
    ·replace G := ift hb133 G
     refine x_on' hb133 J ?_ rfl
     refine x_m J rfl fun U J => ?_
     refine x_on' hb133 J ?_ rfl
     refine x_len' uu31 (X.rd 1 rfl).2.1 J (fun U J => ?_) rfl
     refine x_on' hb133 J ?_ rfl
     refine x_v J (r_eqI rfl (J.ev rfl) (J.ev rfl)) rfl fun U J => ?_
     refine x_pickt' hb133 J (fun U J => ?_) rfl
     refine x_m J rfl fun U J => ?_
     refine bcase (b := (y119.2.2.1.length : Int) == 2) (fun hb134 => ?_) fun hb134 => ?_
     ·replace G := ift hb134 G
      refine x_on' hb134 J ?_ rfl
      refine x_m J rfl fun U J => ?_
      refine x_on' hb134 J ?_ rfl
      obtain ⟨x135, h136, G⟩ := bnd G
      refine x_ia' uu31 sz63 (X.rd 1 rfl) h136 J (fun U J => ?_) rfl
      refine x_on' hb134 J ?_ rfl
      refine x_fae (m := (1 : Int).toNat * 10) fa63_2 J (fun U J => ?_) rfl rfl rfl rfl rfl
      refine x_on' hb134 J ?_ rfl
      refine x_fae (m := (1 : Int).toNat * 10 + 2) fa61_0 J (fun U J => ?_) rfl rfl rfl rfl rfl
      refine x_on' hb134 J ?_ rfl
      obtain ⟨cs, hV, hc137⟩ := el (X.rd 1 rfl) h136
      obtain rfl := hV
      refine x_ld' uu9 (hc137 2 _ rfl) J (fun U J => ?_) rfl
      refine x_on' hb134 J ?_ rfl
      refine x_v J (r_eqS rfl (J.ev rfl) (J.ev rfl)) rfl fun U J => ?_
      refine x_pickt' hb134 J (fun U J => ?_) rfl
      refine x_m J rfl fun U J => ?_
      refine wn (hK130 _ _ ?_)
      refine wp_ret ?_
      replace X := X.drop 0 |>.drop 0 |>.drop 0
      cases G
      refine hQ _ _ ?_
      refine lv Tryz.results7 J rfl ?_
      exact ⟨Z121, wz122, rfl, (Sub.trans h115 h129), X⟩
     replace G := iff' hb134 G
     refine xO 6 hb134 J rfl fun U J => ?_
     refine x_pickf' hb134 J (fun U J => ?_) rfl
     refine x_m J rfl fun U J => ?_
     refine wn (hK130 _ _ ?_)
     refine wp_ret ?_
     replace X := X.drop 0 |>.drop 0 |>.drop 0
     cases G
     refine hQ _ _ ?_
     refine lv Tryz.results7 J rfl ?_
     exact ⟨Z121, wz122, rfl, (Sub.trans h115 h129), X⟩
    replace G := iff' hb133 G
    refine xO 3 hb133 J rfl fun U J => ?_
    refine x_pickf' hb133 J (fun U J => ?_) rfl
    refine x_m J rfl fun U J => ?_
    refine xO 6 rfl J rfl fun U J => ?_
    refine x_pickf' rfl J (fun U J => ?_) rfl
    refine x_m J rfl fun U J => ?_
    refine wn (hK130 _ _ ?_)
    refine wp_ret ?_
    replace X := X.drop 0 |>.drop 0 |>.drop 0
    cases G
    refine hQ _ _ ?_
    refine lv Tryz.results7 J rfl ?_
    exact ⟨Z121, wz122, rfl, (Sub.trans h115 h129), X⟩
   replace G := iff' hb132 G
   refine xO 3 hb132 J rfl fun U J => ?_
   refine x_pickf' hb132 J (fun U J => ?_) rfl
   refine x_m J rfl fun U J => ?_
   refine xO 3 rfl J rfl fun U J => ?_
   refine x_pickf' rfl J (fun U J => ?_) rfl
   refine x_m J rfl fun U J => ?_
   refine xO 6 rfl J rfl fun U J => ?_
   refine x_pickf' rfl J (fun U J => ?_) rfl
   refine x_m J rfl fun U J => ?_
   refine wn (hK130 _ _ ?_)
   refine wp_ret ?_
   replace X := X.drop 0 |>.drop 0 |>.drop 0
   cases G
   refine hQ _ _ ?_
   refine lv Tryz.results7 J rfl ?_
   exact ⟨Z121, wz122, rfl, (Sub.trans h115 h129), X⟩
  replace G := iff' hb131 G
  refine xO 2 hb131 J rfl fun U J => ?_
  refine x_pickf' hb131 J (fun U J => ?_) rfl
  refine x_m J rfl fun U J => ?_
  refine xO 3 rfl J rfl fun U J => ?_
  refine x_pickf' rfl J (fun U J => ?_) rfl
  refine x_m J rfl fun U J => ?_
  refine xO 3 rfl J rfl fun U J => ?_
  refine x_pickf' rfl J (fun U J => ?_) rfl
  refine x_m J rfl fun U J => ?_
  refine xO 6 rfl J rfl fun U J => ?_
  refine x_pickf' rfl J (fun U J => ?_) rfl
  refine x_m J rfl fun U J => ?_
  refine wn (hK130 _ _ ?_)
  refine wp_ret ?_
  replace X := X.drop 0 |>.drop 0 |>.drop 0
  cases G
  refine hQ _ _ ?_
  refine lv Tryz.results7 J rfl ?_
  exact ⟨Z121, wz122, rfl, (Sub.trans h115 h129), X⟩
 refine wp_reg ?_
 refine x_m J rfl fun U J => ?_
 refine x_bsl' (d := (kI .u8)) (e := 5) (ps := #[(0, .int .u8 97)]) (cells := [.int .u8 97]) (xs := [97]) (fun w => by kernel_rfl) rfl ⟨[.int .u8 97], _, rfl, rfl, rfl⟩ J X (fun g138 U w X J => ?_) rfl
 replace X := own_ownm (by decide) X
 refine x_cvM' 0 uu29 uu5 J X rfl (fun  U w X J => ?_) rfl
 refine x_m J rfl fun U J => ?_
 replace X := X.pk 4 |>.pk 1
 obtain ⟨Z139, wz140, X, h141, sb184⟩ := SH.freezem (m := 1) (c := 1) (A := (some ⟨g138, 0, none⟩)) X
 replace X := X.pk 0 |>.pk 2
 obtain ⟨Z142, wz143, X, h144, sb188⟩ := SH.freeze (n := 1) (c := 1) (A := (some ⟨g106, 0, none⟩)) X
 have h145 := Imm.sub h141 sb188
 replace X := X.pk 2
 obtain ⟨y146, h147, G⟩ := bnd G
 refine x_call' en11 J (F_commit_Put (L := own k63 63 (some ⟨g108, 0, none⟩) 1 1 [(⟨true, 0, (⟨[121], (⟨0, 0⟩ : S56), (⟨0, 0, false, 0, 0⟩ : S59)⟩ : S61)⟩ : S63)] :: L) y102.1 1 [97] [(⟨true, 0, (⟨[120], (⟨0, 0⟩ : S56), (⟨0, 0, false, 0, 0⟩ : S59)⟩ : S61)⟩ : S63)] p104 (some ⟨g138, 0, none⟩) 1 1 (some ⟨g106, 0, none⟩) 1 1 h147 h145 h144 (Imm.sub hG0 (Sub.trans sb184 sb188)) (Gc.sub hG1 (Sub.trans sb184 sb188)) (Gc.sub hG2 (Sub.trans sb184 sb188)) (Gc.sub hG3 (Sub.trans sb184 sb188)) X) (fun v U w hR J => ?_) rfl
 obtain ⟨Z148, wz149, rfl, h150, X⟩ := hR
 have h151 := Imm.sub h144 h150
 have h152 := Imm.sub h145 h150
 refine x_v J (r_neI rfl (J.ev rfl) (J.ev rfl)) rfl fun U J => ?_
 refine x_m J rfl fun U J => ?_
 refine bcase (b := y146.1 != 0) (fun hb153 => ?_) fun hb153 => ?_
 ·replace G := ift hb153 G
  refine xO 6 hb153 J rfl fun U J => ?_
  refine x_pickt' hb153 J (fun U J => ?_) rfl
  refine wpList_nil ?_
  replace X := X.drop 2
  exact hj1 y146.2 true G Z148 wz149 (Sub.trans (Sub.trans sb184 sb188) h150) U w (J.sub _ rfl) X
 replace G := iff' hb153 G
 refine x_on' hb153 J ?_ rfl
 refine x_m J rfl fun U J => ?_
 refine x_on' hb153 J ?_ rfl
 refine x_bsl' (d := (kI .u8)) (e := 5) (ps := #[(0, .int .u8 98)]) (cells := [.int .u8 98]) (xs := [98]) (fun w => by kernel_rfl) rfl ⟨[.int .u8 98], _, rfl, rfl, rfl⟩ J X (fun g154 U w X J => ?_) rfl
 refine x_on' hb153 J ?_ rfl
 replace X := own_ownm (by decide) X
 refine x_cvM' 0 uu29 uu5 J X rfl (fun  U w X J => ?_) rfl
 refine x_on' hb153 J ?_ rfl
 refine x_m J rfl fun U J => ?_
 refine x_on' hb153 J ?_ rfl
 replace X := X.pk 2 |>.pk 1
 obtain ⟨Z155, wz156, X, h157, sb202⟩ := SH.freezem (m := 1) (c := 1) (A := (some ⟨g154, 0, none⟩)) X
 have h158 := Imm.sub h151 sb202
 have h159 := Imm.sub h152 sb202
 replace X := X.pk 0 |>.pk 2
 obtain ⟨Z160, wz161, X, h162, sb208⟩ := SH.freeze (n := 1) (c := 1) (A := (some ⟨g108, 0, none⟩)) X
 have h163 := Imm.sub h158 sb208
 have h164 := Imm.sub h159 sb208
 have h165 := Imm.sub h157 sb208
 replace X := X.pk 1
 obtain ⟨y166, h167, G⟩ := bnd G
 refine x_call' en11 J (F_commit_Put (L := L) y146.2 2 [98] [(⟨true, 0, (⟨[121], (⟨0, 0⟩ : S56), (⟨0, 0, false, 0, 0⟩ : S59)⟩ : S61)⟩ : S63)] p104 (some ⟨g154, 0, none⟩) 1 1 (some ⟨g108, 0, none⟩) 1 1 h167 h165 h162 (Imm.sub hG0 (Sub.trans (Sub.trans (Sub.trans (Sub.trans sb184 sb188) h150) sb202) sb208)) (Gc.sub hG1 (Sub.trans (Sub.trans (Sub.trans (Sub.trans sb184 sb188) h150) sb202) sb208)) (Gc.sub hG2 (Sub.trans (Sub.trans (Sub.trans (Sub.trans sb184 sb188) h150) sb202) sb208)) (Gc.sub hG3 (Sub.trans (Sub.trans (Sub.trans (Sub.trans sb184 sb188) h150) sb202) sb208)) X) (fun v U w hR J => ?_) rfl
 obtain ⟨Z168, wz169, rfl, h170, X⟩ := hR
 have h171 := Imm.sub h163 h170
 have h172 := Imm.sub h162 h170
 have h173 := Imm.sub h164 h170
 have h174 := Imm.sub h165 h170
 refine x_on' hb153 J ?_ rfl
 refine x_v J (r_neI rfl (J.ev rfl) (J.ev rfl)) rfl fun U J => ?_
 refine x_pickf' hb153 J (fun U J => ?_) rfl
 refine wpList_nil ?_
 exact hj1 y166.2 (y166.1 != 0) G Z168 wz169 (Sub.trans (Sub.trans (Sub.trans (Sub.trans (Sub.trans sb184 sb188) h150) sb202) sb208) h170) U w (J.sub _ rfl) X
noncomputable section
set_option linter.unusedSimpArgs false
def law18_CommitTwins_b1 : Option (Bool) :=
  some true
def law18_CommitTwins_x1_0 : Option (Bool) :=
  law18_CommitTwins_b1
def law18_CommitTwins_b2 (x18681 : Int) (x21947 : Int) (o22030 : (Option S66)) (o22062 : (Option S66)) : Option (((Option S66) × (Option S66) × Int × Int) ⊕ ((Unit) ⊕ (Bool))) :=
  ltt (IntKind.i64.wrap (x18681 + 1)) fun x22193 => (some (.inl (o22030, o22062, x21947, x22193)))
def law18_CommitTwins_x2_2 (x18681 : Int) (x21947 : Int) (o22030 : (Option S66)) (o22062 : (Option S66)) : Option (((Option S66) × (Option S66) × Int × Int) ⊕ ((Unit) ⊕ (Bool))) :=
  law18_CommitTwins_b2 x18681 x21947 o22030 o22062
def law18_CommitTwins_j4 (x22232 : Int) (b22298 : Bool) : Option ((Int) ⊕ ((Unit) ⊕ (Bool))) :=
  if b22298 = true then (some (.inr (.inr false))) else (ltt (IntKind.i64.wrap (x22232 + 1)) fun x22301 => (some (.inl (x22301))))
def law18_CommitTwins_l2 (o22030 : (Option S66)) (o22062 : (Option S66)) (y22064 : ((List (List UInt8)))) (y22070 : ((List (List UInt8)))) (x22232 : Int) : Option ((Int) ⊕ ((Unit) ⊕ (Bool))) :=
  if (decide (x22232 < (y22064.length : Int))) = true then ((at_ y22064 x22232).bind fun x22277 => ((files_Store_Read o22030 x22277).bind fun y22280 => ((at_ y22070 x22232).bind fun x22286 => ((files_Store_Read o22062 x22286).bind fun y22289 => (if (!(x22277 == x22286)) = true then (law18_CommitTwins_j4 x22232 true) else (law18_CommitTwins_j4 x22232 (!((bts y22280.1) == (bts y22289.1))))))))) else (some (.inr (.inl ())))
def law18_CommitTwins_j3 (x18681 : Int) (x21947 : Int) (o22030 : (Option S66)) (o22062 : (Option S66)) : Option (((Option S66) × (Option S66) × Int × Int) ⊕ ((Unit) ⊕ (Bool))) :=
  (files_Store_List o22030).bind fun y22064 => ((files_Store_List o22062).bind fun y22070 => (if ((y22064.length : Int) != (y22070.length : Int)) = true then (some (.inr (.inr false))) else ((loop (fun s => law18_CommitTwins_l2 o22030 o22062 y22064 y22070 s) (0)).bind fun t => match t with | (.inl t) => law18_CommitTwins_x2_2 x18681 x21947 o22030 o22062 | (.inr t) => some (.inr (.inr t)))))
def law18_CommitTwins_j2 (a1 : Int) (x18681 : Int) (x21947 : Int) (o22030 : (Option S66)) (o22031 : (Option S66)) (b22032 : Bool) : Option (((Option S66) × (Option S66) × Int × Int) ⊕ ((Unit) ⊕ (Bool))) :=
  if b22032 = true then (some (.inr (.inr false))) else (chk (0 ≤ x18681) (ltt (ishr .u32 a1 x18681) fun x22308 => (ltt (iand .u32 x22308 1) fun x22310 => (if (x22310 == 1) = true then ((commit_Recover o22031).bind fun y22314 => ((files_Store_Restart y22314.2.2.2.2 []).bind fun y22326 => (law18_CommitTwins_j3 x18681 x21947 o22030 y22326.2))) else (law18_CommitTwins_j3 x18681 x21947 o22030 o22031)))))
def law18_CommitTwins_j1 (a0 : (List S36)) (a1 : Int) (o18678 : (Option S66)) (o18679 : (Option S66)) (x18680 : Int) (x18681 : Int) (b20545 : Bool) : Option (((Option S66) × (Option S66) × Int × Int) ⊕ ((Unit) ⊕ (Bool))) :=
  if b20545 = true then ((at_ a0 x18681).bind fun x21929 => (if (decide (500 < (x21929.f1.length : Int))) = true then (some (.inr (.inr true))) else (ltt (IntKind.u64.wrap (x18680 + 1)) fun x21947 => ((law18_fine x21929.f2).bind fun y21963 => ((commit_Put o18678 x21947 x21929.f1 y21963).bind fun y22349 => (if (y22349.1 != 0) = true then (law18_CommitTwins_j2 a1 x18681 x21947 y22349.2 o18679 true) else ((commit_Put o18679 x21947 x21929.f1 y21963).bind fun y22373 => (law18_CommitTwins_j2 a1 x18681 x21947 y22349.2 y22373.2 (y22373.1 != 0))))))))) else (some (.inr (.inl ())))
def law18_CommitTwins_l1 (a0 : (List S36)) (a1 : Int) (o18678 : (Option S66)) (o18679 : (Option S66)) (x18680 : Int) (x18681 : Int) : Option (((Option S66) × (Option S66) × Int × Int) ⊕ ((Unit) ⊕ (Bool))) :=
  if (decide (x18681 < (a0.length : Int))) = true then (law18_CommitTwins_j1 a0 a1 o18678 o18679 x18680 x18681 (decide (x18681 < 20))) else (law18_CommitTwins_j1 a0 a1 o18678 o18679 x18680 x18681 false)
def law18_CommitTwins (a0 : (List S36)) (a1 : Int) : Option (Bool) :=
  (law18_awake).bind fun y104 => (if (!y104) = true then (some false) else ((files_New 1048576).bind fun y113 => ((files_New 1048576).bind fun y117 => ((loop (fun s => law18_CommitTwins_l1 a0 a1 s.1 s.2.1 s.2.2.1 s.2.2.2) (y113.1, y117.1, 0, 0)).bind fun t => match t with | (.inl t) => law18_CommitTwins_x1_0 | (.inr t) => some t))))
end
end Go.Proofs.YtffdckhgkhhbjaaGreatDoor.M
