/- Texts of the claim, joined: what it uses of Dfb, Mfb, Dfd, Mfd, Dfe, Mfe, Dfu, Mfu, Vd, Dcu, Mcu, Dcm. -/
import Derived.Test.YtffdckhgkhhbjaaGreatDoorZc
import Derived.Shelf.Strings.Cut
import Derived.Shelf.Pu.ParseUintPublic10
import Derived.Test.YtffdckhgkhhbjaaGreatDoorProg
namespace Go.Proofs.YtffdckhgkhhbjaaGreatDoor.M
open Go Go.RowKit Go.Proofs.YtffdckhgkhhbjaaGreatDoor.E
set_option linter.unusedVariables false
noncomputable section
set_option linter.unusedSimpArgs false
def files_Form_b1 (a0 : (List UInt8)) : Option (Bool) :=
  if (!(a0 == [])) = true then (some (decide ((a0.length : Int) ≤ 32))) else (some false)
def files_Form_x1_0 (a0 : (List UInt8)) : Option (Bool) :=
  files_Form_b1 a0
def files_Form_j1 (x383 : Int) (b427 : Bool) : Option ((Int) ⊕ ((Unit) ⊕ (Bool))) :=
  if b427 = true then (some (.inr (.inr false))) else (ltt (IntKind.i64.wrap (x383 + 1)) fun x430 => (some (.inl (x430))))
def files_Form_l1 (a0 : (List UInt8)) (x383 : Int) : Option ((Int) ⊕ ((Unit) ⊕ (Bool))) :=
  if (decide (x383 < (a0.length : Int))) = true then ((at_ a0 x383).bind fun x419 => (if ((x419.toNat : Int) != 46) = true then (if (decide ((x419.toNat : Int) < 48)) = true then (if (decide ((x419.toNat : Int) < 97)) = true then (files_Form_j1 x383 true) else (files_Form_j1 x383 (decide (122 < (x419.toNat : Int))))) else (if (decide (57 < (x419.toNat : Int))) = true then (if (decide ((x419.toNat : Int) < 97)) = true then (files_Form_j1 x383 true) else (files_Form_j1 x383 (decide (122 < (x419.toNat : Int))))) else (files_Form_j1 x383 false))) else (files_Form_j1 x383 false))) else (some (.inr (.inl ())))
def files_Form (a0 : (List UInt8)) : Option (Bool) :=
  (loop (fun s => files_Form_l1 a0 s) (0)).bind fun t => match t with | (.inl t) => files_Form_x1_0 a0 | (.inr t) => some t
def files_Store_find_1 (a0 : S72) (a1 : (List UInt8)) : Option (Int) :=
  if (Op.bytesLess a0.f0 a1) = true then (some (-1)) else (if (!(Op.bytesLess a0.f0 a1 || a0.f0 == a1)) = true then (some 1) else (some 0))
def slices_BinarySearchFunc_files_file_files_file_string_b1 (a0 : (List S72)) (a1 : (List UInt8)) (x592 : Int) : Option (Int × Bool) :=
  if (decide (x592 < (a0.length : Int))) = true then ((at_ a0 x592).bind fun x595 => ((files_Store_find_1 x595 a1).bind fun y602 => (some (x592, y602 == 0)))) else (some (x592, false))
def slices_BinarySearchFunc_files_file_files_file_string_x1_0 (a0 : (List S72)) (a1 : (List UInt8)) (x712 : Int) : Option (Int × Bool) :=
  slices_BinarySearchFunc_files_file_files_file_string_b1 a0 a1 x712
def slices_BinarySearchFunc_files_file_files_file_string_b2 (x740 : Int) (x741 : Int) : Option ((Int × Int) ⊕ ((Int))) :=
  some (.inl (x740, x741))
def slices_BinarySearchFunc_files_file_files_file_string_l1 (a0 : (List S72)) (a1 : (List UInt8)) (x657 : Int) (x658 : Int) : Option ((Int × Int) ⊕ ((Int))) :=
  if (decide (x657 < x658)) = true then (ltt (IntKind.i64.wrap (x657 + x658)) fun x743 => (ltt (IntKind.u64.wrap x743) fun x745 => (ltt (ishr .u64 x745 1) fun x747 => (ltt (IntKind.i64.wrap x747) fun x749 => ((at_ a0 x749).bind fun x752 => ((files_Store_find_1 x752 a1).bind fun y759 => (if (decide (y759 < 0)) = true then (ltt (IntKind.i64.wrap (x749 + 1)) fun x762 => (slices_BinarySearchFunc_files_file_files_file_string_b2 x762 x658)) else (slices_BinarySearchFunc_files_file_files_file_string_b2 x657 x749)))))))) else (some (.inr (x657)))
def slices_BinarySearchFunc_files_file_files_file_string (a0 : (List S72)) (a1 : (List UInt8)) : Option (Int × Bool) :=
  (loop (fun s => slices_BinarySearchFunc_files_file_files_file_string_l1 a0 a1 s.1 s.2) (0, (a0.length : Int))).bind fun t => slices_BinarySearchFunc_files_file_files_file_string_x1_0 a0 a1 t
def files_Store_find (a0 : S66) (a1 : (List UInt8)) : Option (Int × Bool) :=
  (slices_BinarySearchFunc_files_file_files_file_string a0.f0 a1).bind fun y103 => (some (y103.1, y103.2))
def files_Store_look (a0 : (Option S66)) (a1 : (List UInt8)) : Option (Int) :=
  match a0 with | none => (some 5) | some x101 => ((files_Form a1).bind fun y116 => (if (!y116) = true then (some 1) else (if x101.f3 = true then (some 9) else (some 0))))
def files_Store_begin_j1 (a0 : S66) (x106 : Int) (x114 : Int) (b115 : Bool) : Option (Bool × S66) :=
  some (!b115, (⟨a0.f0, a0.f1, x114, b115, x106⟩ : S66))
def files_Store_begin (a0 : S66) : Option (Bool × S66) :=
  ltt (IntKind.i64.wrap (a0.f4 + 1)) fun x106 => (if (decide (0 < a0.f2)) = true then (ltt (IntKind.i64.wrap (a0.f2 - 1)) fun x120 => (files_Store_begin_j1 a0 x106 x120 (x120 == 0))) else (files_Store_begin_j1 a0 x106 a0.f2 a0.f3))
def files_Store_Used_b1 (x309 : Int) : Option (Int) :=
  some x309
def files_Store_Used_x1_0 (x353 : Int) : Option (Int) :=
  files_Store_Used_b1 x353
def files_Store_Used_l1 (x101 : S66) (x331 : Int) (x332 : Int) : Option ((Int × Int) ⊕ ((Int))) :=
  if (decide (x332 < (x101.f0.length : Int))) = true then ((at_ x101.f0 x332).bind fun x361 => (ltt (IntKind.i64.wrap (x331 + (x361.f1.length : Int))) fun x369 => (ltt (IntKind.i64.wrap (x332 + 1)) fun x371 => (some (.inl (x369, x371)))))) else (some (.inr (x331)))
def files_Store_Used (a0 : (Option S66)) : Option (Int) :=
  match a0 with | none => (some 0) | some x101 => ((loop (fun s => files_Store_Used_l1 x101 s.1 s.2) (0, 0)).bind fun t => files_Store_Used_x1_0 t)
def files_Store_List_b1 (l399 : (List (List UInt8))) : Option ((List (List UInt8))) :=
  some l399
def files_Store_List_x1_0 (l469 : (List (List UInt8))) : Option ((List (List UInt8))) :=
  files_Store_List_b1 l469
def files_Store_List_l1 (x101 : S66) (l438 : (List (List UInt8))) (x442 : Int) : Option (((List (List UInt8)) × Int) ⊕ (((List (List UInt8))))) :=
  if (decide (x442 < (x101.f0.length : Int))) = true then ((at_ x101.f0 x442).bind fun x480 => (chk (l438.length + [x480.f0].length ≤ 140737488355328 / 16) (ltt (IntKind.i64.wrap (x442 + 1)) fun x493 => (some (.inl (l438 ++ [x480.f0], x493)))))) else (some (.inr (l438)))
def files_Store_List (a0 : (Option S66)) : Option ((List (List UInt8))) :=
  match a0 with | none => (some []) | some x101 => ((loop (fun s => files_Store_List_l1 x101 s.1 s.2) ([], 0)).bind fun t => files_Store_List_x1_0 t)
def files_New_j1 (a0 : Int) (b105 : Bool) : Option ((Option S66) × Int) :=
  if b105 = true then (some (none, 1)) else (some (some (⟨[], a0, 0, false, 0⟩ : S66), 0))
def files_New (a0 : Int) : Option ((Option S66) × Int) :=
  if (decide (a0 < 1)) = true then (files_New_j1 a0 true) else (files_New_j1 a0 (decide (16777216 < a0)))
def files_Store_Append_j2 (a2 : (List Int)) (y129 : (Int × Bool)) (y151 : (Bool × S66)) (l165 : (List S72)) : Option (Int × (Option S66)) :=
  (at_ l165 y129.1).bind fun x170 => (chk (x170.f1.length + a2.length ≤ 140737488355328 / 1) (if (!y151.1) = true then (some (9, some (⟨l165.set y129.1.toNat (⟨x170.f0, x170.f1 ++ a2, x170.f2⟩ : S72), y151.2.f1, y151.2.f2, y151.2.f3, y151.2.f4⟩ : S66))) else (some (0, some (⟨l165.set y129.1.toNat (⟨x170.f0, x170.f1 ++ a2, x170.f2⟩ : S72), y151.2.f1, y151.2.f2, y151.2.f3, y151.2.f4⟩ : S66)))))
def files_Store_Append_j1 (a1 : (List UInt8)) (a2 : (List Int)) (x101 : S66) (y129 : (Int × Bool)) (b147 : Bool) : Option (Int × (Option S66)) :=
  if b147 = true then (some (10, some x101)) else ((files_Store_begin x101).bind fun y151 => (if (!y129.2) = true then ((ins_ y151.2.f0 y129.1 [(⟨a1, [], 0⟩ : S72)]).bind fun y192 => (files_Store_Append_j2 a2 y129 y151 y192)) else (files_Store_Append_j2 a2 y129 y151 y151.2.f0)))
def files_Store_Append (a0 : (Option S66)) (a1 : (List UInt8)) (a2 : (List Int)) : Option (Int × (Option S66)) :=
  match a0 with | none => ((files_Store_look none a1).bind fun y106 => (if (y106 != 0) = true then (some (y106, none)) else (none))) | some x101 => ((files_Store_look (some x101) a1).bind fun y118 => (if (y118 != 0) = true then (some (y118, some x101)) else ((files_Store_find x101 a1).bind fun y129 => ((files_Store_Used (some x101)).bind fun y197 => (ltt (IntKind.i64.wrap (x101.f1 - y197)) fun x204 => (if (decide (x204 < (a2.length : Int))) = true then (files_Store_Append_j1 a1 a2 x101 y129 true) else (if (!y129.2) = true then (files_Store_Append_j1 a1 a2 x101 y129 (decide (500 ≤ (x101.f0.length : Int)))) else (files_Store_Append_j1 a1 a2 x101 y129 false))))))))
def files_Store_Read (a0 : (Option S66)) (a1 : (List UInt8)) : Option ((List Int) × Int) :=
  match a0 with | none => ((files_Store_look none a1).bind fun y106 => (if (y106 != 0) = true then (some ([], y106)) else (none))) | some x101 => ((files_Store_look (some x101) a1).bind fun y118 => (if (y118 != 0) = true then (some ([], y118)) else ((files_Store_find x101 a1).bind fun y129 => (if (!y129.2) = true then (some ([], 5)) else ((at_ x101.f0 y129.1).bind fun x136 => ((slices_Clone_byte_byte x136.f1).bind fun y145 => (some (y145, 0))))))))
end
set_option maxRecDepth 100000
set_option maxHeartbeats 4000000
set_option linter.unusedSimpArgs false
theorem F_files_Form {r : World} {L : List HP} {w : World} (a0 : (List UInt8)) {y : (Bool)} (G : files_Form a0 = some y) (X : SH r (L) w) :
  Ret Tryz.prog 36 #[str a0] w fun v w' => v = .bool y ∧ SH r (L) w' := by
 refine enter Tryz.func36 rfl Tryz.ntmps36 [(0, str a0)] rfl (by simp) ?_
 intro U J Qf hQ hQn
 unfold files_Form at G
 refine ws fun K100 hK100 => ?_
 refine x_m J rfl fun U J => ?_
 refine wn (hK100 _ _ ?_)
 refine wp_seq_k fun K101 hK101 => ?_
 refine ws fun K102 hK102 => ?_
 refine x_m J rfl fun U J => ?_
 refine x_v J (r_lenS uu9 rfl (J.ev rfl)) rfl fun U J => ?_
 refine x_m J rfl fun U J => ?_
 refine wn (hK102 _ _ ?_)
 refine wp_block_k fun Kx103 hKx103 => ?_
 have hb1 : files_Form_b1 a0 = some y → ∀ (U : Act) (w : World), FR 39 [] U [(0, str a0)] → SH r (L) w → Kx103 U w := by
  intro G U w J X
  unfold files_Form_b1 at G
  refine hKx103 _ _ ?_
  refine hK101 _ _ ?_
  refine ws fun K104 hK104 => ?_
  refine x_m J rfl fun U J => ?_
  refine x_v J (r_neS rfl (J.ev rfl) (J.ev rfl)) rfl fun U J => ?_
  refine x_m J rfl fun U J => ?_
  refine bcase (b := !(a0 == [])) (fun hb105 => ?_) fun hb105 => ?_
  ·replace G := ift hb105 G
   refine x_on' hb105 J ?_ rfl
   refine x_m J rfl fun U J => ?_
   refine x_on' hb105 J ?_ rfl
   refine x_v J (r_lenS uu9 rfl (J.ev rfl)) rfl fun U J => ?_
   refine x_on' hb105 J ?_ rfl
   refine x_v J (r_leI rfl (J.ev rfl) (J.ev rfl)) rfl fun U J => ?_
   refine x_pickt' hb105 J (fun U J => ?_) rfl
   refine x_m J rfl fun U J => ?_
   refine wn (hK104 _ _ ?_)
   refine wp_ret ?_
   cases G
   refine hQ _ _ ?_
   refine lv Tryz.results36 J rfl ?_
   exact ⟨rfl, X⟩
  replace G := iff' hb105 G
  refine xO 3 hb105 J rfl fun U J => ?_
  refine x_pickf' hb105 J (fun U J => ?_) rfl
  refine x_m J rfl fun U J => ?_
  refine wn (hK104 _ _ ?_)
  refine wp_ret ?_
  cases G
  refine hQ _ _ ?_
  refine lv Tryz.results36 J rfl ?_
  exact ⟨rfl, X⟩
 obtain ⟨t106, hl106, G⟩ := bnd G
 have hR106 := G
 have hx106_0 : (.inl ()) = t106 → ∀ (U : Act) (w : World), FR 39 [] U [(0, str a0)] → SH r (L) w → Kx103 U w := by
  intro ht U w J X
  subst ht
  replace G : files_Form_x1_0 a0 = some y := G
  unfold files_Form_x1_0 at G
  exact hb1 G U w (J.sub _ rfl) X
 refine wp_loop_fn hl106 (fun s U w => FR 39 [] U [(0, str a0), (6, .int .i64 (a0.length : Int)), (7, .int .i64 s)] ∧ SH r (L) w) ⟨J.sub _ rfl, X⟩ ?_
 intro N106 s106 o106 G N106_ T106_ U w hLab
 obtain ⟨x107, rfl⟩ : ∃ q, q = s106 := ⟨_, rfl⟩
 replace G : files_Form_l1 a0 x107 = some o106 := G
 unfold files_Form_l1 at G
 try dsimp only at hLab
 obtain ⟨J, X⟩ := hLab
 refine ws fun K108 hK108 => ?_
 refine x_v J (r_ltI rfl (J.ev rfl) (J.ev rfl)) rfl fun U J => ?_
 refine wn (hK108 _ _ ?_)
 refine wp_seq_k fun K109 hK109 => ?_
 refine c_if J rfl (fun hb110 => ?_) fun hb110 => ?_
 ·replace G := ift hb110 G
  refine wp_skip ?_
  refine hK109 _ _ ?_
  refine wp_seq_k fun K111 hK111 => ?_
  refine wp_block_k fun Kx112 hKx112 => ?_
  refine ws fun K113 hK113 => ?_
  refine x_m J rfl fun U J => ?_
  refine x_m J rfl fun U J => ?_
  refine wn (hK113 _ _ ?_)
  refine ws fun K114 hK114 => ?_
  refine x_m J rfl fun U J => ?_
  refine x_m J rfl fun U J => ?_
  obtain ⟨x115, h116, G⟩ := bnd G
  refine x_v J (r_indexS uu9 rfl (J.ev rfl) (J.ev rfl) (at_some h116).1 (at_some h116).2.2) rfl fun U J => ?_
  refine x_m J rfl fun U J => ?_
  refine wn (hK114 _ _ ?_)
  refine wp_seq_k fun K117 hK117 => ?_
  have hj1 : ∀ (b118 : Bool), files_Form_j1 x107 b118 = some o106 → ∀ (U : Act) (w : World), FR 39 [] U [(0, str a0), (6, .int .i64 (a0.length : Int)), (7, .int .i64 x107), (30, .bool b118)] → SH r (L) w → K117 U w := by
   intro b118 G U w J X
   unfold files_Form_j1 at G
   refine hK117 _ _ ?_
   refine c_if J rfl (fun hb119 => ?_) fun hb119 => ?_
   ·replace G := ift hb119 G
    refine ws fun K120 hK120 => ?_
    refine x_m J rfl fun U J => ?_
    refine wn (hK120 _ _ ?_)
    refine wp_ret ?_
    cases G
    have ht := T106_ _ rfl
    subst ht
    replace G := hR106
    replace G : some false = some y := G
    cases G
    refine hQ _ _ ?_
    refine lv Tryz.results36 J rfl ?_
    exact ⟨rfl, X⟩
   replace G := iff' hb119 G
   refine wp_skip ?_
   refine hKx112 _ _ ?_
   refine hK111 _ _ ?_
   refine wp_reg ?_
   obtain ⟨x121, h122, G⟩ := ltt_ G
   refine x_v (v := .int .i64 x121) J (rv_i h122 (r_add rfl (J.ev rfl) (J.ev rfl))) rfl fun U J => ?_
   refine x_m J rfl fun U J => ?_
   refine wpList_nil ?_
   cases G
   exact ⟨_, N106_ _ rfl, J.sub _ rfl, X⟩
  refine wp_reg ?_
  refine x_m J rfl fun U J => ?_
  refine x_v J (r_neI rfl (J.ev rfl) (J.ev rfl)) rfl fun U J => ?_
  refine x_m J rfl fun U J => ?_
  refine bcase (b := (x115.toNat : Int) != 46) (fun hb123 => ?_) fun hb123 => ?_
  ·replace G := ift hb123 G
   refine x_on' hb123 J ?_ rfl
   refine x_m J rfl fun U J => ?_
   refine x_on' hb123 J ?_ rfl
   refine x_v J (r_ltI rfl (J.ev rfl) (J.ev rfl)) rfl fun U J => ?_
   refine x_on' hb123 J ?_ rfl
   refine x_m J rfl fun U J => ?_
   refine bcase (b := decide ((x115.toNat : Int) < 48)) (fun hb124 => ?_) fun hb124 => ?_
   ·replace G := ift hb124 G
    refine xO 2 hb124 J rfl fun U J => ?_
    refine x_on' hb123 J ?_ rfl
    refine x_pickt' hb124 J (fun U J => ?_) rfl
    refine x_pickt' hb123 J (fun U J => ?_) rfl
    refine x_m J rfl fun U J => ?_
    refine x_on' rfl J ?_ rfl
    refine x_m J rfl fun U J => ?_
    refine x_on' rfl J ?_ rfl
    refine x_v J (r_ltI rfl (J.ev rfl) (J.ev rfl)) rfl fun U J => ?_
    refine x_on' rfl J ?_ rfl
    refine x_m J rfl fun U J => ?_
    refine bcase (b := decide ((x115.toNat : Int) < 97)) (fun hb125 => ?_) fun hb125 => ?_
    ·replace G := ift hb125 G
     refine xO 2 hb125 J rfl fun U J => ?_
     refine x_on' rfl J ?_ rfl
     refine x_pickt' hb125 J (fun U J => ?_) rfl
     refine x_pickt' rfl J (fun U J => ?_) rfl
     refine wpList_nil ?_
     exact hj1 true G U w (J.sub _ rfl) X
    replace G := iff' hb125 G
    refine x_on' hb125 J ?_ rfl
    refine x_m J rfl fun U J => ?_
    refine x_on' hb125 J ?_ rfl
    refine x_v J (r_gtI rfl (J.ev rfl) (J.ev rfl)) rfl fun U J => ?_
    refine x_on' rfl J ?_ rfl
    refine x_pickf' hb125 J (fun U J => ?_) rfl
    refine x_pickt' rfl J (fun U J => ?_) rfl
    refine wpList_nil ?_
    exact hj1 (decide (122 < (x115.toNat : Int))) G U w (J.sub _ rfl) X
   replace G := iff' hb124 G
   refine x_on' hb124 J ?_ rfl
   refine x_m J rfl fun U J => ?_
   refine x_on' hb124 J ?_ rfl
   refine x_v J (r_gtI rfl (J.ev rfl) (J.ev rfl)) rfl fun U J => ?_
   refine x_on' hb123 J ?_ rfl
   refine x_pickf' hb124 J (fun U J => ?_) rfl
   refine x_pickt' hb123 J (fun U J => ?_) rfl
   refine x_m J rfl fun U J => ?_
   refine bcase (b := decide (57 < (x115.toNat : Int))) (fun hb126 => ?_) fun hb126 => ?_
   ·replace G := ift hb126 G
    refine x_on' hb126 J ?_ rfl
    refine x_m J rfl fun U J => ?_
    refine x_on' hb126 J ?_ rfl
    refine x_v J (r_ltI rfl (J.ev rfl) (J.ev rfl)) rfl fun U J => ?_
    refine x_on' hb126 J ?_ rfl
    refine x_m J rfl fun U J => ?_
    refine bcase (b := decide ((x115.toNat : Int) < 97)) (fun hb127 => ?_) fun hb127 => ?_
    ·replace G := ift hb127 G
     refine xO 2 hb127 J rfl fun U J => ?_
     refine x_on' hb126 J ?_ rfl
     refine x_pickt' hb127 J (fun U J => ?_) rfl
     refine x_pickt' hb126 J (fun U J => ?_) rfl
     refine wpList_nil ?_
     exact hj1 true G U w (J.sub _ rfl) X
    replace G := iff' hb127 G
    refine x_on' hb127 J ?_ rfl
    refine x_m J rfl fun U J => ?_
    refine x_on' hb127 J ?_ rfl
    refine x_v J (r_gtI rfl (J.ev rfl) (J.ev rfl)) rfl fun U J => ?_
    refine x_on' hb126 J ?_ rfl
    refine x_pickf' hb127 J (fun U J => ?_) rfl
    refine x_pickt' hb126 J (fun U J => ?_) rfl
    refine wpList_nil ?_
    exact hj1 (decide (122 < (x115.toNat : Int))) G U w (J.sub _ rfl) X
   replace G := iff' hb126 G
   refine xO 3 hb126 J rfl fun U J => ?_
   refine x_offU' J (fun U J => ?_) rfl
   refine x_offU' J (fun U J => ?_) rfl
   refine xO 1 hb126 J rfl fun U J => ?_
   refine x_pickf' hb126 J (fun U J => ?_) rfl
   refine wpList_nil ?_
   exact hj1 false G U w (J.sub _ rfl) X
  replace G := iff' hb123 G
  refine xO 3 hb123 J rfl fun U J => ?_
  refine x_offU' J (fun U J => ?_) rfl
  refine x_offU' J (fun U J => ?_) rfl
  refine xO 1 hb123 J rfl fun U J => ?_
  refine x_pickf' hb123 J (fun U J => ?_) rfl
  refine x_m J rfl fun U J => ?_
  refine xO 3 rfl J rfl fun U J => ?_
  refine x_offU' J (fun U J => ?_) rfl
  refine x_offU' J (fun U J => ?_) rfl
  refine xO 1 rfl J rfl fun U J => ?_
  refine x_pickf' rfl J (fun U J => ?_) rfl
  refine wpList_nil ?_
  exact hj1 false G U w (J.sub _ rfl) X
 replace G := iff' hb110 G
 refine wp_exit ?_
 cases G
 exact hx106_0 (T106_ _ rfl) U w (J.sub _ rfl) X
theorem F_files_Store_find_1 {r : World} {L : List HP} {w : World} (a0 : S72) (a1 : (List UInt8)) (A0 : Option Addr) (n0 : Nat) (c0 : Nat) {y : (Int)} (G : files_Store_find_1 a0 a1 = some y) (X : SH r (L) w) :
  Ret Tryz.prog 38 #[.agg #[str a0.f0, .slice A0 n0 c0, .int .i64 a0.f2], str a1] w fun v w' => v = .int .i64 y ∧ SH r (L) w' := by
 refine enter Tryz.func38 rfl Tryz.ntmps38 [(0, .agg #[str a0.f0, .slice A0 n0 c0, .int .i64 a0.f2]), (1, str a1)] rfl (by simp) ?_
 intro U J Qf hQ hQn
 unfold files_Store_find_1 at G
 refine ws fun K100 hK100 => ?_
 refine x_box' J X (fun g101 U w X J => ?_) rfl
 refine x_m J rfl fun U J => ?_
 refine wn (hK100 _ _ ?_)
 refine wp_seq_k fun K102 hK102 => ?_
 refine wp_block_k fun Kx103 hKx103 => ?_
 refine ws fun K104 hK104 => ?_
 refine x_fab' fa72_0 J (fun U J => ?_) rfl
 refine x_ld' uu9 (X.cell 0 rfl 0 _ rfl) J (fun U J => ?_) rfl
 refine x_m J rfl fun U J => ?_
 refine x_v J (r_ltS rfl (J.ev rfl) (J.ev rfl)) rfl fun U J => ?_
 refine x_m J rfl fun U J => ?_
 refine wn (hK104 _ _ ?_)
 refine c_if J rfl (fun hb105 => ?_) fun hb105 => ?_
 ·replace G := ift hb105 G
  refine ws fun K106 hK106 => ?_
  refine x_m J rfl fun U J => ?_
  refine wn (hK106 _ _ ?_)
  refine wp_ret ?_
  replace X := X.drop 0
  cases G
  refine hQ _ _ ?_
  refine lv Tryz.results38 J rfl ?_
  exact ⟨rfl, X⟩
 replace G := iff' hb105 G
 refine ws fun K107 hK107 => ?_
 refine x_fab' fa72_0 J (fun U J => ?_) rfl
 refine x_ld' uu9 (X.cell 0 rfl 0 _ rfl) J (fun U J => ?_) rfl
 refine x_m J rfl fun U J => ?_
 refine x_v J (r_gtS rfl (J.ev rfl) (J.ev rfl)) rfl fun U J => ?_
 refine x_m J rfl fun U J => ?_
 refine wn (hK107 _ _ ?_)
 refine c_if J rfl (fun hb108 => ?_) fun hb108 => ?_
 ·replace G := ift hb108 G
  refine ws fun K109 hK109 => ?_
  refine x_m J rfl fun U J => ?_
  refine wn (hK109 _ _ ?_)
  refine wp_ret ?_
  replace X := X.drop 0
  cases G
  refine hQ _ _ ?_
  refine lv Tryz.results38 J rfl ?_
  exact ⟨rfl, X⟩
 replace G := iff' hb108 G
 refine wp_skip ?_
 refine hKx103 _ _ ?_
 refine hK102 _ _ ?_
 refine ws fun K110 hK110 => ?_
 refine x_m J rfl fun U J => ?_
 refine wn (hK110 _ _ ?_)
 refine wp_ret ?_
 replace X := X.drop 0
 cases G
 refine hQ _ _ ?_
 refine lv Tryz.results38 J rfl ?_
 exact ⟨rfl, X⟩
theorem F_slices_BinarySearchFunc_files_file_files_file_string {r : World} {L : List HP} {w : World} (a0 : (List S72)) (a1 : (List UInt8)) (A0 : Option Addr) (n0 : Nat) (c0 : Nat) {y : (Int × Bool)} (G : slices_BinarySearchFunc_files_file_files_file_string a0 a1 = some y) (ha0 : RdL L (kL kp72 (fun x : S72 => x.f1)) A0 n0 c0 a0) (X : SH r (L) w) :
  Ret Tryz.prog 37 #[.slice A0 n0 c0, str a1, .func (.func 38) #[] #[]] w fun v w' => v = .tuple #[(.int .i64 y.1), (.bool y.2)] ∧ SH r (L) w' := by
 refine enter Tryz.func37 rfl Tryz.ntmps37 [(0, .slice A0 n0 c0), (1, str a1), (2, .func (.func 38) #[] #[])] rfl (by simp) ?_
 intro U J Qf hQ hQn
 unfold slices_BinarySearchFunc_files_file_files_file_string at G
 refine ws fun K100 hK100 => ?_
 refine x_m J rfl fun U J => ?_
 refine x_m J rfl fun U J => ?_
 refine wn (hK100 _ _ ?_)
 refine ws fun K101 hK101 => ?_
 refine x_m J rfl fun U J => ?_
 refine x_len' uu64 (X.rdl 0 ha0 rfl).2.1 J (fun U J => ?_) rfl
 refine x_m J rfl fun U J => ?_
 refine wn (hK101 _ _ ?_)
 refine ws fun K102 hK102 => ?_
 refine x_m J rfl fun U J => ?_
 refine x_m J rfl fun U J => ?_
 refine x_m J rfl fun U J => ?_
 refine wn (hK102 _ _ ?_)
 refine wp_seq_k fun K103 hK103 => ?_
 refine wp_block_k fun Kx104 hKx104 => ?_
 have hb1 : ∀ (x105 : Int), slices_BinarySearchFunc_files_file_files_file_string_b1 a0 a1 x105 = some y → ∀ (U : Act) (w : World), FR 49 [] U [(0, .slice A0 n0 c0), (1, str a1), (2, .func (.func 38) #[] #[]), (8, .int .i64 (a0.length : Int)), (9, .int .i64 x105)] → SH r (L) w → Kx104 U w := by
  intro x105 G U w J X
  unfold slices_BinarySearchFunc_files_file_files_file_string_b1 at G
  refine hKx104 _ _ ?_
  refine hK103 _ _ ?_
  refine ws fun K106 hK106 => ?_
  refine x_m J rfl fun U J => ?_
  refine x_m J rfl fun U J => ?_
  refine x_m J rfl fun U J => ?_
  refine x_v J (r_ltI rfl (J.ev rfl) (J.ev rfl)) rfl fun U J => ?_
  refine x_m J rfl fun U J => ?_
  refine bcase (b := decide (x105 < (a0.length : Int))) (fun hb107 => ?_) fun hb107 => ?_
  ·replace G := ift hb107 G
   refine x_on' hb107 J ?_ rfl
   refine x_m J rfl fun U J => ?_
   refine x_on' hb107 J ?_ rfl
   refine x_m J rfl fun U J => ?_
   refine x_on' hb107 J ?_ rfl
   refine x_m J rfl fun U J => ?_
   refine x_on' hb107 J ?_ rfl
   obtain ⟨x108, h109, G⟩ := bnd G
   refine x_ia' uu64 sz72 (X.rdl 0 ha0 rfl) h109 J (fun U J => ?_) rfl
   refine x_on' hb107 J ?_ rfl
   obtain ⟨cs, hV, hc110⟩ := el (X.rdl 0 ha0 rfl) h109
   obtain ⟨⟨A111, n112, c113⟩, hV, h114⟩ := hV
   obtain rfl := hV
   refine x_lda' (cs := [str x108.f0, .slice A111 n112 c113, .int .i64 x108.f2]) uu72 sz72 (fun j u h => by rw [ea_add]; exact hc110 _ _ h) J (fun U J => ?_) rfl
   refine x_on' hb107 J ?_ rfl
   refine x_m J rfl fun U J => ?_
   refine x_on' hb107 J ?_ rfl
   obtain ⟨y115, h116, G⟩ := bnd G
   refine x_callv' (vs := #[.agg #[str x108.f0, .slice A111 n112 c113, .int .i64 x108.f2], str a1]) en38 J (F_files_Store_find_1 (L := L) x108 a1 A111 n112 c113 h116 X) (fun v U w hR J => ?_) rfl
   obtain ⟨rfl, X⟩ := hR
   refine x_on' hb107 J ?_ rfl
   refine x_v J (r_eqI rfl (J.ev rfl) (J.ev rfl)) rfl fun U J => ?_
   refine x_pickt' hb107 J (fun U J => ?_) rfl
   refine x_m J rfl fun U J => ?_
   refine x_m J rfl fun U J => ?_
   refine wn (hK106 _ _ ?_)
   refine wp_ret ?_
   cases G
   refine hQ _ _ ?_
   refine lv2 Tryz.results37 J rfl rfl ?_
   exact ⟨rfl, X⟩
  replace G := iff' hb107 G
  refine xO 8 hb107 J rfl fun U J => ?_
  refine x_pickf' hb107 J (fun U J => ?_) rfl
  refine x_m J rfl fun U J => ?_
  refine x_m J rfl fun U J => ?_
  refine wn (hK106 _ _ ?_)
  refine wp_ret ?_
  cases G
  refine hQ _ _ ?_
  refine lv2 Tryz.results37 J rfl rfl ?_
  exact ⟨rfl, X⟩
 obtain ⟨t117, hl117, G⟩ := bnd G
 have hx117_0 : ∀ (x117 : Int), (x117) = t117 → ∀ (U : Act) (w : World), FR 49 [] U [(0, .slice A0 n0 c0), (1, str a1), (2, .func (.func 38) #[] #[]), (8, .int .i64 (a0.length : Int)), (9, .int .i64 x117)] → SH r (L) w → Kx104 U w := by
  intro x117 ht U w J X
  subst ht
  replace G : slices_BinarySearchFunc_files_file_files_file_string_x1_0 a0 a1 x117 = some y := G
  unfold slices_BinarySearchFunc_files_file_files_file_string_x1_0 at G
  exact hb1 x117 G U w (J.sub _ rfl) X
 refine wp_loop_fn hl117 (fun s U w => FR 49 [] U [(0, .slice A0 n0 c0), (1, str a1), (2, .func (.func 38) #[] #[]), (8, .int .i64 (a0.length : Int)), (9, .int .i64 s.1), (10, .int .i64 s.2)] ∧ SH r (L) w) ⟨J.sub _ rfl, X⟩ ?_
 intro N117 s117 o117 G N117_ T117_ U w hLab
 obtain ⟨x118, x119⟩ := s117
 replace G : slices_BinarySearchFunc_files_file_files_file_string_l1 a0 a1 x118 x119 = some o117 := G
 unfold slices_BinarySearchFunc_files_file_files_file_string_l1 at G
 try dsimp only at hLab
 obtain ⟨J, X⟩ := hLab
 refine wp_seq_k fun K120 hK120 => ?_
 refine ws fun K121 hK121 => ?_
 refine x_m J rfl fun U J => ?_
 refine x_m J rfl fun U J => ?_
 refine x_v J (r_ltI rfl (J.ev rfl) (J.ev rfl)) rfl fun U J => ?_
 refine wn (hK121 _ _ ?_)
 refine c_if J rfl (fun hb122 => ?_) fun hb122 => ?_
 ·replace G := ift hb122 G
  refine wp_skip ?_
  refine hK120 _ _ ?_
  refine wp_block_k fun Kx123 hKx123 => ?_
  have hb2 : ∀ (x124 : Int) (x125 : Int), slices_BinarySearchFunc_files_file_files_file_string_b2 x124 x125 = some o117 → ∀ (U : Act) (w : World), FR 49 [] U [(0, .slice A0 n0 c0), (1, str a1), (2, .func (.func 38) #[] #[]), (8, .int .i64 (a0.length : Int)), (9, .int .i64 x124), (10, .int .i64 x125)] → SH r (L) w → Kx123 U w := by
   intro x124 x125 G U w J X
   unfold slices_BinarySearchFunc_files_file_files_file_string_b2 at G
   refine hKx123 _ _ ?_
   cases G
   exact ⟨_, N117_ _ rfl, J.sub _ rfl, X⟩
  refine ws fun K126 hK126 => ?_
  refine x_m J rfl fun U J => ?_
  refine x_m J rfl fun U J => ?_
  obtain ⟨x127, h128, G⟩ := ltt_ G
  refine x_v (v := .int .i64 x127) J (rv_i h128 (r_add rfl (J.ev rfl) (J.ev rfl))) rfl fun U J => ?_
  obtain ⟨x129, h130, G⟩ := ltt_ G
  refine x_v (v := .int .u64 x129) J (rv_i h130 (r_convI uu3 uu114 rfl (J.ev rfl))) rfl fun U J => ?_
  obtain ⟨x131, h132, G⟩ := ltt_ G
  refine x_v (v := .int .u64 x131) J (rv_i h132 (r_shr rfl (J.ev rfl) (J.ev rfl) (by decide))) rfl fun U J => ?_
  obtain ⟨x133, h134, G⟩ := ltt_ G
  refine x_v (v := .int .i64 x133) J (rv_i h134 (r_convI uu114 uu3 rfl (J.ev rfl))) rfl fun U J => ?_
  refine x_m J rfl fun U J => ?_
  refine wn (hK126 _ _ ?_)
  refine ws fun K135 hK135 => ?_
  refine x_m J rfl fun U J => ?_
  refine x_m J rfl fun U J => ?_
  refine x_m J rfl fun U J => ?_
  obtain ⟨x136, h137, G⟩ := bnd G
  refine x_ia' uu64 sz72 (X.rdl 0 ha0 rfl) h137 J (fun U J => ?_) rfl
  obtain ⟨cs, hV, hc138⟩ := el (X.rdl 0 ha0 rfl) h137
  obtain ⟨⟨A139, n140, c141⟩, hV, h142⟩ := hV
  obtain rfl := hV
  refine x_lda' (cs := [str x136.f0, .slice A139 n140 c141, .int .i64 x136.f2]) uu72 sz72 (fun j u h => by rw [ea_add]; exact hc138 _ _ h) J (fun U J => ?_) rfl
  refine x_m J rfl fun U J => ?_
  obtain ⟨y143, h144, G⟩ := bnd G
  refine x_callv' (vs := #[.agg #[str x136.f0, .slice A139 n140 c141, .int .i64 x136.f2], str a1]) en38 J (F_files_Store_find_1 (L := L) x136 a1 A139 n140 c141 h144 X) (fun v U w hR J => ?_) rfl
  obtain ⟨rfl, X⟩ := hR
  refine x_v J (r_ltI rfl (J.ev rfl) (J.ev rfl)) rfl fun U J => ?_
  refine wn (hK135 _ _ ?_)
  refine c_if J rfl (fun hb145 => ?_) fun hb145 => ?_
  ·replace G := ift hb145 G
   refine wp_reg ?_
   refine x_m J rfl fun U J => ?_
   obtain ⟨x146, h147, G⟩ := ltt_ G
   refine x_v (v := .int .i64 x146) J (rv_i h147 (r_add rfl (J.ev rfl) (J.ev rfl))) rfl fun U J => ?_
   refine x_m J rfl fun U J => ?_
   refine wpList_nil ?_
   exact hb2 x146 x119 G U w (J.sub _ rfl) X
  replace G := iff' hb145 G
  refine wp_reg ?_
  refine x_m J rfl fun U J => ?_
  refine x_m J rfl fun U J => ?_
  refine wpList_nil ?_
  exact hb2 x118 x133 G U w (J.sub _ rfl) X
 replace G := iff' hb122 G
 refine wp_exit ?_
 cases G
 exact hx117_0 x118 (T117_ _ rfl) U w (J.sub _ rfl) X
theorem F_files_Store_find {r : World} {L : List HP} {w : World} (a0 : S66) (a1 : (List UInt8)) (g0 : Nat) (A0_0 : Option Addr) (n0_0 : Nat) (c0_0 : Nat) {y : (Int × Bool)} (G : files_Store_find a0 a1 = some y) (X : SH r (blk g0 66 [.slice A0_0 n0_0 c0_0, .int .i64 a0.f1, .int .i64 a0.f2, .bool a0.f3, .int .i64 a0.f4] :: own2 kp72 (kI .u8) 5 (fun x : S72 => x.f1) 72 A0_0 n0_0 c0_0 a0.f0 :: L) w) :
  Ret Tryz.prog 21 #[.pointer (some ⟨g0, 0, none⟩), str a1] w fun v w' => v = .tuple #[(.int .i64 y.1), (.bool y.2)] ∧ SH r (blk g0 66 [.slice A0_0 n0_0 c0_0, .int .i64 a0.f1, .int .i64 a0.f2, .bool a0.f3, .int .i64 a0.f4] :: own2 kp72 (kI .u8) 5 (fun x : S72 => x.f1) 72 A0_0 n0_0 c0_0 a0.f0 :: L) w' := by
 refine enter Tryz.func21 rfl Tryz.ntmps21 [(0, (pP g0)), (1, str a1)] rfl (by simp) ?_
 intro U J Qf hQ hQn
 unfold files_Store_find at G
 refine ws fun K100 hK100 => ?_
 refine x_m J rfl fun U J => ?_
 refine x_m J rfl fun U J => ?_
 refine wn (hK100 _ _ ?_)
 refine ws fun K101 hK101 => ?_
 refine x_m J rfl fun U J => ?_
 refine x_v J (r_nilCheck rfl (J.ev rfl)) rfl fun U J => ?_
 refine x_fab' fa66_0 J (fun U J => ?_) rfl
 refine x_ld' uu64 (X.cell 0 rfl 0 _ rfl) J (fun U J => ?_) rfl
 refine x_m J rfl fun U J => ?_
 obtain ⟨y102, h103, G⟩ := bnd G
 refine x_call' en37 J (F_slices_BinarySearchFunc_files_file_files_file_string (L := blk g0 66 [.slice A0_0 n0_0 c0_0, .int .i64 a0.f1, .int .i64 a0.f2, .bool a0.f3, .int .i64 a0.f4] :: own2 kp72 (kI .u8) 5 (fun x : S72 => x.f1) 72 A0_0 n0_0 c0_0 a0.f0 :: L) a0.f0 a1 A0_0 n0_0 c0_0 h103 (RdL.own2 1 rfl (X.dropN 0)) X) (fun v U w hR J => ?_) rfl
 obtain ⟨rfl, X⟩ := hR
 refine x_v J (r_extract rfl (J.ev rfl) rfl) rfl fun U J => ?_
 refine x_v J (r_extract rfl (J.ev rfl) rfl) rfl fun U J => ?_
 refine x_m J rfl fun U J => ?_
 refine x_m J rfl fun U J => ?_
 refine wn (hK101 _ _ ?_)
 refine wp_ret ?_
 replace X := X.pk 1 |>.pk 1
 cases G
 refine hQ _ _ ?_
 refine lv2 Tryz.results21 J rfl rfl ?_
 exact ⟨rfl, X⟩
theorem F_files_Store_look {r : World} {L : List HP} {w : World} (a0 : (Option S66)) (a1 : (List UInt8)) (p0 : Option Addr) {y : (Int)} (G : files_Store_look a0 a1 = some y) (X : SH r (optP (obj66) p0 a0 :: L) w) :
  Ret Tryz.prog 20 #[.pointer p0, str a1] w fun v w' => v = .int .i64 y ∧ SH r (optP (obj66) p0 a0 :: L) w' := by
 refine enter Tryz.func20 rfl Tryz.ntmps20 [(0, .pointer p0), (1, str a1)] rfl (by simp) ?_
 intro U J Qf hQ hQn
 unfold files_Store_look at G
 cases a0 with
 | none =>
  have hU := SH.unoptN X
  clear X
  obtain ⟨rfl, X⟩ := hU
  refine ws fun K100 hK100 => ?_
  refine x_m J rfl fun U J => ?_
  refine wn (hK100 _ _ ?_)
  refine wp_seq_k fun K101 hK101 => ?_
  refine wp_block_k fun Kx102 hKx102 => ?_
  refine ws fun K103 hK103 => ?_
  refine x_m J rfl fun U J => ?_
  refine x_v (v := .bool true) J (r_eqNilP (p := none) uu24 rfl (J.ev rfl) (J.ev rfl)) rfl fun U J => ?_
  refine x_m J rfl fun U J => ?_
  refine wn (hK103 _ _ ?_)
  refine c_t (b := true) rfl J ?_ rfl
  refine ws fun K104 hK104 => ?_
  refine x_m J rfl fun U J => ?_
  refine wn (hK104 _ _ ?_)
  refine wp_ret ?_
  replace X := SH.optN (obj66) X
  cases G
  refine hQ _ _ ?_
  refine lv Tryz.results20 J rfl ?_
  exact ⟨rfl, X⟩
 | some x105 =>
  have hU := SH.unoptS X
  clear X
  obtain ⟨g106, rfl, X⟩ := hU
  obtain ⟨A107, n108, c109, X⟩ := obj66_open X
  refine ws fun K110 hK110 => ?_
  refine x_m J rfl fun U J => ?_
  refine wn (hK110 _ _ ?_)
  refine wp_seq_k fun K111 hK111 => ?_
  refine wp_block_k fun Kx112 hKx112 => ?_
  refine ws fun K113 hK113 => ?_
  refine x_m J rfl fun U J => ?_
  refine x_v (v := .bool false) J (r_eqNilP (p := some ⟨g106, 0, none⟩) uu24 rfl (J.ev rfl) (J.ev rfl)) rfl fun U J => ?_
  refine x_m J rfl fun U J => ?_
  refine wn (hK113 _ _ ?_)
  refine c_f (b := false) rfl J ?_ rfl
  refine ws fun K114 hK114 => ?_
  refine x_m J rfl fun U J => ?_
  obtain ⟨y115, h116, G⟩ := bnd G
  refine x_call' en36 J (F_files_Form (L := blk g106 66 [.slice A107 n108 c109, .int .i64 x105.f1, .int .i64 x105.f2, .bool x105.f3, .int .i64 x105.f4] :: own2 kp72 (kI .u8) 5 (fun x : S72 => x.f1) 72 A107 n108 c109 x105.f0 :: L) a1 h116 X) (fun v U w hR J => ?_) rfl
  obtain ⟨rfl, X⟩ := hR
  refine x_v J (r_not rfl (J.ev rfl)) rfl fun U J => ?_
  refine x_m J rfl fun U J => ?_
  refine wn (hK114 _ _ ?_)
  refine c_if J rfl (fun hb117 => ?_) fun hb117 => ?_
  ·replace G := ift hb117 G
   refine ws fun K118 hK118 => ?_
   refine x_m J rfl fun U J => ?_
   refine wn (hK118 _ _ ?_)
   refine wp_ret ?_
   replace X := X.pk 1 |>.pk 1
   replace X := obj66_mk (x := x105) X
   replace X := SH.optS X
   cases G
   refine hQ _ _ ?_
   refine lv Tryz.results20 J rfl ?_
   exact ⟨rfl, X⟩
  replace G := iff' hb117 G
  refine ws fun K119 hK119 => ?_
  refine x_m J rfl fun U J => ?_
  refine x_v J (r_nilCheck rfl (J.ev rfl)) rfl fun U J => ?_
  refine x_fab' fa66_3 J (fun U J => ?_) rfl
  refine x_ld' uu4 (X.cell 0 rfl 3 _ rfl) J (fun U J => ?_) rfl
  refine x_m J rfl fun U J => ?_
  refine wn (hK119 _ _ ?_)
  refine c_if J rfl (fun hb120 => ?_) fun hb120 => ?_
  ·replace G := ift hb120 G
   refine ws fun K121 hK121 => ?_
   refine x_m J rfl fun U J => ?_
   refine wn (hK121 _ _ ?_)
   refine wp_ret ?_
   replace X := X.pk 1 |>.pk 1
   replace X := obj66_mk (x := x105) X
   replace X := SH.optS X
   cases G
   refine hQ _ _ ?_
   refine lv Tryz.results20 J rfl ?_
   exact ⟨rfl, X⟩
  replace G := iff' hb120 G
  refine wp_skip ?_
  refine hKx112 _ _ ?_
  refine hK111 _ _ ?_
  refine ws fun K122 hK122 => ?_
  refine x_m J rfl fun U J => ?_
  refine wn (hK122 _ _ ?_)
  refine wp_ret ?_
  replace X := X.pk 1 |>.pk 1
  replace X := obj66_mk (x := x105) X
  replace X := SH.optS X
  cases G
  refine hQ _ _ ?_
  refine lv Tryz.results20 J rfl ?_
  exact ⟨rfl, X⟩
theorem F_files_Store_begin {r : World} {L : List HP} {w : World} (a0 : S66) (g0 : Nat) {y : (Bool × S66)} (G : files_Store_begin a0 = some y) (X : SH r (obj66 g0 a0 :: L) w) :
  Ret Tryz.prog 23 #[.pointer (some ⟨g0, 0, none⟩)] w fun v w' => v = .bool y.1 ∧ SH r (obj66 g0 y.2 :: L) w' := by
 refine enter Tryz.func23 rfl Tryz.ntmps23 [(0, (pP g0))] rfl (by simp) ?_
 intro U J Qf hQ hQn
 unfold files_Store_begin at G
 obtain ⟨A100, n101, c102, X⟩ := obj66_open X
 refine ws fun K103 hK103 => ?_
 refine x_m J rfl fun U J => ?_
 refine wn (hK103 _ _ ?_)
 refine ws fun K104 hK104 => ?_
 refine x_m J rfl fun U J => ?_
 refine x_v J (r_nilCheck rfl (J.ev rfl)) rfl fun U J => ?_
 refine x_fab' fa66_4 J (fun U J => ?_) rfl
 refine x_ld' uu3 (X.cell 0 rfl 4 _ rfl) J (fun U J => ?_) rfl
 obtain ⟨x105, h106, G⟩ := ltt_ G
 refine x_v (v := .int .i64 x105) J (rv_i h106 (r_add rfl (J.ev rfl) (J.ev rfl))) rfl fun U J => ?_
 refine x_v J (r_nilCheck rfl (J.ev rfl)) rfl fun U J => ?_
 refine x_fab' fa66_4 J (fun U J => ?_) rfl
 refine x_stb' 0 sz3 J X rfl (fun  U w X J => ?_) rfl
 refine wn (hK104 _ _ ?_)
 refine wp_seq_k fun K107 hK107 => ?_
 have hj1 : ∀ (x108 : Int) (b109 : Bool), files_Store_begin_j1 a0 x105 x108 b109 = some y → ∀ (U : Act) (w : World), FR 35 [] U [(0, (pP g0))] → SH r (blk g0 66 [.slice A100 n101 c102, .int .i64 a0.f1, .int .i64 x108, .bool b109, .int .i64 x105] :: own2 kp72 (kI .u8) 5 (fun x : S72 => x.f1) 72 A100 n101 c102 a0.f0 :: L) w → K107 U w := by
  intro x108 b109 G U w J X
  unfold files_Store_begin_j1 at G
  refine hK107 _ _ ?_
  refine ws fun K110 hK110 => ?_
  refine x_m J rfl fun U J => ?_
  refine x_v J (r_nilCheck rfl (J.ev rfl)) rfl fun U J => ?_
  refine x_fab' fa66_3 J (fun U J => ?_) rfl
  refine x_ld' uu4 (X.cell 0 rfl 3 _ rfl) J (fun U J => ?_) rfl
  refine x_v J (r_not rfl (J.ev rfl)) rfl fun U J => ?_
  refine x_m J rfl fun U J => ?_
  refine wn (hK110 _ _ ?_)
  refine wp_ret ?_
  replace X := X.pk 1 |>.pk 1
  replace X := obj66_mk (x := (⟨a0.f0, a0.f1, x108, b109, x105⟩ : S66)) X
  cases G
  refine hQ _ _ ?_
  refine lv Tryz.results23 J rfl ?_
  exact ⟨rfl, X⟩
 refine ws fun K111 hK111 => ?_
 refine x_m J rfl fun U J => ?_
 refine x_v J (r_nilCheck rfl (J.ev rfl)) rfl fun U J => ?_
 refine x_fab' fa66_2 J (fun U J => ?_) rfl
 refine x_ld' uu3 (X.cell 0 rfl 2 _ rfl) J (fun U J => ?_) rfl
 refine x_v J (r_gtI rfl (J.ev rfl) (J.ev rfl)) rfl fun U J => ?_
 refine wn (hK111 _ _ ?_)
 refine c_if J rfl (fun hb112 => ?_) fun hb112 => ?_
 ·replace G := ift hb112 G
  refine ws fun K113 hK113 => ?_
  refine x_m J rfl fun U J => ?_
  refine x_v J (r_nilCheck rfl (J.ev rfl)) rfl fun U J => ?_
  refine x_fab' fa66_2 J (fun U J => ?_) rfl
  refine x_ld' uu3 (X.cell 0 rfl 2 _ rfl) J (fun U J => ?_) rfl
  obtain ⟨x114, h115, G⟩ := ltt_ G
  refine x_v (v := .int .i64 x114) J (rv_i h115 (r_sub rfl (J.ev rfl) (J.ev rfl))) rfl fun U J => ?_
  refine x_v J (r_nilCheck rfl (J.ev rfl)) rfl fun U J => ?_
  refine x_fab' fa66_2 J (fun U J => ?_) rfl
  refine x_stb' 0 sz3 J X rfl (fun  U w X J => ?_) rfl
  refine wn (hK113 _ _ ?_)
  refine wp_reg ?_
  refine x_m J rfl fun U J => ?_
  refine x_m J rfl fun U J => ?_
  refine x_v J (r_nilCheck rfl (J.ev rfl)) rfl fun U J => ?_
  refine x_fab' fa66_2 J (fun U J => ?_) rfl
  refine x_ld' uu3 (X.cell 0 rfl 2 _ rfl) J (fun U J => ?_) rfl
  refine x_v J (r_eqI rfl (J.ev rfl) (J.ev rfl)) rfl fun U J => ?_
  refine x_v J (r_nilCheck rfl (J.ev rfl)) rfl fun U J => ?_
  refine x_fab' fa66_3 J (fun U J => ?_) rfl
  refine x_stb' 0 sz4 J X rfl (fun  U w X J => ?_) rfl
  refine wpList_nil ?_
  exact hj1 x114 (x114 == 0) G U w (J.sub _ rfl) X
 replace G := iff' hb112 G
 refine wp_skip ?_
 exact hj1 a0.f2 a0.f3 G U w (J.sub _ rfl) X
theorem F_files_Store_Used {r : World} {L : List HP} {w : World} (a0 : (Option S66)) (p0 : Option Addr) {y : (Int)} (G : files_Store_Used a0 = some y) (X : SH r (optP (obj66) p0 a0 :: L) w) :
  Ret Tryz.prog 22 #[.pointer p0] w fun v w' => v = .int .i64 y ∧ SH r (optP (obj66) p0 a0 :: L) w' := by
 refine enter Tryz.func22 rfl Tryz.ntmps22 [(0, .pointer p0)] rfl (by simp) ?_
 intro U J Qf hQ hQn
 unfold files_Store_Used at G
 cases a0 with
 | none =>
  have hU := SH.unoptN X
  clear X
  obtain ⟨rfl, X⟩ := hU
  refine ws fun K100 hK100 => ?_
  refine x_m J rfl fun U J => ?_
  refine wn (hK100 _ _ ?_)
  refine ws fun K101 hK101 => ?_
  refine x_m J rfl fun U J => ?_
  refine wn (hK101 _ _ ?_)
  refine wp_seq_k fun K102 hK102 => ?_
  refine ws fun K103 hK103 => ?_
  refine x_m J rfl fun U J => ?_
  refine x_v (v := .bool false) J (r_neNilP (p := none) uu24 rfl (J.ev rfl) (J.ev rfl)) rfl fun U J => ?_
  refine wn (hK103 _ _ ?_)
  refine c_f (b := false) rfl J ?_ rfl
  refine wp_skip ?_
  refine hK102 _ _ ?_
  refine ws fun K104 hK104 => ?_
  refine x_m J rfl fun U J => ?_
  refine x_m J rfl fun U J => ?_
  refine wn (hK104 _ _ ?_)
  refine wp_ret ?_
  replace X := SH.optN (obj66) X
  cases G
  refine hQ _ _ ?_
  refine lv Tryz.results22 J rfl ?_
  exact ⟨rfl, X⟩
 | some x105 =>
  have hU := SH.unoptS X
  clear X
  obtain ⟨g106, rfl, X⟩ := hU
  obtain ⟨A107, n108, c109, X⟩ := obj66_open X
  refine ws fun K110 hK110 => ?_
  refine x_m J rfl fun U J => ?_
  refine wn (hK110 _ _ ?_)
  refine ws fun K111 hK111 => ?_
  refine x_m J rfl fun U J => ?_
  refine wn (hK111 _ _ ?_)
  refine wp_seq_k fun K112 hK112 => ?_
  refine ws fun K113 hK113 => ?_
  refine x_m J rfl fun U J => ?_
  refine x_v (v := .bool true) J (r_neNilP (p := some ⟨g106, 0, none⟩) uu24 rfl (J.ev rfl) (J.ev rfl)) rfl fun U J => ?_
  refine wn (hK113 _ _ ?_)
  refine c_t (b := true) rfl J ?_ rfl
  refine ws fun K114 hK114 => ?_
  refine x_m J rfl fun U J => ?_
  refine x_v J (r_nilCheck rfl (J.ev rfl)) rfl fun U J => ?_
  refine x_fab' fa66_0 J (fun U J => ?_) rfl
  refine x_ld' uu64 (X.cell 0 rfl 0 _ rfl) J (fun U J => ?_) rfl
  refine x_len' uu64 (X.rd2L 1 rfl).2.1 J (fun U J => ?_) rfl
  refine x_m J rfl fun U J => ?_
  refine wn (hK114 _ _ ?_)
  refine wp_block_k fun Kx115 hKx115 => ?_
  have hb1 : ∀ (x116 : Int), files_Store_Used_b1 x116 = some y → ∀ (U : Act) (w : World), FR 24 [] U [(0, (pP g106)), (3, .int .i64 x116)] → SH r (blk g106 66 [.slice A107 n108 c109, .int .i64 x105.f1, .int .i64 x105.f2, .bool x105.f3, .int .i64 x105.f4] :: own2 kp72 (kI .u8) 5 (fun x : S72 => x.f1) 72 A107 n108 c109 x105.f0 :: L) w → Kx115 U w := by
   intro x116 G U w J X
   unfold files_Store_Used_b1 at G
   refine hKx115 _ _ ?_
   refine hK112 _ _ ?_
   refine ws fun K117 hK117 => ?_
   refine x_m J rfl fun U J => ?_
   refine x_m J rfl fun U J => ?_
   refine wn (hK117 _ _ ?_)
   refine wp_ret ?_
   replace X := X.pk 1 |>.pk 1
   replace X := obj66_mk (x := x105) X
   replace X := SH.optS X
   cases G
   refine hQ _ _ ?_
   refine lv Tryz.results22 J rfl ?_
   exact ⟨rfl, X⟩
  obtain ⟨t118, hl118, G⟩ := bnd G
  have hx118_0 : ∀ (x118 : Int), (x118) = t118 → ∀ (U : Act) (w : World), FR 24 [] U [(0, (pP g106)), (3, .int .i64 x118)] → SH r (blk g106 66 [.slice A107 n108 c109, .int .i64 x105.f1, .int .i64 x105.f2, .bool x105.f3, .int .i64 x105.f4] :: own2 kp72 (kI .u8) 5 (fun x : S72 => x.f1) 72 A107 n108 c109 x105.f0 :: L) w → Kx115 U w := by
   intro x118 ht U w J X
   subst ht
   replace G : files_Store_Used_x1_0 x118 = some y := G
   unfold files_Store_Used_x1_0 at G
   exact hb1 x118 G U w (J.sub _ rfl) X
  refine wp_loop_fn hl118 (fun s U w => FR 24 [] U [(0, (pP g106)), (3, .int .i64 s.1), (11, .slice A107 n108 c109), (12, .int .i64 (x105.f0.length : Int)), (13, .int .i64 s.2)] ∧ SH r (blk g106 66 [.slice A107 n108 c109, .int .i64 x105.f1, .int .i64 x105.f2, .bool x105.f3, .int .i64 x105.f4] :: own2 kp72 (kI .u8) 5 (fun x : S72 => x.f1) 72 A107 n108 c109 x105.f0 :: L) w) ⟨J.sub _ rfl, X⟩ ?_
  intro N118 s118 o118 G N118_ T118_ U w hLab
  obtain ⟨x119, x120⟩ := s118
  replace G : files_Store_Used_l1 x105 x119 x120 = some o118 := G
  unfold files_Store_Used_l1 at G
  try dsimp only at hLab
  obtain ⟨J, X⟩ := hLab
  refine ws fun K121 hK121 => ?_
  refine x_v J (r_ltI rfl (J.ev rfl) (J.ev rfl)) rfl fun U J => ?_
  refine wn (hK121 _ _ ?_)
  refine wp_seq_k fun K122 hK122 => ?_
  refine c_if J rfl (fun hb123 => ?_) fun hb123 => ?_
  ·replace G := ift hb123 G
   refine wp_skip ?_
   refine hK122 _ _ ?_
   refine wp_seq_k fun K124 hK124 => ?_
   refine wp_block_k fun Kx125 hKx125 => ?_
   refine ws fun K126 hK126 => ?_
   obtain ⟨x127, h128, G⟩ := bnd G
   refine x_ia' uu64 sz72 (X.rd2L 1 rfl) h128 J (fun U J => ?_) rfl
   obtain ⟨cs, hV, hc129⟩ := el (X.rd2L 1 rfl) h128
   obtain ⟨⟨A130, n131, c132⟩, hV, h133⟩ := hV
   obtain rfl := hV
   refine x_lda' (cs := [str x127.f0, .slice A130 n131 c132, .int .i64 x127.f2]) uu72 sz72 (fun j u h => by rw [ea_add]; exact hc129 _ _ h) J (fun U J => ?_) rfl
   refine x_alloc' (cs := [str [], .slice none 0 0, .int .i64 0]) zr72 J X (fun g134 U w X J => ?_) rfl
   refine x_stb' 0 sz72 J X rfl (fun  U w X J => ?_) rfl
   refine wn (hK126 _ _ ?_)
   refine wp_reg ?_
   refine x_m J rfl fun U J => ?_
   refine x_fab' fa72_1 J (fun U J => ?_) rfl
   refine x_ld' uu29 (X.cell 0 rfl 1 _ rfl) J (fun U J => ?_) rfl
   refine x_len' uu29 (show x127.f1.length = n131 from h133) J (fun U J => ?_) rfl
   obtain ⟨x135, h136, G⟩ := ltt_ G
   refine x_v (v := .int .i64 x135) J (rv_i h136 (r_add rfl (J.ev rfl) (J.ev rfl))) rfl fun U J => ?_
   refine x_m J rfl fun U J => ?_
   refine wpList_nil ?_
   refine hKx125 _ _ ?_
   refine hK124 _ _ ?_
   refine wp_reg ?_
   obtain ⟨x137, h138, G⟩ := ltt_ G
   refine x_v (v := .int .i64 x137) J (rv_i h138 (r_add rfl (J.ev rfl) (J.ev rfl))) rfl fun U J => ?_
   refine x_m J rfl fun U J => ?_
   refine wpList_nil ?_
   replace X := X.drop 0
   cases G
   exact ⟨_, N118_ _ rfl, J.sub _ rfl, X⟩
  replace G := iff' hb123 G
  refine wp_exit ?_
  cases G
  exact hx118_0 x119 (T118_ _ rfl) U w (J.sub _ rfl) X
theorem F_files_Store_List {r : World} {L : List HP} {w : World} (a0 : (Option S66)) (p0 : Option Addr) {y : ((List (List UInt8)))} (G : files_Store_List a0 = some y) (X : SH r (optP (obj66) p0 a0 :: L) w) :
  Ret Tryz.prog 14 #[.pointer p0] w fun v w' => ∃ (B0 : Option Addr) (m0 : Nat) (d0 : Nat), v = .slice B0 m0 d0 ∧ SH r (own kS 9 B0 m0 d0 y :: optP (obj66) p0 a0 :: L) w' := by
 refine enter Tryz.func14 rfl Tryz.ntmps14 [(0, .pointer p0)] rfl (by simp) ?_
 intro U J Qf hQ hQn
 unfold files_Store_List at G
 cases a0 with
 | none =>
  have hU := SH.unoptN X
  clear X
  obtain ⟨rfl, X⟩ := hU
  refine ws fun K100 hK100 => ?_
  refine x_m J rfl fun U J => ?_
  refine wn (hK100 _ _ ?_)
  refine ws fun K101 hK101 => ?_
  refine x_m J rfl fun U J => ?_
  refine wn (hK101 _ _ ?_)
  refine wp_seq_k fun K102 hK102 => ?_
  refine ws fun K103 hK103 => ?_
  refine x_m J rfl fun U J => ?_
  refine x_v (v := .bool false) J (r_neNilP (p := none) uu24 rfl (J.ev rfl) (J.ev rfl)) rfl fun U J => ?_
  refine wn (hK103 _ _ ?_)
  refine c_f (b := false) rfl J ?_ rfl
  refine wp_skip ?_
  refine hK102 _ _ ?_
  refine ws fun K104 hK104 => ?_
  refine x_m J rfl fun U J => ?_
  refine x_m J rfl fun U J => ?_
  refine wn (hK104 _ _ ?_)
  refine wp_ret ?_
  replace X := SH.nil_own (d := kS) (e := 9) X
  replace X := SH.optN (obj66) X
  replace X := X.pk 1
  cases G
  refine hQ _ _ ?_
  refine lv Tryz.results14 J rfl ?_
  exact ⟨none, 0, 0, rfl, X⟩
 | some x105 =>
  have hU := SH.unoptS X
  clear X
  obtain ⟨g106, rfl, X⟩ := hU
  obtain ⟨A107, n108, c109, X⟩ := obj66_open X
  refine ws fun K110 hK110 => ?_
  refine x_m J rfl fun U J => ?_
  refine wn (hK110 _ _ ?_)
  refine ws fun K111 hK111 => ?_
  refine x_m J rfl fun U J => ?_
  refine wn (hK111 _ _ ?_)
  refine wp_seq_k fun K112 hK112 => ?_
  refine ws fun K113 hK113 => ?_
  refine x_m J rfl fun U J => ?_
  refine x_v (v := .bool true) J (r_neNilP (p := some ⟨g106, 0, none⟩) uu24 rfl (J.ev rfl) (J.ev rfl)) rfl fun U J => ?_
  refine wn (hK113 _ _ ?_)
  refine c_t (b := true) rfl J ?_ rfl
  refine ws fun K114 hK114 => ?_
  refine x_m J rfl fun U J => ?_
  refine x_v J (r_nilCheck rfl (J.ev rfl)) rfl fun U J => ?_
  refine x_fab' fa66_0 J (fun U J => ?_) rfl
  refine x_ld' uu64 (X.cell 0 rfl 0 _ rfl) J (fun U J => ?_) rfl
  refine x_len' uu64 (X.rd2L 1 rfl).2.1 J (fun U J => ?_) rfl
  refine x_m J rfl fun U J => ?_
  refine wn (hK114 _ _ ?_)
  refine wp_block_k fun Kx115 hKx115 => ?_
  have hb1 : ∀ (l116 : (List (List UInt8))), files_Store_List_b1 l116 = some y → ∀ (A117 : Option Addr) (n118 : Nat) (c119 : Nat) (U : Act) (w : World), FR 24 [] U [(0, (pP g106)), (3, .slice A117 n118 c119)] → SH r (blk g106 66 [.slice A107 n108 c109, .int .i64 x105.f1, .int .i64 x105.f2, .bool x105.f3, .int .i64 x105.f4] :: own2 kp72 (kI .u8) 5 (fun x : S72 => x.f1) 72 A107 n108 c109 x105.f0 :: own kS 9 A117 n118 c119 l116 :: L) w → Kx115 U w := by
   intro l116 G A117 n118 c119 U w J X
   unfold files_Store_List_b1 at G
   refine hKx115 _ _ ?_
   refine hK112 _ _ ?_
   refine ws fun K120 hK120 => ?_
   refine x_m J rfl fun U J => ?_
   refine x_m J rfl fun U J => ?_
   refine wn (hK120 _ _ ?_)
   refine wp_ret ?_
   replace X := X.pk 1 |>.pk 1
   replace X := obj66_mk (x := x105) X
   replace X := SH.optS X
   replace X := X.pk 1
   cases G
   refine hQ _ _ ?_
   refine lv Tryz.results14 J rfl ?_
   exact ⟨A117, n118, c119, rfl, X⟩
  obtain ⟨t121, hl121, G⟩ := bnd G
  have hx121_0 : ∀ (l122 : (List (List UInt8))), (l122) = t121 → ∀ (A123 : Option Addr) (n124 : Nat) (c121 : Nat) (U : Act) (w : World), FR 24 [] U [(0, (pP g106)), (3, .slice A123 n124 c121)] → SH r (blk g106 66 [.slice A107 n108 c109, .int .i64 x105.f1, .int .i64 x105.f2, .bool x105.f3, .int .i64 x105.f4] :: own2 kp72 (kI .u8) 5 (fun x : S72 => x.f1) 72 A107 n108 c109 x105.f0 :: own kS 9 A123 n124 c121 l122 :: L) w → Kx115 U w := by
   intro l122 ht A123 n124 c121 U w J X
   subst ht
   replace G : files_Store_List_x1_0 l122 = some y := G
   unfold files_Store_List_x1_0 at G
   exact hb1 l122 G A123 n124 c121 U w (J.sub _ rfl) X
  replace X := SH.nil_own (d := kS) (e := 9) X
  replace X := X.pk 2 |>.pk 2
  refine wp_loop_fn hl121 (fun s U w => ∃ (A125 : Option Addr) (n126 : Nat) (c127 : Nat), FR 24 [] U [(0, (pP g106)), (3, .slice A125 n126 c127), (11, .slice A107 n108 c109), (12, .int .i64 (x105.f0.length : Int)), (13, .int .i64 s.2)] ∧ SH r (blk g106 66 [.slice A107 n108 c109, .int .i64 x105.f1, .int .i64 x105.f2, .bool x105.f3, .int .i64 x105.f4] :: own2 kp72 (kI .u8) 5 (fun x : S72 => x.f1) 72 A107 n108 c109 x105.f0 :: own kS 9 A125 n126 c127 s.1 :: L) w) ⟨none, 0, 0, J.sub _ rfl, X⟩ ?_
  intro N121 s121 o121 G N121_ T121_ U w hLab
  obtain ⟨l128, x129⟩ := s121
  replace G : files_Store_List_l1 x105 l128 x129 = some o121 := G
  unfold files_Store_List_l1 at G
  try dsimp only at hLab
  obtain ⟨A125, n126, c127, J, X⟩ := hLab
  refine ws fun K130 hK130 => ?_
  refine x_v J (r_ltI rfl (J.ev rfl) (J.ev rfl)) rfl fun U J => ?_
  refine wn (hK130 _ _ ?_)
  refine wp_seq_k fun K131 hK131 => ?_
  refine c_if J rfl (fun hb132 => ?_) fun hb132 => ?_
  ·replace G := ift hb132 G
   refine wp_skip ?_
   refine hK131 _ _ ?_
   refine wp_seq_k fun K133 hK133 => ?_
   refine wp_block_k fun Kx134 hKx134 => ?_
   refine ws fun K135 hK135 => ?_
   obtain ⟨x136, h137, G⟩ := bnd G
   refine x_ia' uu64 sz72 (X.rd2L 1 rfl) h137 J (fun U J => ?_) rfl
   obtain ⟨cs, hV, hc138⟩ := el (X.rd2L 1 rfl) h137
   obtain ⟨⟨A139, n140, c141⟩, hV, h142⟩ := hV
   obtain rfl := hV
   refine x_lda' (cs := [str x136.f0, .slice A139 n140 c141, .int .i64 x136.f2]) uu72 sz72 (fun j u h => by rw [ea_add]; exact hc138 _ _ h) J (fun U J => ?_) rfl
   refine x_alloc' (cs := [str [], .slice none 0 0, .int .i64 0]) zr72 J X (fun g143 U w X J => ?_) rfl
   refine x_stb' 0 sz72 J X rfl (fun  U w X J => ?_) rfl
   refine wn (hK135 _ _ ?_)
   refine wp_reg ?_
   refine x_m J rfl fun U J => ?_
   refine x_fab' fa72_0 J (fun U J => ?_) rfl
   refine x_ld' uu9 (X.cell 0 rfl 0 _ rfl) J (fun U J => ?_) rfl
   refine x_bsl' (d := kS) (e := 9) (ps := #[(0, str x136.f0)]) (cells := [str x136.f0]) (xs := [x136.f0]) (fun w => by kernel_rfl) rfl ⟨[str x136.f0], _, rfl, rfl, rfl⟩ J X (fun g144 U w X J => ?_) rfl
   obtain ⟨h145, G⟩ := chk_some G
   have hr := X.rd 0 rfl
   refine x_app' 4 inf9 uu42 J X hr.1 hr.2.1 h145 rfl (fun A146 n147 c148 U w X J => ?_) rfl
   refine x_m J rfl fun U J => ?_
   refine wpList_nil ?_
   refine hKx134 _ _ ?_
   refine hK133 _ _ ?_
   refine wp_reg ?_
   obtain ⟨x149, h150, G⟩ := ltt_ G
   refine x_v (v := .int .i64 x149) J (rv_i h150 (r_add rfl (J.ev rfl) (J.ev rfl))) rfl fun U J => ?_
   refine x_m J rfl fun U J => ?_
   refine wpList_nil ?_
   replace X := X.drop 1 |>.drop 1 |>.pk 2 |>.pk 2
   cases G
   exact ⟨_, N121_ _ rfl, A146, n147, c148, J.sub _ rfl, X⟩
  replace G := iff' hb132 G
  refine wp_exit ?_
  cases G
  exact hx121_0 l128 (T121_ _ rfl) A125 n126 c127 U w (J.sub _ rfl) X
theorem F_files_New {r : World} {L : List HP} {w : World} (a0 : Int) {y : ((Option S66) × Int)} (G : files_New a0 = some y) (X : SH r (L) w) :
  Ret Tryz.prog 8 #[.int .i64 a0] w fun v w' => ∃ (p0 : Option Addr), v = .tuple #[(.pointer p0), (.int .i64 y.2)] ∧ SH r (optP (obj66) p0 y.1 :: L) w' := by
 refine enter Tryz.func8 rfl Tryz.ntmps8 [(0, .int .i64 a0)] rfl (by simp) ?_
 intro U J Qf hQ hQn
 unfold files_New at G
 refine ws fun K100 hK100 => ?_
 refine x_m J rfl fun U J => ?_
 refine x_m J rfl fun U J => ?_
 refine wn (hK100 _ _ ?_)
 refine wp_seq_k fun K101 hK101 => ?_
 refine wp_seq_k fun K102 hK102 => ?_
 have hj1 : ∀ (b103 : Bool), files_New_j1 a0 b103 = some y → ∀ (U : Act) (w : World), FR 13 [] U [(0, .int .i64 a0), (9, .bool b103)] → SH r (L) w → K102 U w := by
  intro b103 G U w J X
  unfold files_New_j1 at G
  refine hK102 _ _ ?_
  refine c_if J rfl (fun hb104 => ?_) fun hb104 => ?_
  ·replace G := ift hb104 G
   refine ws fun K105 hK105 => ?_
   refine x_m J rfl fun U J => ?_
   refine x_m J rfl fun U J => ?_
   refine wn (hK105 _ _ ?_)
   refine wp_ret ?_
   replace X := SH.optN (obj66) X
   cases G
   refine hQ _ _ ?_
   refine lv2 Tryz.results8 J rfl rfl ?_
   exact ⟨none, rfl, X⟩
  replace G := iff' hb104 G
  refine wp_skip ?_
  refine hK101 _ _ ?_
  refine ws fun K106 hK106 => ?_
  refine x_m J rfl fun U J => ?_
  refine x_v (v := .agg #[.slice none 0 0, .int .i64 a0, .int .i64 0, .bool false, .int .i64 0]) J (r_build (ps := #[(1, .int .i64 a0)]) rfl (mapev2 J rfl) (fun w => by kernel_rfl)) rfl fun U J => ?_
  refine x_box' J X (fun g107 U w X J => ?_) rfl
  refine x_m J rfl fun U J => ?_
  refine x_m J rfl fun U J => ?_
  refine wn (hK106 _ _ ?_)
  refine wp_ret ?_
  replace X := own2_nil (dp := kp72) (d := (kI .u8)) (e' := 5) (g := (fun x : S72 => x.f1)) (e := 72) X
  replace X := X.pk 1
  replace X := obj66_mk (x := (⟨[], a0, 0, false, 0⟩ : S66)) X
  replace X := SH.optS X
  cases G
  refine hQ _ _ ?_
  refine lv2 Tryz.results8 J rfl rfl ?_
  exact ⟨some ⟨g107, 0, none⟩, rfl, X⟩
 refine wp_reg ?_
 refine x_m J rfl fun U J => ?_
 refine x_v J (r_ltI rfl (J.ev rfl) (J.ev rfl)) rfl fun U J => ?_
 refine x_m J rfl fun U J => ?_
 refine bcase (b := decide (a0 < 1)) (fun hb108 => ?_) fun hb108 => ?_
 ·replace G := ift hb108 G
  refine xO 2 hb108 J rfl fun U J => ?_
  refine x_pickt' hb108 J (fun U J => ?_) rfl
  refine wpList_nil ?_
  exact hj1 true G U w (J.sub _ rfl) X
 replace G := iff' hb108 G
 refine x_on' hb108 J ?_ rfl
 refine x_m J rfl fun U J => ?_
 refine x_on' hb108 J ?_ rfl
 refine x_v J (r_gtI rfl (J.ev rfl) (J.ev rfl)) rfl fun U J => ?_
 refine x_pickf' hb108 J (fun U J => ?_) rfl
 refine wpList_nil ?_
 exact hj1 (decide (16777216 < a0)) G U w (J.sub _ rfl) X
theorem F_files_Store_Append {r : World} {L : List HP} {w : World} (a0 : (Option S66)) (a1 : (List UInt8)) (a2 : (List Int)) (p0 : Option Addr) (A2 : Option Addr) (n2 : Nat) (c2 : Nat) {y : (Int × (Option S66))} (G : files_Store_Append a0 a1 a2 = some y) (ha2 : RdL L (kI .u8) A2 n2 c2 a2) (X : SH r (optP (obj66) p0 a0 :: L) w) :
  Ret Tryz.prog 9 #[.pointer p0, str a1, .slice A2 n2 c2] w fun v w' => v = .int .i64 y.1 ∧ SH r (optP (obj66) p0 y.2 :: L) w' := by
 refine enter Tryz.func9 rfl Tryz.ntmps9 [(0, .pointer p0), (1, str a1), (2, .slice A2 n2 c2)] rfl (by simp) ?_
 intro U J Qf hQ hQn
 unfold files_Store_Append at G
 cases a0 with
 | none =>
  have hU := SH.unoptN X
  clear X
  obtain ⟨rfl, X⟩ := hU
  refine ws fun K100 hK100 => ?_
  refine x_m J rfl fun U J => ?_
  refine wn (hK100 _ _ ?_)
  refine wp_seq_k fun K101 hK101 => ?_
  refine ws fun K102 hK102 => ?_
  refine x_m J rfl fun U J => ?_
  refine x_m J rfl fun U J => ?_
  replace X := SH.optN (obj66) X
  obtain ⟨y103, h104, G⟩ := bnd G
  refine x_call' en20 J (F_files_Store_look (L := L) none a1 none h104 X) (fun v U w hR J => ?_) rfl
  obtain ⟨rfl, X⟩ := hR
  refine x_m J rfl fun U J => ?_
  refine wn (hK102 _ _ ?_)
  refine ws fun K105 hK105 => ?_
  refine x_m J rfl fun U J => ?_
  refine x_v J (r_neI rfl (J.ev rfl) (J.ev rfl)) rfl fun U J => ?_
  refine wn (hK105 _ _ ?_)
  refine c_if J rfl (fun hb106 => ?_) fun hb106 => ?_
  ·replace G := ift hb106 G
   refine ws fun K107 hK107 => ?_
   refine x_m J rfl fun U J => ?_
   refine x_m J rfl fun U J => ?_
   refine wn (hK107 _ _ ?_)
   refine wp_ret ?_
   replace X := SH.optN (obj66) X
   replace X := X.drop 1
   cases G
   refine hQ _ _ ?_
   refine lv Tryz.results9 J rfl ?_
   exact ⟨rfl, X⟩
  replace G := iff' hb106 G
  refine wp_skip ?_
  refine hK101 _ _ ?_
  refine ws fun K108 hK108 => ?_
  refine x_m J rfl fun U J => ?_
  refine x_m J rfl fun U J => ?_
  cases G
 | some x109 =>
  have hU := SH.unoptS X
  clear X
  obtain ⟨g110, rfl, X⟩ := hU
  obtain ⟨A111, n112, c113, X⟩ := obj66_open X
  refine ws fun K114 hK114 => ?_
  refine x_m J rfl fun U J => ?_
  refine wn (hK114 _ _ ?_)
  refine wp_seq_k fun K115 hK115 => ?_
  refine ws fun K116 hK116 => ?_
  refine x_m J rfl fun U J => ?_
  refine x_m J rfl fun U J => ?_
  replace X := X.pk 1 |>.pk 1
  replace X := obj66_mk (x := x109) X
  replace X := SH.optS X
  obtain ⟨y117, h118, G⟩ := bnd G
  refine x_call' en20 J (F_files_Store_look (L := L) (some x109) a1 (some ⟨g110, 0, none⟩) h118 X) (fun v U w hR J => ?_) rfl
  obtain ⟨rfl, X⟩ := hR
  replace X := SH.unoptP X
  obtain ⟨A119, n120, c121, X⟩ := obj66_open X
  refine x_m J rfl fun U J => ?_
  refine wn (hK116 _ _ ?_)
  refine ws fun K122 hK122 => ?_
  refine x_m J rfl fun U J => ?_
  refine x_v J (r_neI rfl (J.ev rfl) (J.ev rfl)) rfl fun U J => ?_
  refine wn (hK122 _ _ ?_)
  refine c_if J rfl (fun hb123 => ?_) fun hb123 => ?_
  ·replace G := ift hb123 G
   refine ws fun K124 hK124 => ?_
   refine x_m J rfl fun U J => ?_
   refine x_m J rfl fun U J => ?_
   refine wn (hK124 _ _ ?_)
   refine wp_ret ?_
   replace X := X.pk 1 |>.pk 1
   replace X := obj66_mk (x := x109) X
   replace X := SH.optS X
   cases G
   refine hQ _ _ ?_
   refine lv Tryz.results9 J rfl ?_
   exact ⟨rfl, X⟩
  replace G := iff' hb123 G
  refine wp_skip ?_
  refine hK115 _ _ ?_
  refine ws fun K125 hK125 => ?_
  refine x_m J rfl fun U J => ?_
  refine x_m J rfl fun U J => ?_
  replace X := X.pk 1 |>.pk 1
  obtain ⟨y126, h127, G⟩ := bnd G
  refine x_call' en21 J (F_files_Store_find (L := L) x109 a1 g110 A119 n120 c121 h127 X) (fun v U w hR J => ?_) rfl
  obtain ⟨rfl, X⟩ := hR
  refine x_m J rfl fun U J => ?_
  refine x_v J (r_extract rfl (J.ev rfl) rfl) rfl fun U J => ?_
  refine x_v J (r_extract rfl (J.ev rfl) rfl) rfl fun U J => ?_
  refine x_m J rfl fun U J => ?_
  refine x_m J rfl fun U J => ?_
  refine wn (hK125 _ _ ?_)
  refine wp_seq_k fun K128 hK128 => ?_
  refine wp_seq_k fun K129 hK129 => ?_
  have hj1 : ∀ (b130 : Bool), files_Store_Append_j1 a1 a2 x109 y126 b130 = some y → ∀ (A131 : Option Addr) (n132 : Nat) (c133 : Nat) (U : Act) (w : World), FR 80 [] U [(0, (pP g110)), (1, str a1), (2, .slice A2 n2 c2), (8, .int .i64 y126.1), (9, .bool y126.2), (44, .bool b130)] → SH r (blk g110 66 [.slice A131 n132 c133, .int .i64 x109.f1, .int .i64 x109.f2, .bool x109.f3, .int .i64 x109.f4] :: own2 kp72 (kI .u8) 5 (fun x : S72 => x.f1) 72 A131 n132 c133 x109.f0 :: L) w → K129 U w := by
   intro b130 G A131 n132 c133 U w J X
   unfold files_Store_Append_j1 at G
   refine hK129 _ _ ?_
   refine c_if J rfl (fun hb134 => ?_) fun hb134 => ?_
   ·replace G := ift hb134 G
    refine ws fun K135 hK135 => ?_
    refine x_m J rfl fun U J => ?_
    refine wn (hK135 _ _ ?_)
    refine wp_ret ?_
    replace X := X.pk 1 |>.pk 1
    replace X := obj66_mk (x := x109) X
    replace X := SH.optS X
    cases G
    refine hQ _ _ ?_
    refine lv Tryz.results9 J rfl ?_
    exact ⟨rfl, X⟩
   replace G := iff' hb134 G
   refine wp_skip ?_
   refine hK128 _ _ ?_
   refine ws fun K136 hK136 => ?_
   refine x_m J rfl fun U J => ?_
   replace X := X.pk 1 |>.pk 1
   replace X := obj66_mk (x := x109) X
   obtain ⟨y137, h138, G⟩ := bnd G
   refine x_call' en23 J (F_files_Store_begin (L := L) x109 g110 h138 X) (fun v U w hR J => ?_) rfl
   obtain ⟨rfl, X⟩ := hR
   obtain ⟨A139, n140, c141, X⟩ := obj66_open X
   refine x_m J rfl fun U J => ?_
   refine wn (hK136 _ _ ?_)
   refine wp_seq_k fun K142 hK142 => ?_
   have hj2 : ∀ (l143 : (List S72)), files_Store_Append_j2 a2 y126 y137 l143 = some y → ∀ (A144 : Option Addr) (n145 : Nat) (c146 : Nat) (U : Act) (w : World), FR 80 [] U [(0, (pP g110)), (2, .slice A2 n2 c2), (8, .int .i64 y126.1), (10, .bool y137.1)] → SH r (blk g110 66 [.slice A144 n145 c146, .int .i64 y137.2.f1, .int .i64 y137.2.f2, .bool y137.2.f3, .int .i64 y137.2.f4] :: own2 kp72 (kI .u8) 5 (fun x : S72 => x.f1) 72 A144 n145 c146 l143 :: L) w → K142 U w := by
    intro l143 G A144 n145 c146 U w J X
    unfold files_Store_Append_j2 at G
    refine hK142 _ _ ?_
    refine wp_seq_k fun K147 hK147 => ?_
    refine wp_draw [0, 1, 3, 7, 0, 0, 32, 96, 224, 0, 992, 2016, 4064, 0, 16352, 32767, 65535, 131071] [14, 17] rfl J X (by kernel_rfl) (by kernel_rfl) (by kernel_rfl) (by kernel_rfl) fun w X => ?_
    obtain ⟨x148, h149, G⟩ := bnd G
    have hS_172 := X
    replace X := X.pk 1
    obtain ⟨ps173, A150, n151, c152, h153, h154, X⟩ := own2_out X h149
    obtain ⟨cs, hV, hc155⟩ := el (X.rd 0 rfl) h154
    obtain rfl := hV
    refine ⟨[(0, (pP g110)), (1, (pP g110)), (2, (pP g110)), (3, .slice A144 n145 c146), (4, .int .i64 y126.1), (5, (pP g110)), (6, (pP g110)), (7, (pP g110)), (8, .slice A144 n145 c146), (9, .int .i64 y126.1), (10, .pointer (some (ea A144 (y126.1.toNat * 3)))), (11, .pointer (some (ea A144 (y126.1.toNat * 3 + 1)))), (12, .slice A150 n151 c152), (13, .slice A2 n2 c2)], ?_⟩
    refine dF [0, 1, 2, 3, 4, 5, 6, 7, 8, 9, 10, 11, 12, 13] [14] (by kernel_rfl) ⟨pm rfl, pt [(61, (pP g110))] rfl (fun U J => r_nilCheck rfl (J.ev rfl)), pt [(62, (pP g110))] rfl (fun U J => y_fab fa66_0 J rfl rfl), pt [(63, (pP g110))] rfl (fun U J => y_ld uu64 (hS_172.cell 0 rfl 0 _ rfl) J rfl rfl rfl), pm rfl, pm rfl, pt [(66, (pP g110))] rfl (fun U J => r_nilCheck rfl (J.ev rfl)), pt [(67, (pP g110))] rfl (fun U J => y_fab fa66_0 J rfl rfl), pt [(68, (pP g110))] rfl (fun U J => y_ld uu64 (hS_172.cell 0 rfl 0 _ rfl) J rfl rfl rfl), pm rfl, pt [(69, .slice A144 n145 c146), (70, .int .i64 y126.1)] rfl (fun U J => y_ia uu64 sz72 (hS_172.rd2L 1 rfl) h149 J rfl rfl rfl), pt [(71, .pointer (some (ea A144 (y126.1.toNat * 3))))] rfl (fun U J => y_fae (m := y126.1.toNat * 3) fa72_1 J rfl rfl), pt [(72, .pointer (some (ea A144 (y126.1.toNat * 3 + 1))))] rfl (fun U J => y_ld uu29 (hc155 1 _ rfl) J rfl rfl rfl), pm rfl, trivial⟩ ⟨et [(73, .slice A150 n151 c152), (74, .slice A2 n2 c2)] rfl (fun U J K hK => ?_), trivial⟩
    obtain ⟨h156, G⟩ := chk_some G
    have hr := X.rdl 4 ha2 rfl
    refine z_app' 1 inf5 uu29 J X hr.1 hr.2.1 h156 rfl (fun A157 n158 c159 w X => ?_) rfl
    refine hK _ [(15, .pointer (some (ea A144 (y126.1.toNat * 3)))), (16, .pointer (some (ea A144 (y126.1.toNat * 3 + 1))))] _ rfl ?_
    refine dF [0, 1, 2, 3, 4, 15, 16] [17] (by kernel_rfl) ⟨pm rfl, pt [(61, (pP g110))] rfl (fun U J => r_nilCheck rfl (J.ev rfl)), pt [(62, (pP g110))] rfl (fun U J => y_fab fa66_0 J rfl rfl), pt [(63, (pP g110))] rfl (fun U J => y_ld uu64 (X.cell 3 rfl 0 _ rfl) J rfl rfl rfl), pm rfl, pt [(64, .slice A144 n145 c146), (65, .int .i64 y126.1)] rfl (fun U J => y_ia uu64 sz72 (X.rdp 1 rfl h153) h149 J rfl rfl rfl), pt [(76, .pointer (some (ea A144 (y126.1.toNat * 3))))] rfl (fun U J => y_fae (m := y126.1.toNat * 3) fa72_1 J rfl rfl), trivial⟩ ⟨et [(75, .slice A157 n158 c159), (77, .pointer (some (ea A144 (y126.1.toNat * 3 + 1))))] rfl (fun U J K hK => ?_), trivial⟩
    refine z_sto (z' := ((⟨x148.f0, x148.f1 ++ a2, x148.f2⟩ : S72), A157, n158, c159)) (off := 1) (vs := [.slice A157 n158 c159]) 1 sz29 J X rfl (at_some h154).2.2 (fun c h => by cases h; rfl) (fun  w X => ?_) rfl rfl rfl rfl rfl rfl
    replace X := X.pk 2 |>.pk 2 |>.pk 2
    replace X := own2_in (g := (fun x : S72 => x.f1)) (x' := (⟨x148.f0, x148.f1 ++ a2, x148.f2⟩ : S72)) h153 h154 X
    refine hK _ [] _ rfl ?_
    refine dEnd [] (by kernel_rfl) trivial ⟨by kernel_rfl, by kernel_rfl⟩ [(0, (pP g110)), (10, .bool y137.1)] rfl (fun U J => ?_)
    refine hK147 _ _ ?_
    refine wp_seq_k fun K160 hK160 => ?_
    refine ws fun K161 hK161 => ?_
    refine x_m J rfl fun U J => ?_
    refine x_v J (r_not rfl (J.ev rfl)) rfl fun U J => ?_
    refine wn (hK161 _ _ ?_)
    refine c_if J rfl (fun hb162 => ?_) fun hb162 => ?_
    ·replace G := ift hb162 G
     refine ws fun K163 hK163 => ?_
     refine x_m J rfl fun U J => ?_
     refine wn (hK163 _ _ ?_)
     refine wp_ret ?_
     replace X := X.pk 1
     replace X := obj66_mk (x := (⟨l143.set y126.1.toNat (⟨x148.f0, x148.f1 ++ a2, x148.f2⟩ : S72), y137.2.f1, y137.2.f2, y137.2.f3, y137.2.f4⟩ : S66)) X
     replace X := SH.optS X
     cases G
     refine hQ _ _ ?_
     refine lv Tryz.results9 J rfl ?_
     exact ⟨rfl, X⟩
    replace G := iff' hb162 G
    refine wp_skip ?_
    refine hK160 _ _ ?_
    refine ws fun K164 hK164 => ?_
    refine x_m J rfl fun U J => ?_
    refine wn (hK164 _ _ ?_)
    refine wp_ret ?_
    replace X := X.pk 1
    replace X := obj66_mk (x := (⟨l143.set y126.1.toNat (⟨x148.f0, x148.f1 ++ a2, x148.f2⟩ : S72), y137.2.f1, y137.2.f2, y137.2.f3, y137.2.f4⟩ : S66)) X
    replace X := SH.optS X
    cases G
    refine hQ _ _ ?_
    refine lv Tryz.results9 J rfl ?_
    exact ⟨rfl, X⟩
   refine ws fun K165 hK165 => ?_
   refine x_m J rfl fun U J => ?_
   refine x_v J (r_not rfl (J.ev rfl)) rfl fun U J => ?_
   refine wn (hK165 _ _ ?_)
   refine c_if J rfl (fun hb166 => ?_) fun hb166 => ?_
   ·replace G := ift hb166 G
    refine wp_reg ?_
    refine x_m J rfl fun U J => ?_
    refine x_m J rfl fun U J => ?_
    refine x_v J (r_nilCheck rfl (J.ev rfl)) rfl fun U J => ?_
    refine x_fab' fa66_0 J (fun U J => ?_) rfl
    refine x_ld' uu64 (X.cell 0 rfl 0 _ rfl) J (fun U J => ?_) rfl
    refine x_m J rfl fun U J => ?_
    refine x_m J rfl fun U J => ?_
    refine x_v (v := .agg #[str a1, .slice none 0 0, .int .i64 0]) J (r_build (ps := #[(0, str a1)]) rfl (mapev2 J rfl) (fun w => by kernel_rfl)) rfl fun U J => ?_
    replace X := SH.nil_own (d := (kI .u8)) (e := 5) X
    refine x_bsl' (d := kp72) (e := 72) (ps := #[(0, .agg #[str a1, .slice none 0 0, .int .i64 0])]) (cells := [str a1, .slice none 0 0, .int .i64 0]) (xs := [((⟨a1, [], 0⟩ : S72), none, 0, 0)]) (fun w => by kernel_rfl) rfl ⟨[str a1, .slice none 0 0, .int .i64 0], _, rfl, rfl, rfl⟩ J X (fun g167 U w X J => ?_) rfl
    replace X := own2_one (g := (fun x : S72 => x.f1)) (x := (⟨a1, [], 0⟩ : S72)) X
    replace X := X.pk 2
    obtain ⟨y168, h169, G⟩ := bnd G
    refine x_call' en24 J (F_ins (L := blk g110 66 [.slice A139 n140 c141, .int .i64 y137.2.f1, .int .i64 y137.2.f2, .bool y137.2.f3, .int .i64 y137.2.f4] :: L) y137.2.f0 y126.1 [(⟨a1, [], 0⟩ : S72)] h169 X) (fun v U w hR J => ?_) rfl
    obtain ⟨A170, n171, c172, rfl, X⟩ := hR
    refine x_v J (r_nilCheck rfl (J.ev rfl)) rfl fun U J => ?_
    refine x_fab' fa66_0 J (fun U J => ?_) rfl
    refine x_stb' 1 sz64 J X rfl (fun  U w X J => ?_) rfl
    refine wpList_nil ?_
    exact hj2 y168 G A170 n171 c172 U w (J.sub _ rfl) X
   replace G := iff' hb166 G
   refine wp_skip ?_
   exact hj2 y137.2.f0 G A139 n140 c141 U w (J.sub _ rfl) X
  refine wp_draw [0, 1, 0, 4, 12, 28, 0, 64, 252, 511, 1023, 2047, 4095, 8191, 16383, 32767, 65535, 131071, 262143, 524287, 1048575, 2097151] [7] rfl J X (by kernel_rfl) (by kernel_rfl) (by kernel_rfl) (by kernel_rfl) fun w X => ?_
  refine ⟨[(0, .slice A2 n2 c2), (1, .int .i64 (a2.length : Int)), (2, (pP g110)), (3, (pP g110)), (4, .pointer (some ⟨g110, 1, none⟩)), (5, .int .i64 x109.f1), (6, (pP g110))], ?_⟩
  refine dF [0, 1, 2, 3, 4, 5, 6] [7] (by kernel_rfl) ⟨pm rfl, pt [(23, .slice A2 n2 c2)] rfl (fun U J => y_len uu29 (X.rdl 2 ha2 rfl).2.1 J rfl rfl), pm rfl, pt [(25, (pP g110))] rfl (fun U J => r_nilCheck rfl (J.ev rfl)), pt [(26, (pP g110))] rfl (fun U J => y_fab fa66_1 J rfl rfl), pt [(27, .pointer (some ⟨g110, 1, none⟩))] rfl (fun U J => y_ld uu3 (X.cell 0 rfl 1 _ rfl) J rfl rfl rfl), pm rfl, trivial⟩ ⟨et [(29, (pP g110))] rfl (fun U J K hK => ?_), trivial⟩
  replace X := X.pk 1 |>.pk 1
  replace X := obj66_mk (x := x109) X
  replace X := SH.optS X
  obtain ⟨y173, h174, G⟩ := bnd G
  refine z_call' en22 J (F_files_Store_Used (L := L) (some x109) (some ⟨g110, 0, none⟩) h174 X) (fun v w hR => ?_) rfl
  obtain ⟨rfl, X⟩ := hR
  replace X := SH.unoptP X
  obtain ⟨A175, n176, c177, X⟩ := obj66_open X
  obtain ⟨x178, h179, G⟩ := ltt_ G
  refine bcase (b := decide (x178 < (a2.length : Int))) (fun hb180 => ?_) fun hb180 => ?_
  ·replace G := ift hb180 G
   refine hK _ [(8, .int .i64 x178), (9, .bool (decide (x178 < (a2.length : Int)))), (10, .bool (decide (x178 < (a2.length : Int)))), (11, undef), (12, undef), (13, undef), (14, undef), (15, undef), (16, undef), (17, undef), (18, undef), (19, undef), (20, undef), (21, .bool true)] _ rfl ?_
   refine dEnd [0, 1, 2, 3, 4, 5, 8, 9, 10, 11, 12, 13, 14, 15, 16, 17, 18, 19, 20, 21] (by kernel_rfl) ⟨pm rfl, pt [(23, .slice A2 n2 c2)] rfl (fun U J => y_len uu29 (X.rdl 2 ha2 rfl).2.1 J rfl rfl), pm rfl, pt [(25, (pP g110))] rfl (fun U J => r_nilCheck rfl (J.ev rfl)), pt [(26, (pP g110))] rfl (fun U J => y_fab fa66_1 J rfl rfl), pt [(27, .pointer (some ⟨g110, 1, none⟩))] rfl (fun U J => y_ld uu3 (X.cell 0 rfl 1 _ rfl) J rfl rfl rfl), pt [(28, .int .i64 x109.f1), (30, .int .i64 y173)] rfl (fun U J => (rv_i h179 (r_sub rfl (J.ev rfl) (J.ev rfl)) : RunV _ _ _ _ (.int .i64 x178))), pt [(24, .int .i64 (a2.length : Int)), (31, .int .i64 x178)] rfl (fun U J => r_gtI rfl (J.ev rfl) (J.ev rfl)), pm rfl, puOff rfl rfl rfl rfl [(9, .bool y126.2), (33, .bool (decide (x178 < (a2.length : Int))))] rfl hb180 rfl, puOff rfl rfl rfl rfl [(33, .bool (decide (x178 < (a2.length : Int)))), (34, undef)] rfl hb180 rfl, puOff rfl rfl rfl rfl [(33, .bool (decide (x178 < (a2.length : Int)))), (35, undef)] rfl hb180 rfl, puOffU rfl rfl rfl rfl [(0, (pP g110)), (36, undef)] rfl rfl, puOffU rfl rfl rfl rfl [(36, undef), (37, undef)] rfl rfl, puOffU rfl rfl rfl rfl [(36, undef), (38, undef)] rfl rfl, puOffU rfl rfl rfl rfl [(36, undef), (39, undef)] rfl rfl, puOffU rfl rfl rfl rfl [(36, undef), (40, undef)] rfl rfl, puOffU rfl rfl rfl rfl [(36, undef), (41, undef)] rfl rfl, puOff rfl rfl rfl rfl [(33, .bool (decide (x178 < (a2.length : Int)))), (36, undef), (42, undef)] rfl hb180 rfl, pt [(33, .bool (decide (x178 < (a2.length : Int)))), (43, undef)] rfl (fun U J => y_pickt hb180 J rfl rfl rfl), trivial⟩ ⟨by kernel_rfl, by kernel_rfl⟩ [(0, (pP g110)), (1, str a1), (2, .slice A2 n2 c2), (8, .int .i64 y126.1), (9, .bool y126.2), (44, .bool true)] rfl (fun U J => ?_)
   exact hj1 true G A175 n176 c177 U w (J.sub _ rfl) X
  replace G := iff' hb180 G
  refine bcase (b := !y126.2) (fun hb181 => ?_) fun hb181 => ?_
  ·replace G := ift hb181 G
   refine hK _ [(8, .int .i64 x178), (9, .bool (decide (x178 < (a2.length : Int)))), (10, .bool (decide (x178 < (a2.length : Int)))), (11, .bool y126.2), (12, .bool (!y126.2)), (13, .bool (!y126.2)), (14, (pP g110)), (15, (pP g110)), (16, (pP g110)), (17, .slice A175 n176 c177), (18, .int .i64 (x109.f0.length : Int)), (19, .bool (decide (500 ≤ (x109.f0.length : Int)))), (20, .bool (decide (500 ≤ (x109.f0.length : Int)))), (21, .bool (decide (500 ≤ (x109.f0.length : Int))))] _ rfl ?_
   refine dEnd [0, 1, 2, 3, 4, 5, 8, 9, 10, 11, 12, 13, 14, 15, 16, 17, 18, 19, 20, 21] (by kernel_rfl) ⟨pm rfl, pt [(23, .slice A2 n2 c2)] rfl (fun U J => y_len uu29 (X.rdl 2 ha2 rfl).2.1 J rfl rfl), pm rfl, pt [(25, (pP g110))] rfl (fun U J => r_nilCheck rfl (J.ev rfl)), pt [(26, (pP g110))] rfl (fun U J => y_fab fa66_1 J rfl rfl), pt [(27, .pointer (some ⟨g110, 1, none⟩))] rfl (fun U J => y_ld uu3 (X.cell 0 rfl 1 _ rfl) J rfl rfl rfl), pt [(28, .int .i64 x109.f1), (30, .int .i64 y173)] rfl (fun U J => (rv_i h179 (r_sub rfl (J.ev rfl) (J.ev rfl)) : RunV _ _ _ _ (.int .i64 x178))), pt [(24, .int .i64 (a2.length : Int)), (31, .int .i64 x178)] rfl (fun U J => r_gtI rfl (J.ev rfl) (J.ev rfl)), pm rfl, puOn rfl rfl rfl rfl [(9, .bool y126.2), (33, .bool (decide (x178 < (a2.length : Int))))] rfl hb180 (fun U J => y_move J rfl rfl) rfl, puOn rfl rfl rfl rfl [(33, .bool (decide (x178 < (a2.length : Int)))), (34, .bool y126.2)] rfl hb180 (fun U J => r_not rfl (J.ev rfl)) rfl, puOn rfl rfl rfl rfl [(33, .bool (decide (x178 < (a2.length : Int)))), (35, .bool (!y126.2))] rfl hb180 (fun U J => y_move J rfl rfl) rfl, puOn rfl rfl rfl rfl [(0, (pP g110)), (36, .bool (!y126.2))] rfl hb181 (fun U J => y_move J rfl rfl) rfl, puOn rfl rfl rfl rfl [(36, .bool (!y126.2)), (37, (pP g110))] rfl hb181 (fun U J => r_nilCheck rfl (J.ev rfl)) rfl, puOn rfl rfl rfl rfl [(36, .bool (!y126.2)), (38, (pP g110))] rfl hb181 (fun U J => y_fab fa66_0 J rfl rfl) rfl, puOn rfl rfl rfl rfl [(36, .bool (!y126.2)), (39, (pP g110))] rfl hb181 (fun U J => y_ld uu64 (X.cell 0 rfl 0 _ rfl) J rfl rfl rfl) rfl, puOn rfl rfl rfl rfl [(36, .bool (!y126.2)), (40, .slice A175 n176 c177)] rfl hb181 (fun U J => y_len uu64 (X.rd2L 1 rfl).2.1 J rfl rfl) rfl, puOn rfl rfl rfl rfl [(36, .bool (!y126.2)), (41, .int .i64 (x109.f0.length : Int))] rfl hb181 (fun U J => r_geI rfl (J.ev rfl) (J.ev rfl)) rfl, puOn rfl rfl rfl rfl [(33, .bool (decide (x178 < (a2.length : Int)))), (36, .bool (!y126.2)), (42, .bool (decide (500 ≤ (x109.f0.length : Int))))] rfl hb180 (fun U J => y_pickt hb181 J rfl rfl rfl) rfl, pt [(33, .bool (decide (x178 < (a2.length : Int)))), (43, .bool (decide (500 ≤ (x109.f0.length : Int))))] rfl (fun U J => y_pickf hb180 J rfl rfl rfl), trivial⟩ ⟨by kernel_rfl, by kernel_rfl⟩ [(0, (pP g110)), (1, str a1), (2, .slice A2 n2 c2), (8, .int .i64 y126.1), (9, .bool y126.2), (44, .bool (decide (500 ≤ (x109.f0.length : Int))))] rfl (fun U J => ?_)
   exact hj1 (decide (500 ≤ (x109.f0.length : Int))) G A175 n176 c177 U w (J.sub _ rfl) X
  replace G := iff' hb181 G
  refine hK _ [(8, .int .i64 x178), (9, .bool (decide (x178 < (a2.length : Int)))), (10, .bool (decide (x178 < (a2.length : Int)))), (11, .bool y126.2), (12, .bool (!y126.2)), (13, .bool (!y126.2)), (14, undef), (15, undef), (16, undef), (17, undef), (18, undef), (19, undef), (20, .bool false), (21, .bool false)] _ rfl ?_
  refine dEnd [0, 1, 2, 3, 4, 5, 8, 9, 10, 11, 12, 13, 14, 15, 16, 17, 18, 19, 20, 21] (by kernel_rfl) ⟨pm rfl, pt [(23, .slice A2 n2 c2)] rfl (fun U J => y_len uu29 (X.rdl 2 ha2 rfl).2.1 J rfl rfl), pm rfl, pt [(25, (pP g110))] rfl (fun U J => r_nilCheck rfl (J.ev rfl)), pt [(26, (pP g110))] rfl (fun U J => y_fab fa66_1 J rfl rfl), pt [(27, .pointer (some ⟨g110, 1, none⟩))] rfl (fun U J => y_ld uu3 (X.cell 0 rfl 1 _ rfl) J rfl rfl rfl), pt [(28, .int .i64 x109.f1), (30, .int .i64 y173)] rfl (fun U J => (rv_i h179 (r_sub rfl (J.ev rfl) (J.ev rfl)) : RunV _ _ _ _ (.int .i64 x178))), pt [(24, .int .i64 (a2.length : Int)), (31, .int .i64 x178)] rfl (fun U J => r_gtI rfl (J.ev rfl) (J.ev rfl)), pm rfl, puOn rfl rfl rfl rfl [(9, .bool y126.2), (33, .bool (decide (x178 < (a2.length : Int))))] rfl hb180 (fun U J => y_move J rfl rfl) rfl, puOn rfl rfl rfl rfl [(33, .bool (decide (x178 < (a2.length : Int)))), (34, .bool y126.2)] rfl hb180 (fun U J => r_not rfl (J.ev rfl)) rfl, puOn rfl rfl rfl rfl [(33, .bool (decide (x178 < (a2.length : Int)))), (35, .bool (!y126.2))] rfl hb180 (fun U J => y_move J rfl rfl) rfl, puOff rfl rfl rfl rfl [(0, (pP g110)), (36, .bool (!y126.2))] rfl hb181 rfl, puOff rfl rfl rfl rfl [(36, .bool (!y126.2)), (37, undef)] rfl hb181 rfl, puOff rfl rfl rfl rfl [(36, .bool (!y126.2)), (38, undef)] rfl hb181 rfl, puOff rfl rfl rfl rfl [(36, .bool (!y126.2)), (39, undef)] rfl hb181 rfl, puOff rfl rfl rfl rfl [(36, .bool (!y126.2)), (40, undef)] rfl hb181 rfl, puOff rfl rfl rfl rfl [(36, .bool (!y126.2)), (41, undef)] rfl hb181 rfl, puOn rfl rfl rfl rfl [(33, .bool (decide (x178 < (a2.length : Int)))), (36, .bool (!y126.2)), (42, undef)] rfl hb180 (fun U J => y_pickf hb181 J rfl rfl rfl) rfl, pt [(33, .bool (decide (x178 < (a2.length : Int)))), (43, .bool false)] rfl (fun U J => y_pickf hb180 J rfl rfl rfl), trivial⟩ ⟨by kernel_rfl, by kernel_rfl⟩ [(0, (pP g110)), (1, str a1), (2, .slice A2 n2 c2), (8, .int .i64 y126.1), (9, .bool y126.2), (44, .bool false)] rfl (fun U J => ?_)
  exact hj1 false G A175 n176 c177 U w (J.sub _ rfl) X
theorem F_files_Store_Read {r : World} {L : List HP} {w : World} (a0 : (Option S66)) (a1 : (List UInt8)) (p0 : Option Addr) {y : ((List Int) × Int)} (G : files_Store_Read a0 a1 = some y) (X : SH r (optP (obj66) p0 a0 :: L) w) :
  Ret Tryz.prog 17 #[.pointer p0, str a1] w fun v w' => ∃ (B0 : Option Addr) (m0 : Nat) (d0 : Nat), v = .tuple #[(.slice B0 m0 d0), (.int .i64 y.2)] ∧ SH r (own (kI .u8) 5 B0 m0 d0 y.1 :: optP (obj66) p0 a0 :: L) w' := by
 refine enter Tryz.func17 rfl Tryz.ntmps17 [(0, .pointer p0), (1, str a1)] rfl (by simp) ?_
 intro U J Qf hQ hQn
 unfold files_Store_Read at G
 cases a0 with
 | none =>
  have hU := SH.unoptN X
  clear X
  obtain ⟨rfl, X⟩ := hU
  refine ws fun K100 hK100 => ?_
  refine x_m J rfl fun U J => ?_
  refine x_m J rfl fun U J => ?_
  refine wn (hK100 _ _ ?_)
  refine wp_seq_k fun K101 hK101 => ?_
  refine ws fun K102 hK102 => ?_
  refine x_m J rfl fun U J => ?_
  refine x_m J rfl fun U J => ?_
  replace X := SH.optN (obj66) X
  obtain ⟨y103, h104, G⟩ := bnd G
  refine x_call' en20 J (F_files_Store_look (L := L) none a1 none h104 X) (fun v U w hR J => ?_) rfl
  obtain ⟨rfl, X⟩ := hR
  refine x_m J rfl fun U J => ?_
  refine wn (hK102 _ _ ?_)
  refine ws fun K105 hK105 => ?_
  refine x_m J rfl fun U J => ?_
  refine x_v J (r_neI rfl (J.ev rfl) (J.ev rfl)) rfl fun U J => ?_
  refine wn (hK105 _ _ ?_)
  refine c_if J rfl (fun hb106 => ?_) fun hb106 => ?_
  ·replace G := ift hb106 G
   refine ws fun K107 hK107 => ?_
   refine x_m J rfl fun U J => ?_
   refine x_m J rfl fun U J => ?_
   refine x_m J rfl fun U J => ?_
   refine wn (hK107 _ _ ?_)
   refine wp_ret ?_
   replace X := SH.nil_own (d := (kI .u8)) (e := 5) X
   replace X := SH.optN (obj66) X
   replace X := X.drop 2 |>.pk 1
   cases G
   refine hQ _ _ ?_
   refine lv2 Tryz.results17 J rfl rfl ?_
   exact ⟨none, 0, 0, rfl, X⟩
  replace G := iff' hb106 G
  refine wp_skip ?_
  refine hK101 _ _ ?_
  refine ws fun K108 hK108 => ?_
  refine x_m J rfl fun U J => ?_
  refine x_m J rfl fun U J => ?_
  cases G
 | some x109 =>
  have hU := SH.unoptS X
  clear X
  obtain ⟨g110, rfl, X⟩ := hU
  obtain ⟨A111, n112, c113, X⟩ := obj66_open X
  refine ws fun K114 hK114 => ?_
  refine x_m J rfl fun U J => ?_
  refine x_m J rfl fun U J => ?_
  refine wn (hK114 _ _ ?_)
  refine wp_seq_k fun K115 hK115 => ?_
  refine ws fun K116 hK116 => ?_
  refine x_m J rfl fun U J => ?_
  refine x_m J rfl fun U J => ?_
  replace X := X.pk 1 |>.pk 1
  replace X := obj66_mk (x := x109) X
  replace X := SH.optS X
  obtain ⟨y117, h118, G⟩ := bnd G
  refine x_call' en20 J (F_files_Store_look (L := L) (some x109) a1 (some ⟨g110, 0, none⟩) h118 X) (fun v U w hR J => ?_) rfl
  obtain ⟨rfl, X⟩ := hR
  replace X := SH.unoptP X
  obtain ⟨A119, n120, c121, X⟩ := obj66_open X
  refine x_m J rfl fun U J => ?_
  refine wn (hK116 _ _ ?_)
  refine ws fun K122 hK122 => ?_
  refine x_m J rfl fun U J => ?_
  refine x_v J (r_neI rfl (J.ev rfl) (J.ev rfl)) rfl fun U J => ?_
  refine wn (hK122 _ _ ?_)
  refine c_if J rfl (fun hb123 => ?_) fun hb123 => ?_
  ·replace G := ift hb123 G
   refine ws fun K124 hK124 => ?_
   refine x_m J rfl fun U J => ?_
   refine x_m J rfl fun U J => ?_
   refine x_m J rfl fun U J => ?_
   refine wn (hK124 _ _ ?_)
   refine wp_ret ?_
   replace X := SH.nil_own (d := (kI .u8)) (e := 5) X
   replace X := X.pk 2 |>.pk 2
   replace X := obj66_mk (x := x109) X
   replace X := SH.optS X
   replace X := X.pk 1
   cases G
   refine hQ _ _ ?_
   refine lv2 Tryz.results17 J rfl rfl ?_
   exact ⟨none, 0, 0, rfl, X⟩
  replace G := iff' hb123 G
  refine wp_skip ?_
  refine hK115 _ _ ?_
  refine ws fun K125 hK125 => ?_
  refine x_m J rfl fun U J => ?_
  refine x_m J rfl fun U J => ?_
  replace X := X.pk 1 |>.pk 1
  obtain ⟨y126, h127, G⟩ := bnd G
  refine x_call' en21 J (F_files_Store_find (L := L) x109 a1 g110 A119 n120 c121 h127 X) (fun v U w hR J => ?_) rfl
  obtain ⟨rfl, X⟩ := hR
  refine x_m J rfl fun U J => ?_
  refine x_v J (r_extract rfl (J.ev rfl) rfl) rfl fun U J => ?_
  refine x_v J (r_extract rfl (J.ev rfl) rfl) rfl fun U J => ?_
  refine x_m J rfl fun U J => ?_
  refine x_m J rfl fun U J => ?_
  refine wn (hK125 _ _ ?_)
  refine wp_seq_k fun K128 hK128 => ?_
  refine ws fun K129 hK129 => ?_
  refine x_m J rfl fun U J => ?_
  refine x_v J (r_not rfl (J.ev rfl)) rfl fun U J => ?_
  refine wn (hK129 _ _ ?_)
  refine c_if J rfl (fun hb130 => ?_) fun hb130 => ?_
  ·replace G := ift hb130 G
   refine ws fun K131 hK131 => ?_
   refine x_m J rfl fun U J => ?_
   refine x_m J rfl fun U J => ?_
   refine wn (hK131 _ _ ?_)
   refine wp_ret ?_
   replace X := SH.nil_own (d := (kI .u8)) (e := 5) X
   replace X := X.pk 2 |>.pk 2
   replace X := obj66_mk (x := x109) X
   replace X := SH.optS X
   replace X := X.pk 1
   cases G
   refine hQ _ _ ?_
   refine lv2 Tryz.results17 J rfl rfl ?_
   exact ⟨none, 0, 0, rfl, X⟩
  replace G := iff' hb130 G
  refine wp_skip ?_
  refine hK128 _ _ ?_
  refine ws fun K132 hK132 => ?_
  refine x_m J rfl fun U J => ?_
  refine x_v J (r_nilCheck rfl (J.ev rfl)) rfl fun U J => ?_
  refine x_fab' fa66_0 J (fun U J => ?_) rfl
  refine x_ld' uu64 (X.cell 0 rfl 0 _ rfl) J (fun U J => ?_) rfl
  refine x_m J rfl fun U J => ?_
  obtain ⟨x133, h134, G⟩ := bnd G
  refine x_ia' uu64 sz72 (X.rd2L 1 rfl) h134 J (fun U J => ?_) rfl
  refine x_fae (m := y126.1.toNat * 3) fa72_1 J (fun U J => ?_) rfl rfl rfl rfl rfl
  replace X := X.pk 1
  obtain ⟨ps138, A135, n136, c137, h138, h139, X⟩ := own2_out X h134
  obtain ⟨cs, hV, hc140⟩ := el (X.rd 0 rfl) h139
  obtain rfl := hV
  refine x_ld' uu29 (hc140 1 _ rfl) J (fun U J => ?_) rfl
  obtain ⟨y141, h142, G⟩ := bnd G
  refine x_call' en35 J (F_slices_Clone_byte_byte (L := own kp72 72 A119 n120 c121 ps138 :: own (kI .u8) 5 A135 n136 c137 x133.f1 :: rows (kI .u8) 5 (fun x : S72 => x.f1) (ps138.eraseIdx y126.1.toNat) :: blk g110 66 [.slice A119 n120 c121, .int .i64 x109.f1, .int .i64 x109.f2, .bool x109.f3, .int .i64 x109.f4] :: L) x133.f1 A135 n136 c137 h142 (RdL.own 1 rfl (X.dropN 0)) X) (fun v U w hR J => ?_) rfl
  obtain ⟨B143, m144, d145, rfl, X⟩ := hR
  refine x_m J rfl fun U J => ?_
  refine x_m J rfl fun U J => ?_
  refine wn (hK132 _ _ ?_)
  refine wp_ret ?_
  replace X := X.pk 3 |>.pk 3 |>.pk 3
  replace X := own2_in0 (g := (fun x : S72 => x.f1)) (x := x133) h138 h139 X
  replace X := X.pk 2
  replace X := obj66_mk (x := x109) X
  replace X := SH.optS X
  replace X := X.pk 1
  cases G
  refine hQ _ _ ?_
  refine lv2 Tryz.results17 J rfl rfl ?_
  exact ⟨B143, m144, d145, rfl, X⟩
noncomputable section
set_option linter.unusedSimpArgs false
def files_Store_Sync_1 (a0 : Int) (a1 : S66) : Option (S66) :=
  (at_ a1.f0 a0).bind fun x104 => (some (⟨a1.f0.set a0.toNat (⟨x104.f0, x104.f1, (x104.f1.length : Int)⟩ : S72), a1.f1, a1.f2, a1.f3, a1.f4⟩ : S66))
def files_Store_Delete_1 (a0 : Int) (a1 : S66) : Option (S66) :=
  ltt (IntKind.i64.wrap (a0 + 1)) fun x104 => ((del_ a1.f0 a0 x104).bind fun y106 => (some (⟨y106, a1.f1, a1.f2, a1.f3, a1.f4⟩ : S66)))
def files_Store_Rename_1 (a0 : Int) (a1 : S66) (a2 : (List UInt8)) : Option (S66 × (List UInt8)) :=
  (at_ a1.f0 a0).bind fun x105 => (ltt (IntKind.i64.wrap (a0 + 1)) fun x116 => (chk (x116 = a0 + 1) ((files_Store_find (⟨a1.f0.eraseIdx a0.toNat, a1.f1, a1.f2, a1.f3, a1.f4⟩ : S66) a2).bind fun y124 => (if y124.2 = true then ((at_ (a1.f0.eraseIdx a0.toNat) y124.1).bind fun x128 => (some ((⟨(a1.f0.eraseIdx a0.toNat).set y124.1.toNat (⟨a2, x105.f1, x105.f2⟩ : S72), a1.f1, a1.f2, a1.f3, a1.f4⟩ : S66), a2))) else ((ins_ (a1.f0.eraseIdx a0.toNat) y124.1 [(⟨a2, x105.f1, x105.f2⟩ : S72)]).bind fun y138 => (some ((⟨y138, a1.f1, a1.f2, a1.f3, a1.f4⟩ : S66), a2)))))))
end
theorem F_files_Store_Sync_1 {r : World} {L : List HP} {w : World} (a0 : Int) (a1 : S66) (g1 : Nat) (h1 : Nat) {y : (S66)} (G : files_Store_Sync_1 a0 a1 = some y) (X : SH r (blk g1 24 [.pointer (some ⟨h1, 0, none⟩)] :: obj66 h1 a1 :: L) w) :
  Ret Tryz.prog 85 #[.int .i64 a0, (pP g1)] w fun v w' => v = .tuple #[] ∧ SH r (blk g1 24 [.pointer (some ⟨h1, 0, none⟩)] :: obj66 h1 y :: L) w' := by
 refine enter Tryz.func85 rfl Tryz.ntmps85 [(0, .int .i64 a0), (1, (pP g1))] rfl (by simp) ?_
 intro U J Qf hQ hQn
 unfold files_Store_Sync_1 at G
 replace X := X.pk 1
 obtain ⟨A100, n101, c102, X⟩ := obj66_open X
 refine wp_draw [0, 1, 3, 7, 0, 0, 32, 96, 224, 0, 992, 2016, 4064, 8160, 16383, 32767, 65535] [16] rfl J X (by kernel_rfl) (by kernel_rfl) (by kernel_rfl) (by kernel_rfl) fun w X => ?_
 obtain ⟨x103, h104, G⟩ := bnd G
 have hS_106 := X
 replace X := X.pk 1
 obtain ⟨ps107, A105, n106, c107, h108, h109, X⟩ := own2_out X h104
 obtain ⟨cs, hV, hc110⟩ := el (X.rd 0 rfl) h109
 obtain rfl := hV
 refine ⟨[(0, (pP h1)), (1, (pP h1)), (2, (pP h1)), (3, .slice A100 n101 c102), (4, .int .i64 a0), (5, (pP h1)), (6, (pP h1)), (7, (pP h1)), (8, .slice A100 n101 c102), (9, .int .i64 a0), (10, .pointer (some (ea A100 (a0.toNat * 3)))), (11, .pointer (some (ea A100 (a0.toNat * 3 + 1)))), (12, .slice A105 n106 c107), (13, .int .i64 (x103.f1.length : Int)), (14, .pointer (some (ea A100 (a0.toNat * 3)))), (15, .pointer (some (ea A100 (a0.toNat * 3 + 2))))], ?_⟩
 refine dF [0, 1, 2, 3, 4, 5, 6, 7, 8, 9, 10, 11, 12, 13, 14, 15] [16] (by kernel_rfl) ⟨pt [(1, (pP g1))] rfl (fun U J => y_ld uu24 (hS_106.cell 2 rfl 0 _ rfl) J rfl rfl rfl), pt [(3, (pP h1))] rfl (fun U J => r_nilCheck rfl (J.ev rfl)), pt [(4, (pP h1))] rfl (fun U J => y_fab fa66_0 J rfl rfl), pt [(5, (pP h1))] rfl (fun U J => y_ld uu64 (hS_106.cell 0 rfl 0 _ rfl) J rfl rfl rfl), pm rfl, pt [(1, (pP g1))] rfl (fun U J => y_ld uu24 (hS_106.cell 2 rfl 0 _ rfl) J rfl rfl rfl), pt [(8, (pP h1))] rfl (fun U J => r_nilCheck rfl (J.ev rfl)), pt [(9, (pP h1))] rfl (fun U J => y_fab fa66_0 J rfl rfl), pt [(10, (pP h1))] rfl (fun U J => y_ld uu64 (hS_106.cell 0 rfl 0 _ rfl) J rfl rfl rfl), pm rfl, pt [(11, .slice A100 n101 c102), (12, .int .i64 a0)] rfl (fun U J => y_ia uu64 sz72 (hS_106.rd2L 1 rfl) h104 J rfl rfl rfl), pt [(13, .pointer (some (ea A100 (a0.toNat * 3))))] rfl (fun U J => y_fae (m := a0.toNat * 3) fa72_1 J rfl rfl), pt [(14, .pointer (some (ea A100 (a0.toNat * 3 + 1))))] rfl (fun U J => y_ld uu29 (hc110 1 _ rfl) J rfl rfl rfl), pt [(15, .slice A105 n106 c107)] rfl (fun U J => y_len uu29 (X.rd 1 rfl).2.1 J rfl rfl), pt [(6, .slice A100 n101 c102), (7, .int .i64 a0)] rfl (fun U J => y_ia uu64 sz72 (X.rdp 0 rfl h108) h104 J rfl rfl rfl), pt [(17, .pointer (some (ea A100 (a0.toNat * 3))))] rfl (fun U J => y_fae (m := a0.toNat * 3) fa72_2 J rfl rfl), trivial⟩ ⟨et [(16, .int .i64 (x103.f1.length : Int)), (18, .pointer (some (ea A100 (a0.toNat * 3 + 2))))] rfl (fun U J K hK => ?_), trivial⟩
 refine z_sto (z' := ((⟨x103.f0, x103.f1, (x103.f1.length : Int)⟩ : S72), A105, n106, c107)) (off := 2) (vs := [.int .i64 (x103.f1.length : Int)]) 0 sz3 J X rfl (at_some h109).2.2 (fun c h => by cases h; rfl) (fun  w X => ?_) rfl rfl rfl rfl rfl rfl
 replace X := X.pk 2 |>.pk 2 |>.pk 2
 replace X := own2_in (g := (fun x : S72 => x.f1)) (x' := (⟨x103.f0, x103.f1, (x103.f1.length : Int)⟩ : S72)) h108 h109 X
 refine hK _ [] _ rfl ?_
 refine dEnd [] (by kernel_rfl) trivial ⟨by kernel_rfl, by kernel_rfl⟩ [(1, (pP g1))] rfl (fun U J => ?_)
 replace X := X.pk 1
 replace X := obj66_mk (x := (⟨a1.f0.set a0.toNat (⟨x103.f0, x103.f1, (x103.f1.length : Int)⟩ : S72), a1.f1, a1.f2, a1.f3, a1.f4⟩ : S66)) X
 replace X := X.pk 1
 cases G
 refine hQn _ _ ?_
 refine lv0n Tryz.results85 J ?_
 exact ⟨rfl, X⟩
theorem F_files_Store_Delete_1 {r : World} {L : List HP} {w : World} (a0 : Int) (a1 : S66) (g1 : Nat) (h1 : Nat) {y : (S66)} (G : files_Store_Delete_1 a0 a1 = some y) (X : SH r (blk g1 24 [.pointer (some ⟨h1, 0, none⟩)] :: obj66 h1 a1 :: L) w) :
  Ret Tryz.prog 33 #[.int .i64 a0, (pP g1)] w fun v w' => v = .tuple #[] ∧ SH r (blk g1 24 [.pointer (some ⟨h1, 0, none⟩)] :: obj66 h1 y :: L) w' := by
 refine enter Tryz.func33 rfl Tryz.ntmps33 [(0, .int .i64 a0), (1, (pP g1))] rfl (by simp) ?_
 intro U J Qf hQ hQn
 unfold files_Store_Delete_1 at G
 replace X := X.pk 1
 obtain ⟨A100, n101, c102, X⟩ := obj66_open X
 refine wp_draw [0, 0, 2, 6, 14, 0, 0, 64, 254, 511, 1023, 2047] [8, 11] rfl J X (by kernel_rfl) (by kernel_rfl) (by kernel_rfl) (by kernel_rfl) fun w X => ?_
 obtain ⟨x103, h104, G⟩ := ltt_ G
 refine ⟨[(0, (pP h1)), (1, (pP h1)), (2, (pP h1)), (3, (pP h1)), (4, .slice A100 n101 c102), (5, .int .i64 a0), (6, .int .i64 a0), (7, .int .i64 x103)], ?_⟩
 refine dF [0, 1, 2, 3, 4, 5, 6, 7] [8] (by kernel_rfl) ⟨pt [(1, (pP g1))] rfl (fun U J => y_ld uu24 (X.cell 2 rfl 0 _ rfl) J rfl rfl rfl), pt [(1, (pP g1))] rfl (fun U J => y_ld uu24 (X.cell 2 rfl 0 _ rfl) J rfl rfl rfl), pt [(4, (pP h1))] rfl (fun U J => r_nilCheck rfl (J.ev rfl)), pt [(5, (pP h1))] rfl (fun U J => y_fab fa66_0 J rfl rfl), pt [(6, (pP h1))] rfl (fun U J => y_ld uu64 (X.cell 0 rfl 0 _ rfl) J rfl rfl rfl), pm rfl, pm rfl, pt [(9, .int .i64 a0)] rfl (fun U J => (rv_i h104 (r_add rfl (J.ev rfl) (J.ev rfl)) : RunV _ _ _ _ (.int .i64 x103))), trivial⟩ ⟨et [(7, .slice A100 n101 c102), (8, .int .i64 a0), (10, .int .i64 x103)] rfl (fun U J K hK => ?_), trivial⟩
 replace X := X.pk 1
 obtain ⟨y105, h106, G⟩ := bnd G
 refine z_call' en34 J (F_del (L := blk h1 66 [.slice A100 n101 c102, .int .i64 a1.f1, .int .i64 a1.f2, .bool a1.f3, .int .i64 a1.f4] :: blk g1 24 [.pointer (some ⟨h1, 0, none⟩)] :: L) a1.f0 a0 x103 h106 X) (fun v w hR => ?_) rfl
 obtain ⟨A107, n108, c109, rfl, X⟩ := hR
 refine hK _ [(9, (pP h1)), (10, (pP h1))] _ rfl ?_
 refine dF [0, 9, 10] [11] (by kernel_rfl) ⟨pt [(1, (pP g1))] rfl (fun U J => y_ld uu24 (X.cell 2 rfl 0 _ rfl) J rfl rfl rfl), pt [(3, (pP h1))] rfl (fun U J => r_nilCheck rfl (J.ev rfl)), pt [(12, (pP h1))] rfl (fun U J => y_fab fa66_0 J rfl rfl), trivial⟩ ⟨et [(11, .slice A107 n108 c109), (13, (pP h1))] rfl (fun U J K hK => ?_), trivial⟩
 refine z_stb' 1 sz64 J X rfl (fun  w X => ?_) rfl
 refine hK _ [] _ rfl ?_
 refine dEnd [] (by kernel_rfl) trivial ⟨by kernel_rfl, by kernel_rfl⟩ [(1, (pP g1))] rfl (fun U J => ?_)
 replace X := X.pk 1 |>.pk 1
 replace X := obj66_mk (x := (⟨y105, a1.f1, a1.f2, a1.f3, a1.f4⟩ : S66)) X
 replace X := X.pk 1
 cases G
 refine hQn _ _ ?_
 refine lv0n Tryz.results33 J ?_
 exact ⟨rfl, X⟩
theorem F_files_Store_Rename_1 {r : World} {L : List HP} {w : World} (a0 : Int) (a1 : S66) (a2 : (List UInt8)) (g1 : Nat) (h1 : Nat) (g2 : Nat) {y : (S66 × (List UInt8))} (G : files_Store_Rename_1 a0 a1 a2 = some y) (X : SH r (blk g1 24 [.pointer (some ⟨h1, 0, none⟩)] :: obj66 h1 a1 :: obj9 g2 a2 :: L) w) :
  Ret Tryz.prog 72 #[.int .i64 a0, (pP g1), (pP g2)] w fun v w' => v = .tuple #[] ∧ SH r (blk g1 24 [.pointer (some ⟨h1, 0, none⟩)] :: obj66 h1 y.1 :: obj9 g2 y.2 :: L) w' := by
 refine enter Tryz.func72 rfl Tryz.ntmps72 [(0, .int .i64 a0), (1, (pP g1)), (2, (pP g2))] rfl (by simp) ?_
 intro U J Qf hQ hQn
 unfold files_Store_Rename_1 at G
 replace X := X.pk 1
 obtain ⟨A100, n101, c102, X⟩ := obj66_open X
 replace X := X.pk 3
 replace X := obj9_open X
 refine ws fun K103 hK103 => ?_
 refine x_ld' uu24 (X.cell 3 rfl 0 _ rfl) J (fun U J => ?_) rfl
 refine x_v J (r_nilCheck rfl (J.ev rfl)) rfl fun U J => ?_
 refine x_fab' fa66_0 J (fun U J => ?_) rfl
 refine x_ld' uu64 (X.cell 1 rfl 0 _ rfl) J (fun U J => ?_) rfl
 refine x_m J rfl fun U J => ?_
 obtain ⟨x104, h105, G⟩ := bnd G
 refine x_ia' uu64 sz72 (X.rd2L 2 rfl) h105 J (fun U J => ?_) rfl
 replace X := X.pk 2
 obtain ⟨ps107, A106, n107, c108, h109, h110, X⟩ := own2_out X h105
 obtain ⟨cs, hV, hc111⟩ := el (X.rd 0 rfl) h110
 obtain rfl := hV
 refine x_lda' (cs := [str x104.f0, .slice A106 n107 c108, .int .i64 x104.f2]) uu72 sz72 (fun j u h => by rw [ea_add]; exact hc111 _ _ h) J (fun U J => ?_) rfl
 refine x_alloc' (cs := [str [], .slice none 0 0, .int .i64 0]) zr72 J X (fun g112 U w X J => ?_) rfl
 refine x_stb' 0 sz72 J X rfl (fun  U w X J => ?_) rfl
 refine wn (hK103 _ _ ?_)
 refine wp_seq_k fun K113 hK113 => ?_
 refine wp_draw [0, 0, 2, 6, 14, 0, 0, 64, 254, 511, 1023, 2047] [8, 11] rfl J X (by kernel_rfl) (by kernel_rfl) (by kernel_rfl) (by kernel_rfl) fun w X => ?_
 obtain ⟨x114, h115, G⟩ := ltt_ G
 refine ⟨[(0, (pP h1)), (1, (pP h1)), (2, (pP h1)), (3, (pP h1)), (4, .slice A100 n101 c102), (5, .int .i64 a0), (6, .int .i64 a0), (7, .int .i64 x114)], ?_⟩
 refine dF [0, 1, 2, 3, 4, 5, 6, 7] [8] (by kernel_rfl) ⟨pt [(1, (pP g1))] rfl (fun U J => y_ld uu24 (X.cell 6 rfl 0 _ rfl) J rfl rfl rfl), pt [(1, (pP g1))] rfl (fun U J => y_ld uu24 (X.cell 6 rfl 0 _ rfl) J rfl rfl rfl), pt [(15, (pP h1))] rfl (fun U J => r_nilCheck rfl (J.ev rfl)), pt [(16, (pP h1))] rfl (fun U J => y_fab fa66_0 J rfl rfl), pt [(17, (pP h1))] rfl (fun U J => y_ld uu64 (X.cell 5 rfl 0 _ rfl) J rfl rfl rfl), pm rfl, pm rfl, pt [(20, .int .i64 a0)] rfl (fun U J => (rv_i h115 (r_add rfl (J.ev rfl) (J.ev rfl)) : RunV _ _ _ _ (.int .i64 x114))), trivial⟩ ⟨et [(18, .slice A100 n101 c102), (19, .int .i64 a0), (21, .int .i64 x114)] rfl (fun U J K hK => ?_), trivial⟩
 replace X := X.pk 3 |>.pk 2
 obtain ⟨h116, G⟩ := chk_some G
 refine z_call' en34 J (F_delj (L := blk g112 72 [str x104.f0, .slice A106 n107 c108, .int .i64 x104.f2] :: own (kI .u8) 5 A106 n107 c108 x104.f1 :: blk g2 9 [str a2] :: blk h1 66 [.slice A100 n101 c102, .int .i64 a1.f1, .int .i64 a1.f2, .bool a1.f3, .int .i64 a1.f4] :: blk g1 24 [.pointer (some ⟨h1, 0, none⟩)] :: L) h116 h109 h110 X) (fun v w hR => ?_) rfl
 obtain ⟨A117, n118, c119, rfl, X⟩ := hR
 refine hK _ [(9, (pP h1)), (10, (pP h1))] _ rfl ?_
 refine dF [0, 9, 10] [11] (by kernel_rfl) ⟨pt [(1, (pP g1))] rfl (fun U J => y_ld uu24 (X.cell 5 rfl 0 _ rfl) J rfl rfl rfl), pt [(14, (pP h1))] rfl (fun U J => r_nilCheck rfl (J.ev rfl)), pt [(23, (pP h1))] rfl (fun U J => y_fab fa66_0 J rfl rfl), trivial⟩ ⟨et [(22, .slice A117 n118 c119), (24, (pP h1))] rfl (fun U J K hK => ?_), trivial⟩
 refine z_stb' 4 sz64 J X rfl (fun  w X => ?_) rfl
 refine hK _ [] _ rfl ?_
 refine dEnd [] (by kernel_rfl) trivial ⟨by kernel_rfl, by kernel_rfl⟩ [(1, (pP g1)), (2, (pP g2)), (4, (pP g112))] rfl (fun U J => ?_)
 refine hK113 _ _ ?_
 refine ws fun K120 hK120 => ?_
 refine x_ld' uu9 (X.cell 4 rfl 0 _ rfl) J (fun U J => ?_) rfl
 refine x_fab' fa72_0 J (fun U J => ?_) rfl
 refine x_stb' 2 sz9 J X rfl (fun  U w X J => ?_) rfl
 refine wn (hK120 _ _ ?_)
 refine ws fun K121 hK121 => ?_
 refine x_ld' uu24 (X.cell 5 rfl 0 _ rfl) J (fun U J => ?_) rfl
 refine x_ld' uu9 (X.cell 4 rfl 0 _ rfl) J (fun U J => ?_) rfl
 replace X := X.pk 2 |>.pk 2
 obtain ⟨y122, h123, G⟩ := bnd G
 refine x_call' en21 J (F_files_Store_find (L := blk g112 72 [str a2, .slice A106 n107 c108, .int .i64 x104.f2] :: own (kI .u8) 5 A106 n107 c108 x104.f1 :: blk g2 9 [str a2] :: blk g1 24 [.pointer (some ⟨h1, 0, none⟩)] :: L) (⟨a1.f0.eraseIdx a0.toNat, a1.f1, a1.f2, a1.f3, a1.f4⟩ : S66) a2 h1 A117 n118 c119 h123 X) (fun v U w hR J => ?_) rfl
 obtain ⟨rfl, X⟩ := hR
 refine x_m J rfl fun U J => ?_
 refine x_v J (r_extract rfl (J.ev rfl) rfl) rfl fun U J => ?_
 refine x_v J (r_extract rfl (J.ev rfl) rfl) rfl fun U J => ?_
 refine x_m J rfl fun U J => ?_
 refine x_m J rfl fun U J => ?_
 refine wn (hK121 _ _ ?_)
 refine ws fun K124 hK124 => ?_
 refine x_m J rfl fun U J => ?_
 refine wn (hK124 _ _ ?_)
 refine c_if J rfl (fun hb125 => ?_) fun hb125 => ?_
 ·replace G := ift hb125 G
  refine wp_draw [0, 1, 3, 7, 0, 0, 63, 127] [7] rfl J X (by kernel_rfl) (by kernel_rfl) (by kernel_rfl) (by kernel_rfl) fun w X => ?_
  obtain ⟨x126, h127, G⟩ := bnd G
  refine ⟨[(0, (pP h1)), (1, (pP h1)), (2, (pP h1)), (3, .slice A117 n118 c119), (4, .int .i64 y122.1), (5, .agg #[str a2, .slice A106 n107 c108, .int .i64 x104.f2]), (6, .pointer (some (ea A117 (y122.1.toNat * 3))))], ?_⟩
  refine dF [0, 1, 2, 3, 4, 5, 6] [7] (by kernel_rfl) ⟨pt [(1, (pP g1))] rfl (fun U J => y_ld uu24 (X.cell 5 rfl 0 _ rfl) J rfl rfl rfl), pt [(34, (pP h1))] rfl (fun U J => r_nilCheck rfl (J.ev rfl)), pt [(35, (pP h1))] rfl (fun U J => y_fab fa66_0 J rfl rfl), pt [(36, (pP h1))] rfl (fun U J => y_ld uu64 (X.cell 0 rfl 0 _ rfl) J rfl rfl rfl), pm rfl, pt [(4, (pP g112))] rfl (fun U J => y_lda (ad := ⟨g112, 0, none⟩) (cs := [str a2, .slice A106 n107 c108, .int .i64 x104.f2]) uu72 sz72 (fun j u h => by rw [add_mk, Nat.zero_add]; exact X.cell 2 rfl j u h) J rfl rfl rfl), pt [(37, .slice A117 n118 c119), (38, .int .i64 y122.1)] rfl (fun U J => y_ia uu64 sz72 (X.rd2L 1 rfl) h127 J rfl rfl rfl), trivial⟩ ⟨et [(39, .agg #[str a2, .slice A106 n107 c108, .int .i64 x104.f2]), (40, .pointer (some (ea A117 (y122.1.toNat * 3))))] rfl (fun U J K hK => ?_), trivial⟩
  have hS_130 := X
  replace X := X.pk 1
  obtain ⟨ps131, A128, n129, c130, h131, h132, X⟩ := own2_out X h127
  refine z_sto (z' := ((⟨a2, x104.f1, x104.f2⟩ : S72), A106, n107, c108)) (off := 0) (vs := [str a2, .slice A106 n107 c108, .int .i64 x104.f2]) 0 sz72 J X rfl (at_some h132).2.2 (fun c h => by cases h; rfl) (fun  w X => ?_) rfl rfl rfl rfl rfl rfl
  replace X := X.pk 2 |>.pk 5 |>.pk 2
  replace X := own2_in (g := (fun x : S72 => x.f1)) (x' := (⟨a2, x104.f1, x104.f2⟩ : S72)) h131 h132 X
  refine hK _ [] _ rfl ?_
  refine dEnd [] (by kernel_rfl) trivial ⟨by kernel_rfl, by kernel_rfl⟩ [(1, (pP g1)), (2, (pP g2))] rfl (fun U J => ?_)
  replace X := X.pk 2
  replace X := obj66_mk (x := (⟨(a1.f0.eraseIdx a0.toNat).set y122.1.toNat (⟨a2, x104.f1, x104.f2⟩ : S72), a1.f1, a1.f2, a1.f3, a1.f4⟩ : S66)) X
  replace X := X.pk 3
  replace X := obj9_mk (x := a2) X
  replace X := X.drop 2 |>.drop 2 |>.pk 1 |>.pk 2
  cases G
  refine hQn _ _ ?_
  refine lv0n Tryz.results72 J ?_
  exact ⟨rfl, X⟩
 replace G := iff' hb125 G
 refine wp_draw [0, 0, 2, 6, 14, 0, 0, 64, 254, 511, 1023, 2047] [7, 8, 11] rfl J X (by kernel_rfl) (by kernel_rfl) (by kernel_rfl) (by kernel_rfl) fun w X => ?_
 refine ⟨[(0, (pP h1)), (1, (pP h1)), (2, (pP h1)), (3, (pP h1)), (4, .slice A117 n118 c119), (5, .int .i64 y122.1), (6, .agg #[str a2, .slice A106 n107 c108, .int .i64 x104.f2])], ?_⟩
 refine dF [0, 1, 2, 3, 4, 5, 6] [7] (by kernel_rfl) ⟨pt [(1, (pP g1))] rfl (fun U J => y_ld uu24 (X.cell 5 rfl 0 _ rfl) J rfl rfl rfl), pt [(1, (pP g1))] rfl (fun U J => y_ld uu24 (X.cell 5 rfl 0 _ rfl) J rfl rfl rfl), pt [(42, (pP h1))] rfl (fun U J => r_nilCheck rfl (J.ev rfl)), pt [(43, (pP h1))] rfl (fun U J => y_fab fa66_0 J rfl rfl), pt [(44, (pP h1))] rfl (fun U J => y_ld uu64 (X.cell 0 rfl 0 _ rfl) J rfl rfl rfl), pm rfl, pt [(4, (pP g112))] rfl (fun U J => y_lda (ad := ⟨g112, 0, none⟩) (cs := [str a2, .slice A106 n107 c108, .int .i64 x104.f2]) uu72 sz72 (fun j u h => by rw [add_mk, Nat.zero_add]; exact X.cell 2 rfl j u h) J rfl rfl rfl), trivial⟩ ⟨et [(47, .agg #[str a2, .slice A106 n107 c108, .int .i64 x104.f2])] rfl (fun U J K hK => ?_), trivial⟩
 replace X := X.pk 3
 refine z_bsl' (d := kp72) (e := 72) (ps := #[(0, .agg #[str a2, .slice A106 n107 c108, .int .i64 x104.f2])]) (cells := [str a2, .slice A106 n107 c108, .int .i64 x104.f2]) (xs := [((⟨a2, x104.f1, x104.f2⟩ : S72), A106, n107, c108)]) (fun w => by kernel_rfl) rfl ⟨[str a2, .slice A106 n107 c108, .int .i64 x104.f2], _, rfl, rfl, rfl⟩ J X (fun g133 w X => ?_) rfl
 replace X := own2_one (g := (fun x : S72 => x.f1)) (x := (⟨a2, x104.f1, x104.f2⟩ : S72)) X
 refine hK _ [] _ rfl ?_
 refine dF [0, 1, 2, 3, 4, 5] [8] (by kernel_rfl) ⟨pt [(1, (pP g1))] rfl (fun U J => y_ld uu24 (X.cell 5 rfl 0 _ rfl) J rfl rfl rfl), pt [(1, (pP g1))] rfl (fun U J => y_ld uu24 (X.cell 5 rfl 0 _ rfl) J rfl rfl rfl), pt [(42, (pP h1))] rfl (fun U J => r_nilCheck rfl (J.ev rfl)), pt [(43, (pP h1))] rfl (fun U J => y_fab fa66_0 J rfl rfl), pt [(44, (pP h1))] rfl (fun U J => y_ld uu64 (X.cell 1 rfl 0 _ rfl) J rfl rfl rfl), pm rfl, trivial⟩ ⟨et [(45, .slice A117 n118 c119), (46, .int .i64 y122.1), (48, .slice (some ⟨g133, 0, none⟩) 1 1)] rfl (fun U J K hK => ?_), trivial⟩
 replace X := X.pk 2
 obtain ⟨y134, h135, G⟩ := bnd G
 refine z_call' en24 J (F_ins (L := blk h1 66 [.slice A117 n118 c119, .int .i64 a1.f1, .int .i64 a1.f2, .bool a1.f3, .int .i64 a1.f4] :: blk g112 72 [str a2, .slice A106 n107 c108, .int .i64 x104.f2] :: blk g2 9 [str a2] :: blk g1 24 [.pointer (some ⟨h1, 0, none⟩)] :: L) (a1.f0.eraseIdx a0.toNat) y122.1 [(⟨a2, x104.f1, x104.f2⟩ : S72)] h135 X) (fun v w hR => ?_) rfl
 obtain ⟨A136, n137, c138, rfl, X⟩ := hR
 refine hK _ [(9, (pP h1)), (10, (pP h1))] _ rfl ?_
 refine dF [0, 9, 10] [11] (by kernel_rfl) ⟨pt [(1, (pP g1))] rfl (fun U J => y_ld uu24 (X.cell 4 rfl 0 _ rfl) J rfl rfl rfl), pt [(41, (pP h1))] rfl (fun U J => r_nilCheck rfl (J.ev rfl)), pt [(50, (pP h1))] rfl (fun U J => y_fab fa66_0 J rfl rfl), trivial⟩ ⟨et [(49, .slice A136 n137 c138), (51, (pP h1))] rfl (fun U J K hK => ?_), trivial⟩
 refine z_stb' 1 sz64 J X rfl (fun  w X => ?_) rfl
 refine hK _ [] _ rfl ?_
 refine dEnd [] (by kernel_rfl) trivial ⟨by kernel_rfl, by kernel_rfl⟩ [(1, (pP g1)), (2, (pP g2))] rfl (fun U J => ?_)
 replace X := X.pk 1 |>.pk 1
 replace X := obj66_mk (x := (⟨y134, a1.f1, a1.f2, a1.f3, a1.f4⟩ : S66)) X
 replace X := X.pk 2
 replace X := obj9_mk (x := a2) X
 replace X := X.drop 2 |>.pk 1 |>.pk 2
 cases G
 refine hQn _ _ ?_
 refine lv0n Tryz.results72 J ?_
 exact ⟨rfl, X⟩
noncomputable section
set_option linter.unusedSimpArgs false
def files_change_Sync (a1 : (List UInt8)) (a70 : S66) : Option (Int × S66) :=
  (files_Store_look (some a70) a1).bind fun y107 => (if (y107 != 0) = true then (some (y107, a70)) else ((files_Store_find a70 a1).bind fun y118 => (if (!y118.2) = true then (some (5, a70)) else ((files_Store_begin a70).bind fun y126 => (if (!y126.1) = true then (some (9, y126.2)) else ((files_Store_Sync_1 y118.1 y126.2).bind fun y134 => (some (0, y134))))))))
def files_change_Delete (a1 : (List UInt8)) (a70 : S66) : Option (Int × S66) :=
  (files_Store_look (some a70) a1).bind fun y107 => (if (y107 != 0) = true then (some (y107, a70)) else ((files_Store_find a70 a1).bind fun y118 => (if (!y118.2) = true then (some (5, a70)) else ((files_Store_begin a70).bind fun y126 => (if (!y126.1) = true then (some (9, y126.2)) else ((files_Store_Delete_1 y118.1 y126.2).bind fun y134 => (some (0, y134))))))))
def files_change_Rename (a1 : (List UInt8)) (a70 : S66) (a71 : (List UInt8)) : Option (Int × S66 × (List UInt8)) :=
  (files_Store_look (some a70) a1).bind fun y107 => (if (y107 != 0) = true then (some (y107, a70, a71)) else ((files_Store_find a70 a1).bind fun y118 => (if (!y118.2) = true then (some (5, a70, a71)) else ((files_Store_begin a70).bind fun y126 => (if (!y126.1) = true then (some (9, y126.2, a71)) else ((files_Store_Rename_1 y118.1 y126.2 a71).bind fun y134 => (some (0, y134.1, y134.2))))))))
def files_Store_Sync (a0 : (Option S66)) (a1 : (List UInt8)) : Option (Int × (Option S66)) :=
  match a0 with | none => (none) | some x101 => ((files_change_Sync a1 x101).bind fun y112 => (some (y112.1, some y112.2)))
def files_Store_Delete (a0 : (Option S66)) (a1 : (List UInt8)) : Option (Int × (Option S66)) :=
  match a0 with | none => (none) | some x101 => ((files_change_Delete a1 x101).bind fun y112 => (some (y112.1, some y112.2)))
def files_Store_Rename (a0 : (Option S66)) (a1 : (List UInt8)) (a2 : (List UInt8)) : Option (Int × (Option S66)) :=
  match a0 with | none => ((files_Store_look none a2).bind fun y110 => (if (y110 != 0) = true then (some (y110, none)) else (none))) | some x101 => ((files_Form a1).bind fun y126 => (if (!y126) = true then (some (1, some x101)) else ((files_Store_look (some x101) a2).bind fun y132 => (if (y132 != 0) = true then (some (y132, some x101)) else ((files_change_Rename a1 x101 a2).bind fun y143 => (some (y143.1, some y143.2.1)))))))
end
theorem F_files_change_Sync {r : World} {L : List HP} {w : World} (a1 : (List UInt8)) (a70 : S66) (g70 : Nat) (h70 : Nat) {y : (Int × S66)} (G : files_change_Sync a1 a70 = some y) (X : SH r (blk g70 24 [.pointer (some ⟨h70, 0, none⟩)] :: obj66 h70 a70 :: L) w) :
  Ret Tryz.prog 32 #[.pointer (some ⟨h70, 0, none⟩), str a1, .func (.func 85) #[] #[.pointer (some ⟨g70, 0, none⟩)]] w fun v w' => v = .int .i64 y.1 ∧ SH r (blk g70 24 [.pointer (some ⟨h70, 0, none⟩)] :: obj66 h70 y.2 :: L) w' := by
 refine enter Tryz.func32 rfl Tryz.ntmps32 [(0, (pP h70)), (1, str a1), (2, .func (.func 85) #[] #[.pointer (some ⟨g70, 0, none⟩)])] rfl (by simp) ?_
 intro U J Qf hQ hQn
 unfold files_change_Sync at G
 replace X := X.pk 1
 obtain ⟨A100, n101, c102, X⟩ := obj66_open X
 refine ws fun K103 hK103 => ?_
 refine x_m J rfl fun U J => ?_
 refine wn (hK103 _ _ ?_)
 refine wp_seq_k fun K104 hK104 => ?_
 refine ws fun K105 hK105 => ?_
 refine x_m J rfl fun U J => ?_
 refine x_m J rfl fun U J => ?_
 replace X := X.pk 1 |>.pk 1
 replace X := obj66_mk (x := a70) X
 replace X := SH.optS X
 obtain ⟨y106, h107, G⟩ := bnd G
 refine x_call' en20 J (F_files_Store_look (L := blk g70 24 [.pointer (some ⟨h70, 0, none⟩)] :: L) (some a70) a1 (some ⟨h70, 0, none⟩) h107 X) (fun v U w hR J => ?_) rfl
 obtain ⟨rfl, X⟩ := hR
 replace X := SH.unoptP X
 obtain ⟨A108, n109, c110, X⟩ := obj66_open X
 refine x_m J rfl fun U J => ?_
 refine wn (hK105 _ _ ?_)
 refine ws fun K111 hK111 => ?_
 refine x_m J rfl fun U J => ?_
 refine x_v J (r_neI rfl (J.ev rfl) (J.ev rfl)) rfl fun U J => ?_
 refine wn (hK111 _ _ ?_)
 refine c_if J rfl (fun hb112 => ?_) fun hb112 => ?_
 ·replace G := ift hb112 G
  refine ws fun K113 hK113 => ?_
  refine x_m J rfl fun U J => ?_
  refine x_m J rfl fun U J => ?_
  refine wn (hK113 _ _ ?_)
  refine wp_ret ?_
  replace X := X.pk 1 |>.pk 1
  replace X := obj66_mk (x := a70) X
  replace X := X.pk 1
  cases G
  refine hQ _ _ ?_
  refine lv Tryz.results32 J rfl ?_
  exact ⟨rfl, X⟩
 replace G := iff' hb112 G
 refine wp_skip ?_
 refine hK104 _ _ ?_
 refine ws fun K114 hK114 => ?_
 refine x_m J rfl fun U J => ?_
 refine x_m J rfl fun U J => ?_
 replace X := X.pk 1 |>.pk 1
 obtain ⟨y115, h116, G⟩ := bnd G
 refine x_call' en21 J (F_files_Store_find (L := blk g70 24 [.pointer (some ⟨h70, 0, none⟩)] :: L) a70 a1 h70 A108 n109 c110 h116 X) (fun v U w hR J => ?_) rfl
 obtain ⟨rfl, X⟩ := hR
 refine x_m J rfl fun U J => ?_
 refine x_v J (r_extract rfl (J.ev rfl) rfl) rfl fun U J => ?_
 refine x_v J (r_extract rfl (J.ev rfl) rfl) rfl fun U J => ?_
 refine x_m J rfl fun U J => ?_
 refine x_m J rfl fun U J => ?_
 refine wn (hK114 _ _ ?_)
 refine wp_seq_k fun K117 hK117 => ?_
 refine ws fun K118 hK118 => ?_
 refine x_m J rfl fun U J => ?_
 refine x_v J (r_not rfl (J.ev rfl)) rfl fun U J => ?_
 refine wn (hK118 _ _ ?_)
 refine c_if J rfl (fun hb119 => ?_) fun hb119 => ?_
 ·replace G := ift hb119 G
  refine ws fun K120 hK120 => ?_
  refine x_m J rfl fun U J => ?_
  refine wn (hK120 _ _ ?_)
  refine wp_ret ?_
  replace X := X.pk 1 |>.pk 1
  replace X := obj66_mk (x := a70) X
  replace X := X.pk 1
  cases G
  refine hQ _ _ ?_
  refine lv Tryz.results32 J rfl ?_
  exact ⟨rfl, X⟩
 replace G := iff' hb119 G
 refine wp_skip ?_
 refine hK117 _ _ ?_
 refine wp_seq_k fun K121 hK121 => ?_
 refine ws fun K122 hK122 => ?_
 refine x_m J rfl fun U J => ?_
 replace X := X.pk 1 |>.pk 1
 replace X := obj66_mk (x := a70) X
 obtain ⟨y123, h124, G⟩ := bnd G
 refine x_call' en23 J (F_files_Store_begin (L := blk g70 24 [.pointer (some ⟨h70, 0, none⟩)] :: L) a70 h70 h124 X) (fun v U w hR J => ?_) rfl
 obtain ⟨rfl, X⟩ := hR
 obtain ⟨A125, n126, c127, X⟩ := obj66_open X
 refine x_v J (r_not rfl (J.ev rfl)) rfl fun U J => ?_
 refine wn (hK122 _ _ ?_)
 refine c_if J rfl (fun hb128 => ?_) fun hb128 => ?_
 ·replace G := ift hb128 G
  refine ws fun K129 hK129 => ?_
  refine x_m J rfl fun U J => ?_
  refine wn (hK129 _ _ ?_)
  refine wp_ret ?_
  replace X := X.pk 1 |>.pk 1
  replace X := obj66_mk (x := y123.2) X
  replace X := X.pk 1
  cases G
  refine hQ _ _ ?_
  refine lv Tryz.results32 J rfl ?_
  exact ⟨rfl, X⟩
 replace G := iff' hb128 G
 refine wp_skip ?_
 refine hK121 _ _ ?_
 refine ws fun K130 hK130 => ?_
 refine x_m J rfl fun U J => ?_
 refine x_m J rfl fun U J => ?_
 replace X := X.pk 1 |>.pk 1
 replace X := obj66_mk (x := y123.2) X
 replace X := X.pk 1
 obtain ⟨y131, h132, G⟩ := bnd G
 refine x_callv' (vs := #[.int .i64 y115.1]) en85 J (F_files_Store_Sync_1 (L := L) y115.1 y123.2 g70 h70 h132 X) (fun v U w hR J => ?_) rfl
 obtain ⟨rfl, X⟩ := hR
 replace X := X.pk 1
 obtain ⟨A133, n134, c135, X⟩ := obj66_open X
 refine wn (hK130 _ _ ?_)
 refine ws fun K136 hK136 => ?_
 refine x_m J rfl fun U J => ?_
 refine wn (hK136 _ _ ?_)
 refine wp_ret ?_
 replace X := X.pk 1 |>.pk 1
 replace X := obj66_mk (x := y131) X
 replace X := X.pk 1
 cases G
 refine hQ _ _ ?_
 refine lv Tryz.results32 J rfl ?_
 exact ⟨rfl, X⟩
theorem F_files_change_Delete {r : World} {L : List HP} {w : World} (a1 : (List UInt8)) (a70 : S66) (g70 : Nat) (h70 : Nat) {y : (Int × S66)} (G : files_change_Delete a1 a70 = some y) (X : SH r (blk g70 24 [.pointer (some ⟨h70, 0, none⟩)] :: obj66 h70 a70 :: L) w) :
  Ret Tryz.prog 32 #[.pointer (some ⟨h70, 0, none⟩), str a1, .func (.func 33) #[] #[.pointer (some ⟨g70, 0, none⟩)]] w fun v w' => v = .int .i64 y.1 ∧ SH r (blk g70 24 [.pointer (some ⟨h70, 0, none⟩)] :: obj66 h70 y.2 :: L) w' := by
 refine enter Tryz.func32 rfl Tryz.ntmps32 [(0, (pP h70)), (1, str a1), (2, .func (.func 33) #[] #[.pointer (some ⟨g70, 0, none⟩)])] rfl (by simp) ?_
 intro U J Qf hQ hQn
 unfold files_change_Delete at G
 replace X := X.pk 1
 obtain ⟨A100, n101, c102, X⟩ := obj66_open X
 refine ws fun K103 hK103 => ?_
 refine x_m J rfl fun U J => ?_
 refine wn (hK103 _ _ ?_)
 refine wp_seq_k fun K104 hK104 => ?_
 refine ws fun K105 hK105 => ?_
 refine x_m J rfl fun U J => ?_
 refine x_m J rfl fun U J => ?_
 replace X := X.pk 1 |>.pk 1
 replace X := obj66_mk (x := a70) X
 replace X := SH.optS X
 obtain ⟨y106, h107, G⟩ := bnd G
 refine x_call' en20 J (F_files_Store_look (L := blk g70 24 [.pointer (some ⟨h70, 0, none⟩)] :: L) (some a70) a1 (some ⟨h70, 0, none⟩) h107 X) (fun v U w hR J => ?_) rfl
 obtain ⟨rfl, X⟩ := hR
 replace X := SH.unoptP X
 obtain ⟨A108, n109, c110, X⟩ := obj66_open X
 refine x_m J rfl fun U J => ?_
 refine wn (hK105 _ _ ?_)
 refine ws fun K111 hK111 => ?_
 refine x_m J rfl fun U J => ?_
 refine x_v J (r_neI rfl (J.ev rfl) (J.ev rfl)) rfl fun U J => ?_
 refine wn (hK111 _ _ ?_)
 refine c_if J rfl (fun hb112 => ?_) fun hb112 => ?_
 ·replace G := ift hb112 G
  refine ws fun K113 hK113 => ?_
  refine x_m J rfl fun U J => ?_
  refine x_m J rfl fun U J => ?_
  refine wn (hK113 _ _ ?_)
  refine wp_ret ?_
  replace X := X.pk 1 |>.pk 1
  replace X := obj66_mk (x := a70) X
  replace X := X.pk 1
  cases G
  refine hQ _ _ ?_
  refine lv Tryz.results32 J rfl ?_
  exact ⟨rfl, X⟩
 replace G := iff' hb112 G
 refine wp_skip ?_
 refine hK104 _ _ ?_
 refine ws fun K114 hK114 => ?_
 refine x_m J rfl fun U J => ?_
 refine x_m J rfl fun U J => ?_
 replace X := X.pk 1 |>.pk 1
 obtain ⟨y115, h116, G⟩ := bnd G
 refine x_call' en21 J (F_files_Store_find (L := blk g70 24 [.pointer (some ⟨h70, 0, none⟩)] :: L) a70 a1 h70 A108 n109 c110 h116 X) (fun v U w hR J => ?_) rfl
 obtain ⟨rfl, X⟩ := hR
 refine x_m J rfl fun U J => ?_
 refine x_v J (r_extract rfl (J.ev rfl) rfl) rfl fun U J => ?_
 refine x_v J (r_extract rfl (J.ev rfl) rfl) rfl fun U J => ?_
 refine x_m J rfl fun U J => ?_
 refine x_m J rfl fun U J => ?_
 refine wn (hK114 _ _ ?_)
 refine wp_seq_k fun K117 hK117 => ?_
 refine ws fun K118 hK118 => ?_
 refine x_m J rfl fun U J => ?_
 refine x_v J (r_not rfl (J.ev rfl)) rfl fun U J => ?_
 refine wn (hK118 _ _ ?_)
 refine c_if J rfl (fun hb119 => ?_) fun hb119 => ?_
 ·replace G := ift hb119 G
  refine ws fun K120 hK120 => ?_
  refine x_m J rfl fun U J => ?_
  refine wn (hK120 _ _ ?_)
  refine wp_ret ?_
  replace X := X.pk 1 |>.pk 1
  replace X := obj66_mk (x := a70) X
  replace X := X.pk 1
  cases G
  refine hQ _ _ ?_
  refine lv Tryz.results32 J rfl ?_
  exact ⟨rfl, X⟩
 replace G := iff' hb119 G
 refine wp_skip ?_
 refine hK117 _ _ ?_
 refine wp_seq_k fun K121 hK121 => ?_
 refine ws fun K122 hK122 => ?_
 refine x_m J rfl fun U J => ?_
 replace X := X.pk 1 |>.pk 1
 replace X := obj66_mk (x := a70) X
 obtain ⟨y123, h124, G⟩ := bnd G
 refine x_call' en23 J (F_files_Store_begin (L := blk g70 24 [.pointer (some ⟨h70, 0, none⟩)] :: L) a70 h70 h124 X) (fun v U w hR J => ?_) rfl
 obtain ⟨rfl, X⟩ := hR
 obtain ⟨A125, n126, c127, X⟩ := obj66_open X
 refine x_v J (r_not rfl (J.ev rfl)) rfl fun U J => ?_
 refine wn (hK122 _ _ ?_)
 refine c_if J rfl (fun hb128 => ?_) fun hb128 => ?_
 ·replace G := ift hb128 G
  refine ws fun K129 hK129 => ?_
  refine x_m J rfl fun U J => ?_
  refine wn (hK129 _ _ ?_)
  refine wp_ret ?_
  replace X := X.pk 1 |>.pk 1
  replace X := obj66_mk (x := y123.2) X
  replace X := X.pk 1
  cases G
  refine hQ _ _ ?_
  refine lv Tryz.results32 J rfl ?_
  exact ⟨rfl, X⟩
 replace G := iff' hb128 G
 refine wp_skip ?_
 refine hK121 _ _ ?_
 refine ws fun K130 hK130 => ?_
 refine x_m J rfl fun U J => ?_
 refine x_m J rfl fun U J => ?_
 replace X := X.pk 1 |>.pk 1
 replace X := obj66_mk (x := y123.2) X
 replace X := X.pk 1
 obtain ⟨y131, h132, G⟩ := bnd G
 refine x_callv' (vs := #[.int .i64 y115.1]) en33 J (F_files_Store_Delete_1 (L := L) y115.1 y123.2 g70 h70 h132 X) (fun v U w hR J => ?_) rfl
 obtain ⟨rfl, X⟩ := hR
 replace X := X.pk 1
 obtain ⟨A133, n134, c135, X⟩ := obj66_open X
 refine wn (hK130 _ _ ?_)
 refine ws fun K136 hK136 => ?_
 refine x_m J rfl fun U J => ?_
 refine wn (hK136 _ _ ?_)
 refine wp_ret ?_
 replace X := X.pk 1 |>.pk 1
 replace X := obj66_mk (x := y131) X
 replace X := X.pk 1
 cases G
 refine hQ _ _ ?_
 refine lv Tryz.results32 J rfl ?_
 exact ⟨rfl, X⟩
theorem F_files_change_Rename {r : World} {L : List HP} {w : World} (a1 : (List UInt8)) (a70 : S66) (a71 : (List UInt8)) (g70 : Nat) (h70 : Nat) (g71 : Nat) {y : (Int × S66 × (List UInt8))} (G : files_change_Rename a1 a70 a71 = some y) (X : SH r (blk g70 24 [.pointer (some ⟨h70, 0, none⟩)] :: obj66 h70 a70 :: obj9 g71 a71 :: L) w) :
  Ret Tryz.prog 32 #[.pointer (some ⟨h70, 0, none⟩), str a1, .func (.func 72) #[] #[.pointer (some ⟨g70, 0, none⟩), (pP g71)]] w fun v w' => v = .int .i64 y.1 ∧ SH r (blk g70 24 [.pointer (some ⟨h70, 0, none⟩)] :: obj66 h70 y.2.1 :: obj9 g71 y.2.2 :: L) w' := by
 refine enter Tryz.func32 rfl Tryz.ntmps32 [(0, (pP h70)), (1, str a1), (2, .func (.func 72) #[] #[.pointer (some ⟨g70, 0, none⟩), (pP g71)])] rfl (by simp) ?_
 intro U J Qf hQ hQn
 unfold files_change_Rename at G
 replace X := X.pk 1
 obtain ⟨A100, n101, c102, X⟩ := obj66_open X
 replace X := X.pk 3
 replace X := obj9_open X
 refine ws fun K103 hK103 => ?_
 refine x_m J rfl fun U J => ?_
 refine wn (hK103 _ _ ?_)
 refine wp_seq_k fun K104 hK104 => ?_
 refine ws fun K105 hK105 => ?_
 refine x_m J rfl fun U J => ?_
 refine x_m J rfl fun U J => ?_
 replace X := X.pk 2 |>.pk 2
 replace X := obj66_mk (x := a70) X
 replace X := SH.optS X
 obtain ⟨y106, h107, G⟩ := bnd G
 refine x_call' en20 J (F_files_Store_look (L := blk g71 9 [str a71] :: blk g70 24 [.pointer (some ⟨h70, 0, none⟩)] :: L) (some a70) a1 (some ⟨h70, 0, none⟩) h107 X) (fun v U w hR J => ?_) rfl
 obtain ⟨rfl, X⟩ := hR
 replace X := SH.unoptP X
 obtain ⟨A108, n109, c110, X⟩ := obj66_open X
 refine x_m J rfl fun U J => ?_
 refine wn (hK105 _ _ ?_)
 refine ws fun K111 hK111 => ?_
 refine x_m J rfl fun U J => ?_
 refine x_v J (r_neI rfl (J.ev rfl) (J.ev rfl)) rfl fun U J => ?_
 refine wn (hK111 _ _ ?_)
 refine c_if J rfl (fun hb112 => ?_) fun hb112 => ?_
 ·replace G := ift hb112 G
  refine ws fun K113 hK113 => ?_
  refine x_m J rfl fun U J => ?_
  refine x_m J rfl fun U J => ?_
  refine wn (hK113 _ _ ?_)
  refine wp_ret ?_
  replace X := X.pk 1 |>.pk 1
  replace X := obj66_mk (x := a70) X
  replace X := X.pk 1
  replace X := obj9_mk (x := a71) X
  replace X := X.pk 1 |>.pk 2
  cases G
  refine hQ _ _ ?_
  refine lv Tryz.results32 J rfl ?_
  exact ⟨rfl, X⟩
 replace G := iff' hb112 G
 refine wp_skip ?_
 refine hK104 _ _ ?_
 refine ws fun K114 hK114 => ?_
 refine x_m J rfl fun U J => ?_
 refine x_m J rfl fun U J => ?_
 replace X := X.pk 1 |>.pk 1
 obtain ⟨y115, h116, G⟩ := bnd G
 refine x_call' en21 J (F_files_Store_find (L := blk g71 9 [str a71] :: blk g70 24 [.pointer (some ⟨h70, 0, none⟩)] :: L) a70 a1 h70 A108 n109 c110 h116 X) (fun v U w hR J => ?_) rfl
 obtain ⟨rfl, X⟩ := hR
 refine x_m J rfl fun U J => ?_
 refine x_v J (r_extract rfl (J.ev rfl) rfl) rfl fun U J => ?_
 refine x_v J (r_extract rfl (J.ev rfl) rfl) rfl fun U J => ?_
 refine x_m J rfl fun U J => ?_
 refine x_m J rfl fun U J => ?_
 refine wn (hK114 _ _ ?_)
 refine wp_seq_k fun K117 hK117 => ?_
 refine ws fun K118 hK118 => ?_
 refine x_m J rfl fun U J => ?_
 refine x_v J (r_not rfl (J.ev rfl)) rfl fun U J => ?_
 refine wn (hK118 _ _ ?_)
 refine c_if J rfl (fun hb119 => ?_) fun hb119 => ?_
 ·replace G := ift hb119 G
  refine ws fun K120 hK120 => ?_
  refine x_m J rfl fun U J => ?_
  refine wn (hK120 _ _ ?_)
  refine wp_ret ?_
  replace X := X.pk 1 |>.pk 1
  replace X := obj66_mk (x := a70) X
  replace X := X.pk 1
  replace X := obj9_mk (x := a71) X
  replace X := X.pk 1 |>.pk 2
  cases G
  refine hQ _ _ ?_
  refine lv Tryz.results32 J rfl ?_
  exact ⟨rfl, X⟩
 replace G := iff' hb119 G
 refine wp_skip ?_
 refine hK117 _ _ ?_
 refine wp_seq_k fun K121 hK121 => ?_
 refine ws fun K122 hK122 => ?_
 refine x_m J rfl fun U J => ?_
 replace X := X.pk 1 |>.pk 1
 replace X := obj66_mk (x := a70) X
 obtain ⟨y123, h124, G⟩ := bnd G
 refine x_call' en23 J (F_files_Store_begin (L := blk g71 9 [str a71] :: blk g70 24 [.pointer (some ⟨h70, 0, none⟩)] :: L) a70 h70 h124 X) (fun v U w hR J => ?_) rfl
 obtain ⟨rfl, X⟩ := hR
 obtain ⟨A125, n126, c127, X⟩ := obj66_open X
 refine x_v J (r_not rfl (J.ev rfl)) rfl fun U J => ?_
 refine wn (hK122 _ _ ?_)
 refine c_if J rfl (fun hb128 => ?_) fun hb128 => ?_
 ·replace G := ift hb128 G
  refine ws fun K129 hK129 => ?_
  refine x_m J rfl fun U J => ?_
  refine wn (hK129 _ _ ?_)
  refine wp_ret ?_
  replace X := X.pk 1 |>.pk 1
  replace X := obj66_mk (x := y123.2) X
  replace X := X.pk 1
  replace X := obj9_mk (x := a71) X
  replace X := X.pk 1 |>.pk 2
  cases G
  refine hQ _ _ ?_
  refine lv Tryz.results32 J rfl ?_
  exact ⟨rfl, X⟩
 replace G := iff' hb128 G
 refine wp_skip ?_
 refine hK121 _ _ ?_
 refine ws fun K130 hK130 => ?_
 refine x_m J rfl fun U J => ?_
 refine x_m J rfl fun U J => ?_
 replace X := X.pk 1 |>.pk 1
 replace X := obj66_mk (x := y123.2) X
 replace X := X.pk 1
 replace X := obj9_mk (x := a71) X
 replace X := X.pk 1 |>.pk 2
 obtain ⟨y131, h132, G⟩ := bnd G
 refine x_callv' (vs := #[.int .i64 y115.1]) en72 J (F_files_Store_Rename_1 (L := L) y115.1 y123.2 a71 g70 h70 g71 h132 X) (fun v U w hR J => ?_) rfl
 obtain ⟨rfl, X⟩ := hR
 replace X := X.pk 1
 obtain ⟨A133, n134, c135, X⟩ := obj66_open X
 replace X := X.pk 3
 replace X := obj9_open X
 refine wn (hK130 _ _ ?_)
 refine ws fun K136 hK136 => ?_
 refine x_m J rfl fun U J => ?_
 refine wn (hK136 _ _ ?_)
 refine wp_ret ?_
 replace X := X.pk 2 |>.pk 2
 replace X := obj66_mk (x := y131.1) X
 replace X := X.pk 1
 replace X := obj9_mk (x := y131.2) X
 replace X := X.pk 1 |>.pk 2
 cases G
 refine hQ _ _ ?_
 refine lv Tryz.results32 J rfl ?_
 exact ⟨rfl, X⟩
theorem F_files_Store_Sync {r : World} {L : List HP} {w : World} (a0 : (Option S66)) (a1 : (List UInt8)) (p0 : Option Addr) {y : (Int × (Option S66))} (G : files_Store_Sync a0 a1 = some y) (X : SH r (optP (obj66) p0 a0 :: L) w) :
  Ret Tryz.prog 66 #[.pointer p0, str a1] w fun v w' => v = .int .i64 y.1 ∧ SH r (optP (obj66) p0 y.2 :: L) w' := by
 refine enter Tryz.func66 rfl Tryz.ntmps66 [(0, .pointer p0), (1, str a1)] rfl (by simp) ?_
 intro U J Qf hQ hQn
 unfold files_Store_Sync at G
 cases a0 with
 | none =>
  have hU := SH.unoptN X
  clear X
  obtain ⟨rfl, X⟩ := hU
  refine ws fun K100 hK100 => ?_
  refine x_box' J X (fun g101 U w X J => ?_) rfl
  refine x_m J rfl fun U J => ?_
  refine wn (hK100 _ _ ?_)
  refine ws fun K102 hK102 => ?_
  refine x_ld' uu24 (X.cell 0 rfl 0 _ rfl) J (fun U J => ?_) rfl
  refine x_m J rfl fun U J => ?_
  refine x_v J (r_makeFunc rfl (mapev (vals := #[]) J rfl) (mapev (vals := #[.pointer (some ⟨g101, 0, none⟩)]) J rfl)) rfl fun U J => ?_
  cases G
 | some x103 =>
  have hU := SH.unoptS X
  clear X
  obtain ⟨g104, rfl, X⟩ := hU
  obtain ⟨A105, n106, c107, X⟩ := obj66_open X
  refine ws fun K108 hK108 => ?_
  refine x_box' J X (fun g109 U w X J => ?_) rfl
  refine x_m J rfl fun U J => ?_
  refine wn (hK108 _ _ ?_)
  refine ws fun K110 hK110 => ?_
  refine x_ld' uu24 (X.cell 0 rfl 0 _ rfl) J (fun U J => ?_) rfl
  refine x_m J rfl fun U J => ?_
  refine x_v J (r_makeFunc rfl (mapev (vals := #[]) J rfl) (mapev (vals := #[.pointer (some ⟨g109, 0, none⟩)]) J rfl)) rfl fun U J => ?_
  replace X := X.pk 2 |>.pk 2
  replace X := obj66_mk (x := x103) X
  replace X := X.pk 1
  obtain ⟨y111, h112, G⟩ := bnd G
  refine x_call' en32 J (F_files_change_Sync (L := L) a1 x103 g109 g104 h112 X) (fun v U w hR J => ?_) rfl
  obtain ⟨rfl, X⟩ := hR
  replace X := X.pk 1
  obtain ⟨A113, n114, c115, X⟩ := obj66_open X
  refine x_m J rfl fun U J => ?_
  refine wn (hK110 _ _ ?_)
  refine wp_ret ?_
  replace X := X.pk 1 |>.pk 1
  replace X := obj66_mk (x := y111.2) X
  replace X := SH.optS X
  replace X := X.drop 1
  cases G
  refine hQ _ _ ?_
  refine lv Tryz.results66 J rfl ?_
  exact ⟨rfl, X⟩
theorem F_files_Store_Delete {r : World} {L : List HP} {w : World} (a0 : (Option S66)) (a1 : (List UInt8)) (p0 : Option Addr) {y : (Int × (Option S66))} (G : files_Store_Delete a0 a1 = some y) (X : SH r (optP (obj66) p0 a0 :: L) w) :
  Ret Tryz.prog 15 #[.pointer p0, str a1] w fun v w' => v = .int .i64 y.1 ∧ SH r (optP (obj66) p0 y.2 :: L) w' := by
 refine enter Tryz.func15 rfl Tryz.ntmps15 [(0, .pointer p0), (1, str a1)] rfl (by simp) ?_
 intro U J Qf hQ hQn
 unfold files_Store_Delete at G
 cases a0 with
 | none =>
  have hU := SH.unoptN X
  clear X
  obtain ⟨rfl, X⟩ := hU
  refine ws fun K100 hK100 => ?_
  refine x_box' J X (fun g101 U w X J => ?_) rfl
  refine x_m J rfl fun U J => ?_
  refine wn (hK100 _ _ ?_)
  refine ws fun K102 hK102 => ?_
  refine x_ld' uu24 (X.cell 0 rfl 0 _ rfl) J (fun U J => ?_) rfl
  refine x_m J rfl fun U J => ?_
  refine x_v J (r_makeFunc rfl (mapev (vals := #[]) J rfl) (mapev (vals := #[.pointer (some ⟨g101, 0, none⟩)]) J rfl)) rfl fun U J => ?_
  cases G
 | some x103 =>
  have hU := SH.unoptS X
  clear X
  obtain ⟨g104, rfl, X⟩ := hU
  obtain ⟨A105, n106, c107, X⟩ := obj66_open X
  refine ws fun K108 hK108 => ?_
  refine x_box' J X (fun g109 U w X J => ?_) rfl
  refine x_m J rfl fun U J => ?_
  refine wn (hK108 _ _ ?_)
  refine ws fun K110 hK110 => ?_
  refine x_ld' uu24 (X.cell 0 rfl 0 _ rfl) J (fun U J => ?_) rfl
  refine x_m J rfl fun U J => ?_
  refine x_v J (r_makeFunc rfl (mapev (vals := #[]) J rfl) (mapev (vals := #[.pointer (some ⟨g109, 0, none⟩)]) J rfl)) rfl fun U J => ?_
  replace X := X.pk 2 |>.pk 2
  replace X := obj66_mk (x := x103) X
  replace X := X.pk 1
  obtain ⟨y111, h112, G⟩ := bnd G
  refine x_call' en32 J (F_files_change_Delete (L := L) a1 x103 g109 g104 h112 X) (fun v U w hR J => ?_) rfl
  obtain ⟨rfl, X⟩ := hR
  replace X := X.pk 1
  obtain ⟨A113, n114, c115, X⟩ := obj66_open X
  refine x_m J rfl fun U J => ?_
  refine wn (hK110 _ _ ?_)
  refine wp_ret ?_
  replace X := X.pk 1 |>.pk 1
  replace X := obj66_mk (x := y111.2) X
  replace X := SH.optS X
  replace X := X.drop 1
  cases G
  refine hQ _ _ ?_
  refine lv Tryz.results15 J rfl ?_
  exact ⟨rfl, X⟩
theorem F_files_Store_Rename {r : World} {L : List HP} {w : World} (a0 : (Option S66)) (a1 : (List UInt8)) (a2 : (List UInt8)) (p0 : Option Addr) {y : (Int × (Option S66))} (G : files_Store_Rename a0 a1 a2 = some y) (X : SH r (optP (obj66) p0 a0 :: L) w) :
  Ret Tryz.prog 51 #[.pointer p0, str a1, str a2] w fun v w' => v = .int .i64 y.1 ∧ SH r (optP (obj66) p0 y.2 :: L) w' := by
 refine enter Tryz.func51 rfl Tryz.ntmps51 [(0, .pointer p0), (1, str a1), (2, str a2)] rfl (by simp) ?_
 intro U J Qf hQ hQn
 unfold files_Store_Rename at G
 cases a0 with
 | none =>
  have hU := SH.unoptN X
  clear X
  obtain ⟨rfl, X⟩ := hU
  refine ws fun K100 hK100 => ?_
  refine x_box' J X (fun g101 U w X J => ?_) rfl
  refine x_box' J X (fun g102 U w X J => ?_) rfl
  refine x_m J rfl fun U J => ?_
  refine wn (hK100 _ _ ?_)
  refine wp_seq_k fun K103 hK103 => ?_
  refine ws fun K104 hK104 => ?_
  refine x_ld' uu24 (X.cell 1 rfl 0 _ rfl) J (fun U J => ?_) rfl
  refine x_v (v := .bool false) J (r_neNilP (p := none) uu24 rfl (J.ev rfl) (J.ev rfl)) rfl fun U J => ?_
  refine x_m J rfl fun U J => ?_
  refine xO 3 rfl J rfl fun U J => ?_
  refine x_pickf' rfl J (fun U J => ?_) rfl
  refine wn (hK104 _ _ ?_)
  refine c_f (b := false) rfl J ?_ rfl
  refine wp_skip ?_
  refine hK103 _ _ ?_
  refine wp_seq_k fun K105 hK105 => ?_
  refine ws fun K106 hK106 => ?_
  refine x_ld' uu24 (X.cell 1 rfl 0 _ rfl) J (fun U J => ?_) rfl
  refine x_ld' uu9 (X.cell 0 rfl 0 _ rfl) J (fun U J => ?_) rfl
  replace X := SH.optN (obj66) X
  obtain ⟨y107, h108, G⟩ := bnd G
  refine x_call' en20 J (F_files_Store_look (L := blk g102 9 [str a2] :: blk g101 24 [.pointer none] :: L) none a2 none h108 X) (fun v U w hR J => ?_) rfl
  obtain ⟨rfl, X⟩ := hR
  refine x_m J rfl fun U J => ?_
  refine wn (hK106 _ _ ?_)
  refine ws fun K109 hK109 => ?_
  refine x_m J rfl fun U J => ?_
  refine x_v J (r_neI rfl (J.ev rfl) (J.ev rfl)) rfl fun U J => ?_
  refine wn (hK109 _ _ ?_)
  refine c_if J rfl (fun hb110 => ?_) fun hb110 => ?_
  ·replace G := ift hb110 G
   refine ws fun K111 hK111 => ?_
   refine x_m J rfl fun U J => ?_
   refine x_m J rfl fun U J => ?_
   refine wn (hK111 _ _ ?_)
   refine wp_ret ?_
   replace X := SH.optN (obj66) X
   replace X := X.drop 1 |>.drop 1 |>.drop 1
   cases G
   refine hQ _ _ ?_
   refine lv Tryz.results51 J rfl ?_
   exact ⟨rfl, X⟩
  replace G := iff' hb110 G
  refine wp_skip ?_
  refine hK105 _ _ ?_
  refine ws fun K112 hK112 => ?_
  refine x_ld' uu24 (X.cell 2 rfl 0 _ rfl) J (fun U J => ?_) rfl
  refine x_m J rfl fun U J => ?_
  refine x_v J (r_makeFunc rfl (mapev (vals := #[]) J rfl) (mapev (vals := #[.pointer (some ⟨g101, 0, none⟩), (pP g102)]) J rfl)) rfl fun U J => ?_
  cases G
 | some x113 =>
  have hU := SH.unoptS X
  clear X
  obtain ⟨g114, rfl, X⟩ := hU
  obtain ⟨A115, n116, c117, X⟩ := obj66_open X
  refine ws fun K118 hK118 => ?_
  refine x_box' J X (fun g119 U w X J => ?_) rfl
  refine x_box' J X (fun g120 U w X J => ?_) rfl
  refine x_m J rfl fun U J => ?_
  refine wn (hK118 _ _ ?_)
  refine wp_seq_k fun K121 hK121 => ?_
  refine ws fun K122 hK122 => ?_
  refine x_ld' uu24 (X.cell 1 rfl 0 _ rfl) J (fun U J => ?_) rfl
  refine x_v (v := .bool true) J (r_neNilP (p := some ⟨g114, 0, none⟩) uu24 rfl (J.ev rfl) (J.ev rfl)) rfl fun U J => ?_
  refine x_m J rfl fun U J => ?_
  refine x_on' rfl J ?_ rfl
  refine x_m J rfl fun U J => ?_
  refine x_on' rfl J ?_ rfl
  obtain ⟨y123, h124, G⟩ := bnd G
  refine x_call' en36 J (F_files_Form (L := blk g120 9 [str a2] :: blk g119 24 [.pointer (some ⟨g114, 0, none⟩)] :: blk g114 66 [.slice A115 n116 c117, .int .i64 x113.f1, .int .i64 x113.f2, .bool x113.f3, .int .i64 x113.f4] :: own2 kp72 (kI .u8) 5 (fun x : S72 => x.f1) 72 A115 n116 c117 x113.f0 :: L) a1 h124 X) (fun v U w hR J => ?_) rfl
  obtain ⟨rfl, X⟩ := hR
  refine x_on' rfl J ?_ rfl
  refine x_v J (r_not rfl (J.ev rfl)) rfl fun U J => ?_
  refine x_pickt' rfl J (fun U J => ?_) rfl
  refine wn (hK122 _ _ ?_)
  refine c_if J rfl (fun hb125 => ?_) fun hb125 => ?_
  ·replace G := ift hb125 G
   refine ws fun K126 hK126 => ?_
   refine x_m J rfl fun U J => ?_
   refine wn (hK126 _ _ ?_)
   refine wp_ret ?_
   replace X := X.pk 3 |>.pk 3
   replace X := obj66_mk (x := x113) X
   replace X := SH.optS X
   replace X := X.drop 1 |>.drop 1
   cases G
   refine hQ _ _ ?_
   refine lv Tryz.results51 J rfl ?_
   exact ⟨rfl, X⟩
  replace G := iff' hb125 G
  refine wp_skip ?_
  refine hK121 _ _ ?_
  refine wp_seq_k fun K127 hK127 => ?_
  refine ws fun K128 hK128 => ?_
  refine x_ld' uu24 (X.cell 1 rfl 0 _ rfl) J (fun U J => ?_) rfl
  refine x_ld' uu9 (X.cell 0 rfl 0 _ rfl) J (fun U J => ?_) rfl
  replace X := X.pk 3 |>.pk 3
  replace X := obj66_mk (x := x113) X
  replace X := SH.optS X
  obtain ⟨y129, h130, G⟩ := bnd G
  refine x_call' en20 J (F_files_Store_look (L := blk g120 9 [str a2] :: blk g119 24 [.pointer (some ⟨g114, 0, none⟩)] :: L) (some x113) a2 (some ⟨g114, 0, none⟩) h130 X) (fun v U w hR J => ?_) rfl
  obtain ⟨rfl, X⟩ := hR
  replace X := SH.unoptP X
  obtain ⟨A131, n132, c133, X⟩ := obj66_open X
  refine x_m J rfl fun U J => ?_
  refine wn (hK128 _ _ ?_)
  refine ws fun K134 hK134 => ?_
  refine x_m J rfl fun U J => ?_
  refine x_v J (r_neI rfl (J.ev rfl) (J.ev rfl)) rfl fun U J => ?_
  refine wn (hK134 _ _ ?_)
  refine c_if J rfl (fun hb135 => ?_) fun hb135 => ?_
  ·replace G := ift hb135 G
   refine ws fun K136 hK136 => ?_
   refine x_m J rfl fun U J => ?_
   refine x_m J rfl fun U J => ?_
   refine wn (hK136 _ _ ?_)
   refine wp_ret ?_
   replace X := X.pk 1 |>.pk 1
   replace X := obj66_mk (x := x113) X
   replace X := SH.optS X
   replace X := X.drop 1 |>.drop 1
   cases G
   refine hQ _ _ ?_
   refine lv Tryz.results51 J rfl ?_
   exact ⟨rfl, X⟩
  replace G := iff' hb135 G
  refine wp_skip ?_
  refine hK127 _ _ ?_
  refine ws fun K137 hK137 => ?_
  refine x_ld' uu24 (X.cell 3 rfl 0 _ rfl) J (fun U J => ?_) rfl
  refine x_m J rfl fun U J => ?_
  refine x_v J (r_makeFunc rfl (mapev (vals := #[]) J rfl) (mapev (vals := #[.pointer (some ⟨g119, 0, none⟩), (pP g120)]) J rfl)) rfl fun U J => ?_
  replace X := X.pk 1 |>.pk 1
  replace X := obj66_mk (x := x113) X
  replace X := X.pk 1
  replace X := obj9_mk (x := a2) X
  replace X := X.pk 1 |>.pk 2
  obtain ⟨y138, h139, G⟩ := bnd G
  refine x_call' en32 J (F_files_change_Rename (L := L) a1 x113 a2 g119 g114 g120 h139 X) (fun v U w hR J => ?_) rfl
  obtain ⟨rfl, X⟩ := hR
  replace X := X.pk 1
  obtain ⟨A140, n141, c142, X⟩ := obj66_open X
  replace X := X.pk 3
  replace X := obj9_open X
  refine x_m J rfl fun U J => ?_
  refine wn (hK137 _ _ ?_)
  refine wp_ret ?_
  replace X := X.pk 2 |>.pk 2
  replace X := obj66_mk (x := y138.2.1) X
  replace X := SH.optS X
  replace X := X.drop 1 |>.drop 1
  cases G
  refine hQ _ _ ?_
  refine lv Tryz.results51 J rfl ?_
  exact ⟨rfl, X⟩
noncomputable section
set_option linter.unusedSimpArgs false
def istrconv_small (a0 : Int) : Option ((List UInt8)) :=
  if (decide (a0 < 10)) = true then (ltt (IntKind.i64.wrap (a0 + 1)) fun x106 => ((cut_ [48, 49, 50, 51, 52, 53, 54, 55, 56, 57, 97, 98, 99, 100, 101, 102, 103, 104, 105, 106, 107, 108, 109, 110, 111, 112, 113, 114, 115, 116, 117, 118, 119, 120, 121, 122] a0 x106).bind fun s108 => (some s108))) else (ltt (IntKind.i64.wrap (a0 * 2)) fun x111 => (ltt (IntKind.i64.wrap (x111 + 2)) fun x113 => ((cut_ [48, 48, 48, 49, 48, 50, 48, 51, 48, 52, 48, 53, 48, 54, 48, 55, 48, 56, 48, 57, 49, 48, 49, 49, 49, 50, 49, 51, 49, 52, 49, 53, 49, 54, 49, 55, 49, 56, 49, 57, 50, 48, 50, 49, 50, 50, 50, 51, 50, 52, 50, 53, 50, 54, 50, 55, 50, 56, 50, 57, 51, 48, 51, 49, 51, 50, 51, 51, 51, 52, 51, 53, 51, 54, 51, 55, 51, 56, 51, 57, 52, 48, 52, 49, 52, 50, 52, 51, 52, 52, 52, 53, 52, 54, 52, 55, 52, 56, 52, 57, 53, 48, 53, 49, 53, 50, 53, 51, 53, 52, 53, 53, 53, 54, 53, 55, 53, 56, 53, 57, 54, 48, 54, 49, 54, 50, 54, 51, 54, 52, 54, 53, 54, 54, 54, 55, 54, 56, 54, 57, 55, 48, 55, 49, 55, 50, 55, 51, 55, 52, 55, 53, 55, 54, 55, 55, 55, 56, 55, 57, 56, 48, 56, 49, 56, 50, 56, 51, 56, 52, 56, 53, 56, 54, 56, 55, 56, 56, 56, 57, 57, 48, 57, 49, 57, 50, 57, 51, 57, 52, 57, 53, 57, 54, 57, 55, 57, 56, 57, 57] x111 x113).bind fun s115 => (some s115))))
def istrconv_FormatUint (a0 : Int) (a1 : Int) : Option ((List UInt8)) :=
  if (a1 == 10) = true then (if (decide (a0 < 100)) = true then (ltt (IntKind.i64.wrap a0) fun x109 => ((istrconv_small x109).bind fun y111 => (some y111))) else none) else none
def strconv_FormatUint (a0 : Int) (a1 : Int) : Option ((List UInt8)) :=
  (istrconv_FormatUint a0 a1).bind fun y103 => (some y103)
end
theorem F_istrconv_small {r : World} {L : List HP} {w : World} (a0 : Int) {y : ((List UInt8))} (G : istrconv_small a0 = some y) (X : SH r (L) w) :
  Ret Tryz.prog 87 #[.int .i64 a0] w fun v w' => v = str y ∧ SH r (L) w' := by
 refine enter Tryz.func87 rfl Tryz.ntmps87 [(0, .int .i64 a0)] rfl (by simp) ?_
 intro U J Qf hQ hQn
 unfold istrconv_small at G
 refine ws fun K100 hK100 => ?_
 refine x_m J rfl fun U J => ?_
 refine wn (hK100 _ _ ?_)
 refine wp_seq_k fun K101 hK101 => ?_
 refine ws fun K102 hK102 => ?_
 refine x_m J rfl fun U J => ?_
 refine x_v J (r_ltI rfl (J.ev rfl) (J.ev rfl)) rfl fun U J => ?_
 refine wn (hK102 _ _ ?_)
 refine c_if J rfl (fun hb103 => ?_) fun hb103 => ?_
 ·replace G := ift hb103 G
  refine ws fun K104 hK104 => ?_
  refine x_m J rfl fun U J => ?_
  refine x_m J rfl fun U J => ?_
  obtain ⟨x105, h106, G⟩ := ltt_ G
  refine x_v (v := .int .i64 x105) J (rv_i h106 (r_add rfl (J.ev rfl) (J.ev rfl))) rfl fun U J => ?_
  obtain ⟨s107, h108, G⟩ := bnd G
  refine x_cutSlh' uu9 h108 J (fun U J => ?_) rfl
  refine x_m J rfl fun U J => ?_
  refine wn (hK104 _ _ ?_)
  refine wp_ret ?_
  cases G
  refine hQ _ _ ?_
  refine lv Tryz.results87 J rfl ?_
  exact ⟨rfl, X⟩
 replace G := iff' hb103 G
 refine wp_skip ?_
 refine hK101 _ _ ?_
 refine ws fun K109 hK109 => ?_
 refine x_m J rfl fun U J => ?_
 obtain ⟨x110, h111, G⟩ := ltt_ G
 refine x_v (v := .int .i64 x110) J (rv_i h111 (r_mul rfl (J.ev rfl) (J.ev rfl))) rfl fun U J => ?_
 refine x_m J rfl fun U J => ?_
 refine x_v (v := .int .i64 x110) J (rv_i h111 (r_mul rfl (J.ev rfl) (J.ev rfl))) rfl fun U J => ?_
 obtain ⟨x112, h113, G⟩ := ltt_ G
 refine x_v (v := .int .i64 x112) J (rv_i h113 (r_add rfl (J.ev rfl) (J.ev rfl))) rfl fun U J => ?_
 obtain ⟨s114, h115, G⟩ := bnd G
 refine x_cutSlh' uu9 h115 J (fun U J => ?_) rfl
 refine x_m J rfl fun U J => ?_
 refine wn (hK109 _ _ ?_)
 refine wp_ret ?_
 cases G
 refine hQ _ _ ?_
 refine lv Tryz.results87 J rfl ?_
 exact ⟨rfl, X⟩
theorem F_istrconv_FormatUint {r : World} {L : List HP} {w : World} (a0 : Int) (a1 : Int) {y : ((List UInt8))} (G : istrconv_FormatUint a0 a1 = some y) (X : SH r (L) w) :
  Ret Tryz.prog 73 #[.int .u64 a0, .int .i64 a1] w fun v w' => v = str y ∧ SH r (L) w' := by
 refine enter Tryz.func73 rfl Tryz.ntmps73 [(0, .int .u64 a0), (1, .int .i64 a1)] rfl (by simp) ?_
 intro U J Qf hQ hQn
 unfold istrconv_FormatUint at G
 refine ws fun K100 hK100 => ?_
 refine x_m J rfl fun U J => ?_
 refine wn (hK100 _ _ ?_)
 refine wp_seq_k fun K101 hK101 => ?_
 refine ws fun K102 hK102 => ?_
 refine x_m J rfl fun U J => ?_
 refine x_v J (r_eqI rfl (J.ev rfl) (J.ev rfl)) rfl fun U J => ?_
 refine wn (hK102 _ _ ?_)
 refine c_if J rfl (fun hb103 => ?_) fun hb103 => ?_
 rotate_left
 ·replace G := iff' hb103 G
  cases G
 replace G := ift hb103 G
 refine wp_seq_k fun K104 hK104 => ?_
 refine ws fun K105 hK105 => ?_
 refine x_m J rfl fun U J => ?_
 refine x_v J (r_ltI rfl (J.ev rfl) (J.ev rfl)) rfl fun U J => ?_
 refine wn (hK105 _ _ ?_)
 refine c_if J rfl (fun hb106 => ?_) fun hb106 => ?_
 rotate_left
 ·replace G := iff' hb106 G
  cases G
 replace G := ift hb106 G
 refine ws fun K107 hK107 => ?_
 refine x_m J rfl fun U J => ?_
 obtain ⟨x108, h109, G⟩ := ltt_ G
 refine x_v (v := .int .i64 x108) J (rv_i h109 (r_convI uu30 uu3 rfl (J.ev rfl))) rfl fun U J => ?_
 obtain ⟨y110, h111, G⟩ := bnd G
 refine x_call' en87 J (F_istrconv_small (L := L) x108 h111 X) (fun v U w hR J => ?_) rfl
 obtain ⟨rfl, X⟩ := hR
 refine x_m J rfl fun U J => ?_
 refine wn (hK107 _ _ ?_)
 refine wp_ret ?_
 cases G
 refine hQ _ _ ?_
 refine lv Tryz.results73 J rfl ?_
 exact ⟨rfl, X⟩
theorem F_strconv_FormatUint {r : World} {L : List HP} {w : World} (a0 : Int) (a1 : Int) {y : ((List UInt8))} (G : strconv_FormatUint a0 a1 = some y) (X : SH r (L) w) :
  Ret Tryz.prog 52 #[.int .u64 a0, .int .i64 a1] w fun v w' => v = str y ∧ SH r (L) w' := by
 refine enter Tryz.func52 rfl Tryz.ntmps52 [(0, .int .u64 a0), (1, .int .i64 a1)] rfl (by simp) ?_
 intro U J Qf hQ hQn
 unfold strconv_FormatUint at G
 refine ws fun K100 hK100 => ?_
 refine x_m J rfl fun U J => ?_
 refine wn (hK100 _ _ ?_)
 refine ws fun K101 hK101 => ?_
 refine x_m J rfl fun U J => ?_
 refine x_m J rfl fun U J => ?_
 obtain ⟨y102, h103, G⟩ := bnd G
 refine x_call' en73 J (F_istrconv_FormatUint (L := L) a0 a1 h103 X) (fun v U w hR J => ?_) rfl
 obtain ⟨rfl, X⟩ := hR
 refine x_m J rfl fun U J => ?_
 refine wn (hK101 _ _ ?_)
 refine wp_ret ?_
 cases G
 refine hQ _ _ ?_
 refine lv Tryz.results52 J rfl ?_
 exact ⟨rfl, X⟩
end Go.Proofs.YtffdckhgkhhbjaaGreatDoor.M
namespace Go.Proofs
open Go.Shelf
def Tryz.cutL_ren : Go.Shelf.Ren := ⟨fun | 145 => 45 | 220 => 63 | 219 => 78 | 217 => 93 | 225 => 94 | 224 => 95 | 267 => 96 | 266 => 108 | 314 => 109 | n => n, fun | 9 => 9 | 4 => 4 | 59 => 96 | 3 => 3 | 5 => 5 | 46 => 114 | 146 => 157 | 51 => 47 | n => n, fun | 1 => 1 | n => n⟩
theorem Tryz.cutL : Go.Proofs.Lays.n145 Tryz.prog Tryz.cutL_ren := {
  mixed := by kernel_rfl
  f145 := Tryz.func45.trans (congrArg some (by kernel_rfl))
  f217 := Tryz.func93.trans (congrArg some (by kernel_rfl))
  f219 := Tryz.func78.trans (congrArg some (by kernel_rfl))
  f220 := Tryz.func63.trans (congrArg some (by kernel_rfl))
  f224 := Tryz.func95.trans (congrArg some (by kernel_rfl))
  f225 := Tryz.func94.trans (congrArg some (by kernel_rfl))
  f266 := Tryz.func108.trans (congrArg some (by kernel_rfl))
  f267 := Tryz.func96.trans (congrArg some (by kernel_rfl))
  f314 := Tryz.func109.trans (congrArg some (by kernel_rfl))
  t3 := Tryz.underlying3
  a3 := Tryz.isAgg3
  z3 := Tryz.sizeOf3
  v3 := Tryz.zeroValue3
  t4 := Tryz.underlying4
  a4 := Tryz.isAgg4
  z4 := Tryz.sizeOf4
  v4 := Tryz.zeroValue4
  t5 := Tryz.underlying5
  a5 := Tryz.isAgg5
  z5 := Tryz.sizeOf5
  v5 := Tryz.zeroValue5
  t9 := Tryz.underlying9
  a9 := Tryz.isAgg9
  z9 := Tryz.sizeOf9
  v9 := Tryz.zeroValue9
  t46 := Tryz.underlying114
  a46 := Tryz.isAgg114
  z46 := Tryz.sizeOf114
  v46 := Tryz.zeroValue114
  t51 := Tryz.underlying47
  a51 := Tryz.isAgg47
  z51 := Tryz.sizeOf47
  v51 := Tryz.zeroValue47
  t59 := Tryz.underlying96
  a59 := Tryz.isAgg96
  z59 := Tryz.sizeOf96
  v59 := Tryz.zeroValue96
  t146 := Tryz.underlying157
  a146 := Tryz.isAgg157
  z146 := Tryz.sizeOf157
  v146 := Tryz.zeroValue157
  g1 := by kernel_rfl }
def Tryz.puL_ren : Go.Shelf.Ren := ⟨fun | 14 => 46 | 16 => 64 | 17 => 65 | 19 => 79 | 20 => 80 | 21 => 81 | 22 => 82 | 23 => 83 | 24 => 84 | 25 => 97 | 27 => 99 | 26 => 98 | 28 => 110 | 29 => 114 | 30 => 87 | 31 => 88 | 32 => 89 | 33 => 90 | 35 => 103 | 34 => 102 | 36 => 104 | 37 => 105 | 38 => 106 | 39 => 112 | 40 => 113 | n => n, fun | 9 => 9 | 3 => 3 | 22 => 30 | 24 => 99 | 25 => 100 | 4 => 4 | 34 => 132 | 5 => 5 | 36 => 114 | 37 => 29 | 0 => 0 | 39 => 134 | 21 => 21 | 44 => 149 | 47 => 159 | 50 => 162 | 48 => 160 | 2 => 2 | 52 => 139 | 55 => 142 | 59 => 153 | 60 => 47 | 20 => 20 | 61 => 154 | 65 => 166 | 66 => 167 | 67 => 168 | n => n, fun | 0 => 2 | 1 => 3 | 2 => 4 | 3 => 6 | 4 => 7 | n => n⟩
theorem Tryz.puL : Go.Proofs.LaysPu.n14 Tryz.prog Tryz.puL_ren := {
  mixed := by kernel_rfl
  f14 := Tryz.func46.trans (congrArg some (by kernel_rfl))
  f16 := Tryz.func64.trans (congrArg some (by kernel_rfl))
  f17 := Tryz.func65.trans (congrArg some (by kernel_rfl))
  f19 := Tryz.func79.trans (congrArg some (by kernel_rfl))
  f20 := Tryz.func80.trans (congrArg some (by kernel_rfl))
  f21 := Tryz.func81.trans (congrArg some (by kernel_rfl))
  f22 := Tryz.func82.trans (congrArg some (by kernel_rfl))
  f23 := Tryz.func83.trans (congrArg some (by kernel_rfl))
  f24 := Tryz.func84.trans (congrArg some (by kernel_rfl))
  f25 := Tryz.func97.trans (congrArg some (by kernel_rfl))
  f26 := Tryz.func98.trans (congrArg some (by kernel_rfl))
  f27 := Tryz.func99.trans (congrArg some (by kernel_rfl))
  f28 := Tryz.func110.trans (congrArg some (by kernel_rfl))
  f29 := Tryz.func114.trans (congrArg some (by kernel_rfl))
  f30 := Tryz.func87.trans (congrArg some (by kernel_rfl))
  f31 := Tryz.func88.trans (congrArg some (by kernel_rfl))
  f32 := Tryz.func89.trans (congrArg some (by kernel_rfl))
  f33 := Tryz.func90.trans (congrArg some (by kernel_rfl))
  f34 := Tryz.func102.trans (congrArg some (by kernel_rfl))
  f35 := Tryz.func103.trans (congrArg some (by kernel_rfl))
  f36 := Tryz.func104.trans (congrArg some (by kernel_rfl))
  f37 := Tryz.func105.trans (congrArg some (by kernel_rfl))
  f38 := Tryz.func106.trans (congrArg some (by kernel_rfl))
  f39 := Tryz.func112.trans (congrArg some (by kernel_rfl))
  f40 := Tryz.func113.trans (congrArg some (by kernel_rfl))
  t0 := Tryz.underlying0
  a0 := Tryz.isAgg0
  z0 := Tryz.sizeOf0
  v0 := Tryz.zeroValue0
  i0 := by kernel_rfl
  t2 := Tryz.underlying2
  a2 := Tryz.isAgg2
  z2 := Tryz.sizeOf2
  v2 := Tryz.zeroValue2
  i2 := by kernel_rfl
  t3 := Tryz.underlying3
  a3 := Tryz.isAgg3
  z3 := Tryz.sizeOf3
  v3 := Tryz.zeroValue3
  i3 := by kernel_rfl
  t4 := Tryz.underlying4
  a4 := Tryz.isAgg4
  z4 := Tryz.sizeOf4
  v4 := Tryz.zeroValue4
  i4 := by kernel_rfl
  t5 := Tryz.underlying5
  a5 := Tryz.isAgg5
  z5 := Tryz.sizeOf5
  v5 := Tryz.zeroValue5
  i5 := by kernel_rfl
  t9 := Tryz.underlying9
  a9 := Tryz.isAgg9
  z9 := Tryz.sizeOf9
  v9 := Tryz.zeroValue9
  i9 := by kernel_rfl
  t20 := Tryz.underlying20
  a20 := Tryz.isAgg20
  z20 := Tryz.sizeOf20
  v20 := Tryz.zeroValue20
  i20 := by kernel_rfl
  t21 := Tryz.underlying21
  a21 := Tryz.isAgg21
  z21 := Tryz.sizeOf21
  v21 := Tryz.zeroValue21
  i21 := by kernel_rfl
  t22 := Tryz.underlying30
  a22 := Tryz.isAgg30
  z22 := Tryz.sizeOf30
  v22 := Tryz.zeroValue30
  i22 := by kernel_rfl
  t24 := Tryz.underlying99
  a24 := Tryz.isAgg99
  z24 := Tryz.sizeOf99
  v24 := Tryz.zeroValue99
  i24 := by kernel_rfl
  t25 := Tryz.underlying100
  a25 := Tryz.isAgg100
  z25 := Tryz.sizeOf100
  v25 := Tryz.zeroValue100
  i25 := by kernel_rfl
  t34 := Tryz.underlying132
  a34 := Tryz.isAgg132
  z34 := Tryz.sizeOf132
  v34 := Tryz.zeroValue132
  i34 := by kernel_rfl
  c34 := by kernel_rfl
  t36 := Tryz.underlying114
  a36 := Tryz.isAgg114
  z36 := Tryz.sizeOf114
  v36 := Tryz.zeroValue114
  i36 := by kernel_rfl
  t37 := Tryz.underlying29
  a37 := Tryz.isAgg29
  z37 := Tryz.sizeOf29
  v37 := Tryz.zeroValue29
  i37 := by kernel_rfl
  t39 := Tryz.underlying134
  a39 := Tryz.isAgg134
  z39 := Tryz.sizeOf134
  v39 := Tryz.zeroValue134
  i39 := by kernel_rfl
  t44 := Tryz.underlying149
  a44 := Tryz.isAgg149
  z44 := Tryz.sizeOf149
  v44 := Tryz.zeroValue149
  i44 := by kernel_rfl
  t47 := Tryz.underlying159
  a47 := Tryz.isAgg159
  z47 := Tryz.sizeOf159
  v47 := Tryz.zeroValue159
  i47 := by kernel_rfl
  t48 := Tryz.underlying160
  a48 := Tryz.isAgg160
  z48 := Tryz.sizeOf160
  v48 := Tryz.zeroValue160
  i48 := by kernel_rfl
  t50 := Tryz.underlying162
  a50 := Tryz.isAgg162
  z50 := Tryz.sizeOf162
  v50 := Tryz.zeroValue162
  i50 := by kernel_rfl
  t52 := Tryz.underlying139
  a52 := Tryz.isAgg139
  z52 := Tryz.sizeOf139
  v52 := Tryz.zeroValue139
  i52 := by kernel_rfl
  t55 := Tryz.underlying142
  a55 := Tryz.isAgg142
  z55 := Tryz.sizeOf142
  v55 := Tryz.zeroValue142
  i55 := by kernel_rfl
  t59 := Tryz.underlying153
  a59 := Tryz.isAgg153
  z59 := Tryz.sizeOf153
  v59 := Tryz.zeroValue153
  i59 := by kernel_rfl
  t60 := Tryz.underlying47
  a60 := Tryz.isAgg47
  z60 := Tryz.sizeOf47
  v60 := Tryz.zeroValue47
  i60 := by kernel_rfl
  t61 := Tryz.underlying154
  a61 := Tryz.isAgg154
  z61 := Tryz.sizeOf154
  t65 := Tryz.underlying166
  a65 := Tryz.isAgg166
  z65 := Tryz.sizeOf166
  v65 := Tryz.zeroValue166
  i65 := by kernel_rfl
  t66 := Tryz.underlying167
  a66 := Tryz.isAgg167
  z66 := Tryz.sizeOf167
  v66 := Tryz.zeroValue167
  i66 := by kernel_rfl
  t67 := Tryz.underlying168
  a67 := Tryz.isAgg168
  z67 := Tryz.sizeOf168
  v67 := Tryz.zeroValue168
  i67 := by kernel_rfl
  g0 := by kernel_rfl
  m0 := by kernel_rfl
  g1 := by kernel_rfl
  m1 := by kernel_rfl
  g2 := by kernel_rfl
  m2 := by kernel_rfl
  g3 := by kernel_rfl
  m3 := by kernel_rfl
  g4 := by kernel_rfl
  m4 := by kernel_rfl }
end Go.Proofs
namespace Go.Proofs.YtffdckhgkhhbjaaGreatDoor.M
open Go Go.RowKit Go.Proofs.YtffdckhgkhhbjaaGreatDoor.E
set_option linter.unusedVariables false
noncomputable section
set_option linter.unusedSimpArgs false
def strings_Cut (a0 : (List UInt8)) (a1 : (List UInt8)) : Option ((List UInt8) × (List UInt8) × Bool) :=
  chk (a0.length < 4294967281) (some (Lib.cut a0 a1))
def strconv_ParseUint (a0 : (List UInt8)) (a1 : Int) (a2 : Int) : Option (Int × Bool) :=
  chk (a1 = 10 ∧ a2 = 32 ∧ a0.length ≤ 281474976710656) (match Lib.parseUintB 32 a0 with | .ok u => some ((u : Int), false) | .range => some (4294967295, true) | _ => some (0, true))
end
set_option maxRecDepth 100000
set_option maxHeartbeats 4000000
set_option linter.unusedSimpArgs false
theorem F_strings_Cut {r : World} {L : List HP} {w : World} {Z : Nat → Prop} {wz : World} (a0 : (List UInt8)) (a1 : (List UInt8)) {y : ((List UInt8) × (List UInt8) × Bool)} (G : strings_Cut a0 a1 = some y) (qz : Nat) (hZ : L[qz]? = some (zone Z wz)) (hG1 : Gc Z wz 1 isI64) (X : SH r (L) w) :
  Ret Tryz.prog 45 #[str a0, str a1] w fun v w' => v = .tuple #[(str y.1), (str y.2.1), (.bool y.2.2)] ∧ SH r (L) w' := by
 obtain ⟨hlt, G⟩ := chk_some G
 cases G
 obtain ⟨_, hv, m, rfl⟩ := Gc.at_ hG1 X qz hZ
 refine Calls.mono (Any.strings_Cut Tryz.cutL ⟨a0.toArray⟩ ⟨a1.toArray⟩ m w (by simpa [ByteArray.size] using hlt) hv) ?_
 rintro e w' ⟨rfl, n, rfl⟩
 exact ⟨_, rfl, rfl, X.drewN n⟩
theorem F_strconv_ParseUint {r : World} {L : List HP} {w : World} {Z : Nat → Prop} {wz : World} (a0 : (List UInt8)) (a1 : Int) (a2 : Int) {y : (Int × Bool)} (G : strconv_ParseUint a0 a1 a2 = some y) (qz : Nat) (hZ : L[qz]? = some (zone Z wz)) (hG2 : Gc Z wz 2 isEr) (hG3 : Gc Z wz 3 isEr) (X : SH r (L) w) :
  Ret Tryz.prog 46 #[str a0, .int .i64 a1, .int .i64 a2] w fun v w' => ∃ (E1 : Value), v = .tuple #[(.int .u64 y.1), E1] ∧ ErV y.2 E1 ∧ SH r (L) w' := by
 have q := chk_some G
 clear G
 obtain ⟨⟨rfl, rfl, hlt⟩, G⟩ := q
 have hsz : (⟨a0.toArray⟩ : ByteArray).size = a0.length := by simp [ByteArray.size]
 rcases hu : Lib.parseUintB 32 a0 with u | _ | _
 ·rw [hu] at G
  cases G
  refine Calls.mono (Any.strconv_ParseUint_10_at32_ok Tryz.puL ⟨a0.toArray⟩ (by omega) u hu w) ?_
  rintro e w' ⟨rfl, hw⟩
  refine ⟨_, rfl, _, rfl, rfl, ?_⟩
  rcases hw with rfl | rfl
  ·exact X
  ·exact X.bel (Lib.bytesWorld_below _ _ _)
 ·rw [hu] at G
  cases G
  obtain ⟨ev, hv, hev⟩ := Gc.at_ hG2 X qz hZ
  refine Calls.mono (Any.strconv_ParseUint_10_at32_syntax Tryz.puL ⟨a0.toArray⟩ (by omega) hu ev w hv hev) ?_
  rintro e w' ⟨N, rfl, _, _, hb⟩
  exact ⟨_, rfl, _, rfl, ⟨_, _, rfl⟩, X.bel hb⟩
 ·rw [hu] at G
  cases G
  obtain ⟨ev, hv, hev⟩ := Gc.at_ hG3 X qz hZ
  refine Calls.mono (Any.strconv_ParseUint_10_at32_range Tryz.puL ⟨a0.toArray⟩ (by omega) hu ev w hv hev) ?_
  rintro e w' ⟨N, rfl, _, _, hb⟩
  exact ⟨_, rfl, _, rfl, ⟨_, _, rfl⟩, X.bel hb⟩
noncomputable section
set_option linter.unusedSimpArgs false
def commit_file (a0 : (List UInt8)) (a1 : Int) : Option ((List UInt8)) :=
  chk (a0.length + [46].length ≤ maxLen) ((strconv_FormatUint a1 10).bind fun y104 => (chk ((a0 ++ [46]).length + y104.length ≤ maxLen) (some ((a0 ++ [46]) ++ y104))))
def commit_lost (a0 : Int) : Option (Int) :=
  if (a0 == 5) = true then (some 3) else (some a0)
def commit_last_1 (a0 : S121) (a1 : Int) : Option ((S121 × Int) ⊕ (S121 × Int)) :=
  (column_Reader_Uint a0 500).bind fun y105 => (sum_ y105 (fun y105 => (some (.inl (y105.2, y105.1)))) (fun y105 => (some (.inr (y105, a1)))))
def Try_commit_last_1 (a0 : (List Int)) (a60 : Int) : Option (Bool × Int) :=
  (commit_last_1 (⟨a0⟩ : S121) a60).bind fun y => (sum_ y (fun y => some ((((y.1.f0.length : Int) == 0), y.2))) (fun y => some ((false, y.2))))
def commit_last_j1 (a0 : S66) (x153 : Int) (b154 : Bool) : Option (Int × Int × S66) :=
  if b154 = true then (some (0, 3, a0)) else (some (x153, 0, a0))
def commit_last (a0 : S66) : Option (Int × Int × S66) :=
  (files_Store_Read (some a0) [109, 97, 110]).bind fun y106 => (if (y106.2 == 5) = true then (some (0, 0, a0)) else (if (y106.2 == 0) = true then ((page_One y106.1 109).bind fun y129 => (if (y129.2 != 0) = true then (some (0, y129.2, a0)) else ((Try_commit_last_1 y129.1 0).bind fun y163 => (if (!y163.1) = true then (commit_last_j1 a0 y163.2 true) else (commit_last_j1 a0 y163.2 (y163.2 == 0)))))) else (some (0, y106.2, a0))))
def commit_sweep_b1 (l2281 : (List S72)) (x2285 : Int) (x2286 : Int) (b2287 : Bool) (x2288 : Int) : Option (Int × S66) :=
  some (0, (⟨l2281, x2285, x2286, b2287, x2288⟩ : S66))
def commit_sweep_x1_0 (l2769 : (List S72)) (x2773 : Int) (x2774 : Int) (b2775 : Bool) (x2776 : Int) : Option (Int × S66) :=
  commit_sweep_b1 l2769 x2773 x2774 b2775 x2776
def commit_sweep_b2 (x2533 : Int) (l2943 : (List S72)) (x2947 : Int) (x2948 : Int) (b2949 : Bool) (x2950 : Int) : Option (((List S72) × Int × Int × Bool × Int × Int) ⊕ (((List S72) × Int × Int × Bool × Int) ⊕ (Int × S66))) :=
  ltt (IntKind.i64.wrap (x2533 + 1)) fun x2951 => (some (.inl (l2943, x2947, x2948, b2949, x2950, x2951)))
def commit_sweep_j2 (l2525 : (List S72)) (x2529 : Int) (x2530 : Int) (b2531 : Bool) (x2532 : Int) (x2533 : Int) (x2954 : (List UInt8)) (b2978 : Bool) : Option (((List S72) × Int × Int × Bool × Int × Int) ⊕ (((List S72) × Int × Int × Bool × Int) ⊕ (Int × S66))) :=
  if b2978 = true then ((files_Store_Delete (some (⟨l2525, x2529, x2530, b2531, x2532⟩ : S66)) x2954).bind fun y2981 => ((y2981.2).bind fun o2983 => (if (y2981.1 != 0) = true then (some (.inr (.inr (y2981.1, o2983)))) else (commit_sweep_b2 x2533 o2983.f0 o2983.f1 o2983.f2 o2983.f3 o2983.f4)))) else (commit_sweep_b2 x2533 l2525 x2529 x2530 b2531 x2532)
def commit_sweep_j1 (l2525 : (List S72)) (x2529 : Int) (x2530 : Int) (b2531 : Bool) (x2532 : Int) (x2533 : Int) (x2954 : (List UInt8)) (y2958 : ((List UInt8) × (List UInt8) × Bool)) (b2973 : Bool) : Option (((List S72) × Int × Int × Bool × Int × Int) ⊕ (((List S72) × Int × Int × Bool × Int) ⊕ (Int × S66))) :=
  if (x2954 == [109, 97, 110, 46, 116, 109, 112]) = true then (commit_sweep_j2 l2525 x2529 x2530 b2531 x2532 x2533 x2954 true) else (if (y2958.1 == [115, 116, 97, 116, 101]) = true then (commit_sweep_j2 l2525 x2529 x2530 b2531 x2532 x2533 x2954 b2973) else (if (y2958.1 == [111, 117, 116]) = true then (commit_sweep_j2 l2525 x2529 x2530 b2531 x2532 x2533 x2954 b2973) else (commit_sweep_j2 l2525 x2529 x2530 b2531 x2532 x2533 x2954 false)))
def commit_sweep_l1 (a1 : Int) (y1556 : ((List (List UInt8)))) (l2525 : (List S72)) (x2529 : Int) (x2530 : Int) (b2531 : Bool) (x2532 : Int) (x2533 : Int) : Option (((List S72) × Int × Int × Bool × Int × Int) ⊕ (((List S72) × Int × Int × Bool × Int) ⊕ (Int × S66))) :=
  if (decide (x2533 < (y1556.length : Int))) = true then ((at_ y1556 x2533).bind fun x2954 => ((strings_Cut x2954 [46]).bind fun y2958 => ((strconv_ParseUint y2958.2.1 10 32).bind fun y2961 => (if y2961.2 = true then (commit_sweep_j1 l2525 x2529 x2530 b2531 x2532 x2533 x2954 y2958 true) else (if (y2958.1 == [115, 116, 97, 116, 101]) = true then (if (y2961.1 != a1) = true then (commit_sweep_j1 l2525 x2529 x2530 b2531 x2532 x2533 x2954 y2958 true) else (if (y2958.1 == [111, 117, 116]) = true then (if (y2961.1 == 0) = true then (commit_sweep_j1 l2525 x2529 x2530 b2531 x2532 x2533 x2954 y2958 true) else (commit_sweep_j1 l2525 x2529 x2530 b2531 x2532 x2533 x2954 y2958 (decide (a1 < y2961.1)))) else (commit_sweep_j1 l2525 x2529 x2530 b2531 x2532 x2533 x2954 y2958 false))) else (if (y2958.1 == [111, 117, 116]) = true then (if (y2961.1 == 0) = true then (commit_sweep_j1 l2525 x2529 x2530 b2531 x2532 x2533 x2954 y2958 true) else (commit_sweep_j1 l2525 x2529 x2530 b2531 x2532 x2533 x2954 y2958 (decide (a1 < y2961.1)))) else (commit_sweep_j1 l2525 x2529 x2530 b2531 x2532 x2533 x2954 y2958 false))))))) else (some (.inr (.inl (l2525, x2529, x2530, b2531, x2532))))
def commit_sweep (a0 : S66) (a1 : Int) : Option (Int × S66) :=
  (files_Store_List (some a0)).bind fun y1556 => ((loop (fun s => commit_sweep_l1 a1 y1556 s.1 s.2.1 s.2.2.1 s.2.2.2.1 s.2.2.2.2.1 s.2.2.2.2.2) (a0.f0, a0.f1, a0.f2, a0.f3, a0.f4, 0)).bind fun t => match t with | (.inl t) => commit_sweep_x1_0 t.1 t.2.1 t.2.2.1 t.2.2.2.1 t.2.2.2.2 | (.inr t) => some t)
def commit_put_j1 (l123 : (List S72)) (x127 : Int) (x128 : Int) (b129 : Bool) (x130 : Int) (x131 : Int) : Option (Int × S66) :=
  some (x131, (⟨l123, x127, x128, b129, x130⟩ : S66))
def commit_put (a0 : S66) (a1 : (List UInt8)) (a2 : (List Int)) : Option (Int × S66) :=
  (files_Store_Append (some a0) a1 a2).bind fun y106 => ((y106.2).bind fun o108 => (if (y106.1 == 0) = true then ((files_Store_Sync (some o108) a1).bind fun y135 => ((y135.2).bind fun o137 => (commit_put_j1 o137.f0 o137.f1 o137.f2 o137.f3 o137.f4 y135.1))) else (commit_put_j1 o108.f0 o108.f1 o108.f2 o108.f3 o108.f4 y106.1)))
def commit_write (a0 : S66) (a1 : Int) (a2 : (List Int)) (a3 : (List S63)) : Option (Int × S66) :=
  (commit_file [111, 117, 116] a1).bind fun y107 => ((ledger_Lay a3).bind fun y109 => ((commit_put a0 y107 y109).bind fun y114 => (if (y114.1 != 0) = true then (some (y114.1, y114.2)) else ((commit_file [115, 116, 97, 116, 101] a1).bind fun y124 => ((commit_put y114.2 y124 a2).bind fun y126 => (if (y126.1 != 0) = true then (some (y126.1, y126.2)) else ((column_Uint [] a1).bind fun y136 => ((page_Lay [] 109 y136).bind fun y141 => ((commit_put y126.2 [109, 97, 110, 46, 116, 109, 112] y141).bind fun y146 => (if (y146.1 != 0) = true then (some (y146.1, y146.2)) else ((files_Store_Rename (some y146.2) [109, 97, 110, 46, 116, 109, 112] [109, 97, 110]).bind fun y155 => ((y155.2).bind fun o157 => (some (y155.1, o157))))))))))))))
def commit_Put_j5 (a1 : Int) (y120 : (Int × Int × S66)) (l167 : (List S72)) (x171 : Int) (x172 : Int) (b173 : Bool) (x174 : Int) (x175 : Int) (b179 : Bool) : Option (Int × (Option S66)) :=
  if b179 = true then ((commit_sweep (⟨l167, x171, x172, b173, x174⟩ : S66) y120.1).bind fun y182 => (some (x175, some y182.2))) else (if (x175 == 0) = true then ((commit_sweep (⟨l167, x171, x172, b173, x174⟩ : S66) a1).bind fun y192 => (some (y192.1, some y192.2))) else (some (x175, some (⟨l167, x171, x172, b173, x174⟩ : S66))))
def commit_Put_j4 (a1 : Int) (y120 : (Int × Int × S66)) (l167 : (List S72)) (x171 : Int) (x172 : Int) (b173 : Bool) (x174 : Int) (x175 : Int) : Option (Int × (Option S66)) :=
  if (x175 != 0) = true then (commit_Put_j5 a1 y120 l167 x171 x172 b173 x174 x175 (x175 != 9)) else (commit_Put_j5 a1 y120 l167 x171 x172 b173 x174 x175 false)
def commit_Put_j3 (a1 : Int) (a2 : (List Int)) (a3 : (List S63)) (y120 : (Int × Int × S66)) (l150 : (List S72)) (x154 : Int) (x155 : Int) (b156 : Bool) (x157 : Int) (x158 : Int) : Option (Int × (Option S66)) :=
  if (x158 == 0) = true then ((commit_write (⟨l150, x154, x155, b156, x157⟩ : S66) a1 a2 a3).bind fun y201 => (commit_Put_j4 a1 y120 y201.2.f0 y201.2.f1 y201.2.f2 y201.2.f3 y201.2.f4 y201.1)) else (commit_Put_j4 a1 y120 l150 x154 x155 b156 x157 x158)
def commit_Put_j2 (a1 : Int) (a2 : (List Int)) (a3 : (List S63)) (y120 : (Int × Int × S66)) (x141 : Int) : Option (Int × (Option S66)) :=
  if (x141 == 0) = true then ((commit_sweep y120.2.2 y120.1).bind fun y208 => (commit_Put_j3 a1 a2 a3 y120 y208.2.f0 y208.2.f1 y208.2.f2 y208.2.f3 y208.2.f4 y208.1)) else (commit_Put_j3 a1 a2 a3 y120 y120.2.2.f0 y120.2.2.f1 y120.2.2.f2 y120.2.2.f3 y120.2.2.f4 x141)
def commit_Put_j6 (a1 : Int) (a2 : (List Int)) (a3 : (List S63)) (y120 : (Int × Int × S66)) (b217 : Bool) : Option (Int × (Option S66)) :=
  if b217 = true then (commit_Put_j2 a1 a2 a3 y120 7) else (commit_Put_j2 a1 a2 a3 y120 y120.2.1)
def commit_Put_j1 (a1 : Int) (a2 : (List Int)) (a3 : (List S63)) (x101 : S66) (b116 : Bool) : Option (Int × (Option S66)) :=
  if b116 = true then (some (1, some x101)) else ((commit_last x101).bind fun y120 => (if (y120.2.1 == 0) = true then (ltt (IntKind.u64.wrap (a1 - 1)) fun x220 => (commit_Put_j6 a1 a2 a3 y120 (y120.1 != x220))) else (commit_Put_j6 a1 a2 a3 y120 false)))
def commit_Put (a0 : (Option S66)) (a1 : Int) (a2 : (List Int)) (a3 : (List S63)) : Option (Int × (Option S66)) :=
  match a0 with | none => (some (5, none)) | some x101 => (if (decide (a1 < 1)) = true then (commit_Put_j1 a1 a2 a3 x101 true) else (commit_Put_j1 a1 a2 a3 x101 (decide (125 < a1))))
def commit_Recover_b1 (y114 : (Int × Int × S66)) (l130 : (List S72)) (x134 : Int) (x135 : Int) (b136 : Bool) (x137 : Int) (y148 : ((List Int) × Int)) (l775 : (List S63)) : Option (Int × (List Int) × (List S63) × Int × (Option S66)) :=
  some (y114.1, y148.1, l775, 0, some (⟨l130, x134, x135, b136, x137⟩ : S66))
def commit_Recover_x1_0 (y114 : (Int × Int × S66)) (l130 : (List S72)) (x134 : Int) (x135 : Int) (b136 : Bool) (x137 : Int) (y148 : ((List Int) × Int)) (l923 : (List S63)) : Option (Int × (List Int) × (List S63) × Int × (Option S66)) :=
  commit_Recover_b1 y114 l130 x134 x135 b136 x137 y148 l923
def commit_Recover_l1 (y114 : (Int × Int × S66)) (l130 : (List S72)) (x134 : Int) (x135 : Int) (b136 : Bool) (x137 : Int) (l853 : (List S63)) (x857 : Int) : Option (((List S63) × Int) ⊕ (((List S63)) ⊕ (Int × (List Int) × (List S63) × Int × (Option S66)))) :=
  if (decide (x857 ≤ y114.1)) = true then ((commit_file [111, 117, 116] x857).bind fun y934 => ((files_Store_Read (some (⟨l130, x134, x135, b136, x137⟩ : S66)) y934).bind fun y936 => (if (y936.2 != 0) = true then ((commit_lost y936.2).bind fun y950 => (some (.inr (.inr (0, [], [], y950, some (⟨l130, x134, x135, b136, x137⟩ : S66)))))) else ((ledger_Read y936.1).bind fun y957 => (if (y957.2 != 0) = true then (some (.inr (.inr (0, [], [], y957.2, some (⟨l130, x134, x135, b136, x137⟩ : S66))))) else (chk (l853.length + y957.1.length ≤ 140737488355328 / 88) (ltt (IntKind.u64.wrap (x857 + 1)) fun x974 => (some (.inl (l853 ++ y957.1, x974)))))))))) else (some (.inr (.inl (l853))))
def commit_Recover_j2 (y114 : (Int × Int × S66)) (l130 : (List S72)) (x134 : Int) (x135 : Int) (b136 : Bool) (x137 : Int) (x138 : Int) (b142 : Bool) : Option (Int × (List Int) × (List S63) × Int × (Option S66)) :=
  if b142 = true then (some (0, [], [], x138, some (⟨l130, x134, x135, b136, x137⟩ : S66))) else ((commit_file [115, 116, 97, 116, 101] y114.1).bind fun y146 => ((files_Store_Read (some (⟨l130, x134, x135, b136, x137⟩ : S66)) y146).bind fun y148 => (if (y148.2 != 0) = true then ((commit_lost y148.2).bind fun y162 => (some (0, [], [], y162, some (⟨l130, x134, x135, b136, x137⟩ : S66)))) else ((loop (fun s => commit_Recover_l1 y114 l130 x134 x135 b136 x137 s.1 s.2) ([], 1)).bind fun t => match t with | (.inl t) => commit_Recover_x1_0 y114 l130 x134 x135 b136 x137 y148 t | (.inr t) => some t))))
def commit_Recover_j1 (y114 : (Int × Int × S66)) (l130 : (List S72)) (x134 : Int) (x135 : Int) (b136 : Bool) (x137 : Int) (x138 : Int) : Option (Int × (List Int) × (List S63) × Int × (Option S66)) :=
  if (x138 != 0) = true then (commit_Recover_j2 y114 l130 x134 x135 b136 x137 x138 true) else (commit_Recover_j2 y114 l130 x134 x135 b136 x137 x138 (y114.1 == 0))
def commit_Recover (a0 : (Option S66)) : Option (Int × (List Int) × (List S63) × Int × (Option S66)) :=
  match a0 with | none => (some (0, [], [], 5, none)) | some x101 => ((commit_last x101).bind fun y114 => (if (y114.2.1 == 0) = true then ((commit_sweep y114.2.2 y114.1).bind fun y979 => (commit_Recover_j1 y114 y979.2.f0 y979.2.f1 y979.2.f2 y979.2.f3 y979.2.f4 y979.1)) else (commit_Recover_j1 y114 y114.2.2.f0 y114.2.2.f1 y114.2.2.f2 y114.2.2.f3 y114.2.2.f4 y114.2.1)))
end
end Go.Proofs.YtffdckhgkhhbjaaGreatDoor.M
