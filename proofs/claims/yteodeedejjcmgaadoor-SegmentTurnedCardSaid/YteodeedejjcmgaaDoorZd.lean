/- Texts of the claim, joined: what it uses of Drf, Mrf, Drg, Mrg, Dtx, Mtx, Va, Dst0, Vb, Dst, Mst, Dev. -/
import Derived.Test.YteodeedejjcmgaaDoorZc
import Derived.Test.YteodeedejjcmgaaDoorProg
import Derived.Shelf.SlIter.Sorted
import Derived.Shelf.Sort.Plain
import Derived.Shelf.Slices.In.SortNone
import Derived.Shelf.Slices.CompactS
import Derived.KernelRfl
namespace Go.Proofs.YteodeedejjcmgaaDoor.M
open Go Go.RowKit Go.Proofs.YteodeedejjcmgaaDoor.E
set_option linter.unusedVariables false
noncomputable section
set_option linter.unusedSimpArgs false
def math_IsNaN (a0 : Nat) : Option (Bool) :=
  some (!feq a0 a0)
def real_Canon (a0 : Nat) : Option (Nat) :=
  (math_IsNaN a0).bind fun y104 => (if y104 = true then (some ((9221120237041090560 : Int).toNat)) else (some a0))
def real_Bits (a0 : Nat) : Option (Int) :=
  (real_Canon a0).bind fun y103 => (some (y103 : Int))
def real_Of (a0 : Int) : Option (Nat) :=
  (real_Canon a0.toNat).bind fun y103 => (some y103)
def r01_Bits_j1 (a0 : Nat) (b112 : Bool) : Option (Int) :=
  if b112 = true then (some 9221120237041090560) else (some (a0 : Int))
def r01_Bits (a0 : Nat) : Option (Int) :=
  ltt (ishr .u64 (a0 : Int) 52) fun x116 => (ltt (x116.tmod 2048) fun x118 => (if (x118 == 2047) = true then (ltt ((a0 : Int).tmod 4503599627370496) fun x121 => (r01_Bits_j1 a0 (x121 != 0))) else (r01_Bits_j1 a0 false)))
def r01_Same (a0 : Nat) (a1 : Nat) : Option (Bool) :=
  (r01_Bits a0).bind fun y103 => ((r01_Bits a1).bind fun y105 => (some (y103 == y105)))
def column_ReadReals_b1 (l450 : (List Nat)) : Option ((List Nat) × Int) :=
  some (l450, 0)
def column_ReadReals_x1_0 (l532 : (List Nat)) : Option ((List Nat) × Int) :=
  column_ReadReals_b1 l532
def column_ReadReals_l1 (y103 : ((List Int) × Int)) (l495 : (List Nat)) (x499 : Int) : Option (((List Nat) × Int) ⊕ (((List Nat)) ⊕ ((List Nat) × Int))) :=
  if (decide (x499 < (y103.1.length : Int))) = true then ((at_ y103.1 x499).bind fun x543 => (ltt (IntKind.u64.wrap x543) fun x547 => ((real_Of x547).bind fun y549 => ((real_Bits y549).bind fun y553 => (if (y553 != x547) = true then (some (.inr (.inr ([], 3)))) else (chk (l495.length + [y549].length ≤ 140737488355328 / 8) (ltt (IntKind.i64.wrap (x499 + 1)) fun x562 => (some (.inl (l495 ++ [y549], x562)))))))))) else (some (.inr (.inl (l495))))
def column_ReadReals (a0 : (List Int)) : Option ((List Nat) × Int) :=
  (column_ReadInts a0).bind fun y103 => (if (y103.2 != 0) = true then (some ([], y103.2)) else ((loop (fun s => column_ReadReals_l1 y103 s.1 s.2) ([], 0)).bind fun t => match t with | (.inl t) => column_ReadReals_x1_0 t | (.inr t) => some t))
end
set_option maxRecDepth 100000
set_option maxHeartbeats 4000000
set_option linter.unusedSimpArgs false
theorem F_math_IsNaN {r : World} {L : List HP} {w : World} (a0 : Nat) {y : (Bool)} (G : math_IsNaN a0 = some y) (X : SH r (L) w) :
  Ret Tryd.prog 102 #[.float .f64 a0] w fun v w' => v = .bool y ∧ SH r (L) w' := by
 refine enter Tryd.func102 rfl Tryd.ntmps102 [(0, .float .f64 a0)] rfl (by simp) ?_
 intro U J Qf hQ hQn
 unfold math_IsNaN at G
 refine ws fun K100 hK100 => ?_
 refine x_m J rfl fun U J => ?_
 refine wn (hK100 _ _ ?_)
 refine ws fun K101 hK101 => ?_
 refine x_m J rfl fun U J => ?_
 refine x_m J rfl fun U J => ?_
 refine x_v J (r_neF rfl (J.ev rfl) (J.ev rfl)) rfl fun U J => ?_
 refine x_m J rfl fun U J => ?_
 refine wn (hK101 _ _ ?_)
 refine wp_ret ?_
 cases G
 refine hQ _ _ ?_
 refine lv Tryd.results102 J rfl ?_
 exact ⟨rfl, X⟩
theorem F_real_Canon {r : World} {L : List HP} {w : World} (a0 : Nat) {y : (Nat)} (G : real_Canon a0 = some y) (X : SH r (L) w) :
  Ret Tryd.prog 90 #[.float .f64 a0] w fun v w' => v = .float .f64 y ∧ SH r (L) w' := by
 refine enter Tryd.func90 rfl Tryd.ntmps90 [(0, .float .f64 a0)] rfl (by simp) ?_
 intro U J Qf hQ hQn
 unfold real_Canon at G
 refine ws fun K100 hK100 => ?_
 refine x_m J rfl fun U J => ?_
 refine wn (hK100 _ _ ?_)
 refine wp_seq_k fun K101 hK101 => ?_
 refine ws fun K102 hK102 => ?_
 refine x_m J rfl fun U J => ?_
 obtain ⟨y103, h104, G⟩ := bnd G
 refine x_call' en102 J (F_math_IsNaN (L := L) a0 h104 X) (fun v U w hR J => ?_) rfl
 obtain ⟨rfl, X⟩ := hR
 refine wn (hK102 _ _ ?_)
 refine c_if J rfl (fun hb105 => ?_) fun hb105 => ?_
 ·replace G := ift hb105 G
  refine ws fun K106 hK106 => ?_
  refine x_v J (r_ext (ex95 _) rfl (evs J rfl)) rfl fun U J => ?_
  refine x_m J rfl fun U J => ?_
  refine wn (hK106 _ _ ?_)
  refine wp_ret ?_
  cases G
  refine hQ _ _ ?_
  refine lv Tryd.results90 J rfl ?_
  exact ⟨rfl, X⟩
 replace G := iff' hb105 G
 refine wp_skip ?_
 refine hK101 _ _ ?_
 refine ws fun K107 hK107 => ?_
 refine x_m J rfl fun U J => ?_
 refine x_m J rfl fun U J => ?_
 refine wn (hK107 _ _ ?_)
 refine wp_ret ?_
 cases G
 refine hQ _ _ ?_
 refine lv Tryd.results90 J rfl ?_
 exact ⟨rfl, X⟩
theorem F_real_Bits {r : World} {L : List HP} {w : World} (a0 : Nat) {y : (Int)} (G : real_Bits a0 = some y) (X : SH r (L) w) :
  Ret Tryd.prog 73 #[.float .f64 a0] w fun v w' => v = .int .u64 y ∧ SH r (L) w' := by
 refine enter Tryd.func73 rfl Tryd.ntmps73 [(0, .float .f64 a0)] rfl (by simp) ?_
 intro U J Qf hQ hQn
 unfold real_Bits at G
 refine ws fun K100 hK100 => ?_
 refine x_m J rfl fun U J => ?_
 refine wn (hK100 _ _ ?_)
 refine ws fun K101 hK101 => ?_
 refine x_m J rfl fun U J => ?_
 obtain ⟨y102, h103, G⟩ := bnd G
 refine x_call' en90 J (F_real_Canon (L := L) a0 h103 X) (fun v U w hR J => ?_) rfl
 obtain ⟨rfl, X⟩ := hR
 refine x_v J (r_ext (ex89 _) rfl (evs J rfl)) rfl fun U J => ?_
 refine x_m J rfl fun U J => ?_
 refine wn (hK101 _ _ ?_)
 refine wp_ret ?_
 cases G
 refine hQ _ _ ?_
 refine lv Tryd.results73 J rfl ?_
 exact ⟨rfl, X⟩
theorem F_real_Of {r : World} {L : List HP} {w : World} (a0 : Int) {y : (Nat)} (G : real_Of a0 = some y) (X : SH r (L) w) :
  Ret Tryd.prog 81 #[.int .u64 a0] w fun v w' => v = .float .f64 y ∧ SH r (L) w' := by
 refine enter Tryd.func81 rfl Tryd.ntmps81 [(0, .int .u64 a0)] rfl (by simp) ?_
 intro U J Qf hQ hQn
 unfold real_Of at G
 refine ws fun K100 hK100 => ?_
 refine x_m J rfl fun U J => ?_
 refine wn (hK100 _ _ ?_)
 refine ws fun K101 hK101 => ?_
 refine x_m J rfl fun U J => ?_
 refine x_v J (r_ext (ex95 _) rfl (evs J rfl)) rfl fun U J => ?_
 obtain ⟨y102, h103, G⟩ := bnd G
 refine x_call' en90 J (F_real_Canon (L := L) a0.toNat h103 X) (fun v U w hR J => ?_) rfl
 obtain ⟨rfl, X⟩ := hR
 refine x_m J rfl fun U J => ?_
 refine wn (hK101 _ _ ?_)
 refine wp_ret ?_
 cases G
 refine hQ _ _ ?_
 refine lv Tryd.results81 J rfl ?_
 exact ⟨rfl, X⟩
theorem F_r01_Bits {r : World} {L : List HP} {w : World} (a0 : Nat) {y : (Int)} (G : r01_Bits a0 = some y) (X : SH r (L) w) :
  Ret Tryd.prog 75 #[.float .f64 a0] w fun v w' => v = .int .u64 y ∧ SH r (L) w' := by
 refine enter Tryd.func75 rfl Tryd.ntmps75 [(0, .float .f64 a0)] rfl (by simp) ?_
 intro U J Qf hQ hQn
 unfold r01_Bits at G
 refine ws fun K100 hK100 => ?_
 refine x_m J rfl fun U J => ?_
 refine wn (hK100 _ _ ?_)
 refine ws fun K101 hK101 => ?_
 refine x_m J rfl fun U J => ?_
 refine x_v J (r_ext (ex89 _) rfl (evs J rfl)) rfl fun U J => ?_
 refine x_m J rfl fun U J => ?_
 refine wn (hK101 _ _ ?_)
 refine wp_seq_k fun K102 hK102 => ?_
 refine wp_seq_k fun K103 hK103 => ?_
 have hj1 : ∀ (b104 : Bool), r01_Bits_j1 a0 b104 = some y → ∀ (U : Act) (w : World), FR 16 [] U [(3, .int .u64 (a0 : Int)), (14, .bool b104)] → SH r (L) w → K103 U w := by
  intro b104 G U w J X
  unfold r01_Bits_j1 at G
  refine hK103 _ _ ?_
  refine c_if J rfl (fun hb105 => ?_) fun hb105 => ?_
  ·replace G := ift hb105 G
   refine ws fun K106 hK106 => ?_
   refine x_m J rfl fun U J => ?_
   refine wn (hK106 _ _ ?_)
   refine wp_ret ?_
   cases G
   refine hQ _ _ ?_
   refine lv Tryd.results75 J rfl ?_
   exact ⟨rfl, X⟩
  replace G := iff' hb105 G
  refine wp_skip ?_
  refine hK102 _ _ ?_
  refine ws fun K107 hK107 => ?_
  refine x_m J rfl fun U J => ?_
  refine x_m J rfl fun U J => ?_
  refine wn (hK107 _ _ ?_)
  refine wp_ret ?_
  cases G
  refine hQ _ _ ?_
  refine lv Tryd.results75 J rfl ?_
  exact ⟨rfl, X⟩
 refine wp_reg ?_
 refine x_m J rfl fun U J => ?_
 obtain ⟨x108, h109, G⟩ := ltt_ G
 refine x_v (v := .int .u64 x108) J (rv_i h109 (r_shr rfl (J.ev rfl) (J.ev rfl) (by decide))) rfl fun U J => ?_
 obtain ⟨x110, h111, G⟩ := ltt_ G
 refine x_v (v := .int .u64 x110) J (rv_i h111 (r_rem rfl (J.ev rfl) (J.ev rfl) (by decide))) rfl fun U J => ?_
 refine x_v J (r_eqI rfl (J.ev rfl) (J.ev rfl)) rfl fun U J => ?_
 refine x_m J rfl fun U J => ?_
 refine bcase (b := x110 == 2047) (fun hb112 => ?_) fun hb112 => ?_
 ·replace G := ift hb112 G
  refine x_on' hb112 J ?_ rfl
  refine x_m J rfl fun U J => ?_
  refine x_on' hb112 J ?_ rfl
  obtain ⟨x113, h114, G⟩ := ltt_ G
  refine x_v (v := .int .u64 x113) J (rv_i h114 (r_rem rfl (J.ev rfl) (J.ev rfl) (by decide))) rfl fun U J => ?_
  refine x_on' hb112 J ?_ rfl
  refine x_v J (r_neI rfl (J.ev rfl) (J.ev rfl)) rfl fun U J => ?_
  refine x_pickt' hb112 J (fun U J => ?_) rfl
  refine wpList_nil ?_
  exact hj1 (x113 != 0) G U w (J.sub _ rfl) X
 replace G := iff' hb112 G
 refine xO 3 hb112 J rfl fun U J => ?_
 refine x_pickf' hb112 J (fun U J => ?_) rfl
 refine wpList_nil ?_
 exact hj1 false G U w (J.sub _ rfl) X
theorem F_r01_Same {r : World} {L : List HP} {w : World} (a0 : Nat) (a1 : Nat) {y : (Bool)} (G : r01_Same a0 a1 = some y) (X : SH r (L) w) :
  Ret Tryd.prog 67 #[.float .f64 a0, .float .f64 a1] w fun v w' => v = .bool y ∧ SH r (L) w' := by
 refine enter Tryd.func67 rfl Tryd.ntmps67 [(0, .float .f64 a0), (1, .float .f64 a1)] rfl (by simp) ?_
 intro U J Qf hQ hQn
 unfold r01_Same at G
 refine ws fun K100 hK100 => ?_
 refine x_m J rfl fun U J => ?_
 refine wn (hK100 _ _ ?_)
 refine ws fun K101 hK101 => ?_
 refine x_m J rfl fun U J => ?_
 obtain ⟨y102, h103, G⟩ := bnd G
 refine x_call' en75 J (F_r01_Bits (L := L) a0 h103 X) (fun v U w hR J => ?_) rfl
 obtain ⟨rfl, X⟩ := hR
 refine x_m J rfl fun U J => ?_
 obtain ⟨y104, h105, G⟩ := bnd G
 refine x_call' en75 J (F_r01_Bits (L := L) a1 h105 X) (fun v U w hR J => ?_) rfl
 obtain ⟨rfl, X⟩ := hR
 refine x_v J (r_eqI rfl (J.ev rfl) (J.ev rfl)) rfl fun U J => ?_
 refine x_m J rfl fun U J => ?_
 refine wn (hK101 _ _ ?_)
 refine wp_ret ?_
 cases G
 refine hQ _ _ ?_
 refine lv Tryd.results67 J rfl ?_
 exact ⟨rfl, X⟩
theorem F_column_ReadReals {r : World} {L : List HP} {w : World} {Z : Nat → Prop} {wz : World} (a0 : (List Int)) (A0 : Option Addr) (n0 : Nat) (c0 : Nat) {y : ((List Nat) × Int)} (G : column_ReadReals a0 = some y) (qz : Nat) (hZ : L[qz]? = some (zone Z wz)) (ha0 : Imm Z wz (kI .u8) A0 n0 c0 a0) (X : SH r (L) w) :
  Ret Tryd.prog 65 #[.slice A0 n0 c0] w fun v w' => ∃ (B0 : Option Addr) (m0 : Nat) (d0 : Nat), v = .tuple #[(.slice B0 m0 d0), (.int .i64 y.2)] ∧ SH r (own kF 42 B0 m0 d0 y.1 :: L) w' := by
 refine enter Tryd.func65 rfl Tryd.ntmps65 [(0, .slice A0 n0 c0)] rfl (by simp) ?_
 intro U J Qf hQ hQn
 unfold column_ReadReals at G
 refine ws fun K100 hK100 => ?_
 refine x_m J rfl fun U J => ?_
 refine x_m J rfl fun U J => ?_
 refine wn (hK100 _ _ ?_)
 refine ws fun K101 hK101 => ?_
 refine x_m J rfl fun U J => ?_
 obtain ⟨y102, h103, G⟩ := bnd G
 refine x_call' en63 J (F_column_ReadInts (L := L) a0 A0 n0 c0 h103 (qz + 0) hZ ha0 X) (fun v U w hR J => ?_) rfl
 obtain ⟨B104, m105, d106, rfl, X⟩ := hR
 refine x_m J rfl fun U J => ?_
 refine x_v J (r_extract rfl (J.ev rfl) rfl) rfl fun U J => ?_
 refine x_v J (r_extract rfl (J.ev rfl) rfl) rfl fun U J => ?_
 refine x_m J rfl fun U J => ?_
 refine x_m J rfl fun U J => ?_
 refine wn (hK101 _ _ ?_)
 refine wp_seq_k fun K107 hK107 => ?_
 refine ws fun K108 hK108 => ?_
 refine x_m J rfl fun U J => ?_
 refine x_v J (r_neI rfl (J.ev rfl) (J.ev rfl)) rfl fun U J => ?_
 refine wn (hK108 _ _ ?_)
 refine c_if J rfl (fun hb109 => ?_) fun hb109 => ?_
 ·replace G := ift hb109 G
  refine ws fun K110 hK110 => ?_
  refine x_m J rfl fun U J => ?_
  refine x_m J rfl fun U J => ?_
  refine x_m J rfl fun U J => ?_
  refine wn (hK110 _ _ ?_)
  refine wp_ret ?_
  replace X := SH.nil_own (d := kF) (e := 42) X
  replace X := X.drop 1
  cases G
  refine hQ _ _ ?_
  refine lv2 Tryd.results65 J rfl rfl ?_
  exact ⟨none, 0, 0, rfl, X⟩
 replace G := iff' hb109 G
 refine wp_skip ?_
 refine hK107 _ _ ?_
 refine ws fun K111 hK111 => ?_
 refine x_m J rfl fun U J => ?_
 refine wn (hK111 _ _ ?_)
 refine wp_seq_k fun K112 hK112 => ?_
 refine ws fun K113 hK113 => ?_
 refine x_m J rfl fun U J => ?_
 refine x_len' uu90 (X.rd 0 rfl).2.1 J (fun U J => ?_) rfl
 refine x_m J rfl fun U J => ?_
 refine wn (hK113 _ _ ?_)
 refine wp_block_k fun Kx114 hKx114 => ?_
 have hb1 : ∀ (l115 : (List Nat)), column_ReadReals_b1 l115 = some y → ∀ (A116 : Option Addr) (n117 : Nat) (c118 : Nat) (U : Act) (w : World), FR 38 [] U [(6, .slice A116 n117 c118)] → SH r (own kF 42 A116 n117 c118 l115 :: L) w → Kx114 U w := by
  intro l115 G A116 n117 c118 U w J X
  unfold column_ReadReals_b1 at G
  refine hKx114 _ _ ?_
  refine hK112 _ _ ?_
  refine ws fun K119 hK119 => ?_
  refine x_m J rfl fun U J => ?_
  refine x_m J rfl fun U J => ?_
  refine x_m J rfl fun U J => ?_
  refine wn (hK119 _ _ ?_)
  refine wp_ret ?_
  cases G
  refine hQ _ _ ?_
  refine lv2 Tryd.results65 J rfl rfl ?_
  exact ⟨A116, n117, c118, rfl, X⟩
 obtain ⟨t120, hl120, G⟩ := bnd G
 have hR120 := G
 have hx120_0 : ∀ (l121 : (List Nat)), (.inl (l121)) = t120 → ∀ (A122 : Option Addr) (n123 : Nat) (c120 : Nat) (U : Act) (w : World), FR 38 [] U [(6, .slice A122 n123 c120)] → SH r (own kF 42 A122 n123 c120 l121 :: L) w → Kx114 U w := by
  intro l121 ht A122 n123 c120 U w J X
  subst ht
  replace G : column_ReadReals_x1_0 l121 = some y := G
  unfold column_ReadReals_x1_0 at G
  exact hb1 l121 G A122 n123 c120 U w (J.sub _ rfl) X
 replace X := SH.nil_own (d := kF) (e := 42) X
 refine wp_loop_fn hl120 (fun s U w => ∃ (A124 : Option Addr) (n125 : Nat) (c126 : Nat), FR 38 [] U [(6, .slice A124 n125 c126), (18, .slice B104 m105 d106), (19, .int .i64 (y102.1.length : Int)), (20, .int .i64 s.2)] ∧ SH r (own kF 42 A124 n125 c126 s.1 :: own (kI .i64) 2 B104 m105 d106 y102.1 :: L) w) ⟨none, 0, 0, J.sub _ rfl, X⟩ ?_
 intro N120 s120 o120 G N120_ T120_ U w hLab
 obtain ⟨l127, x128⟩ := s120
 replace G : column_ReadReals_l1 y102 l127 x128 = some o120 := G
 unfold column_ReadReals_l1 at G
 try dsimp only at hLab
 obtain ⟨A124, n125, c126, J, X⟩ := hLab
 refine ws fun K129 hK129 => ?_
 refine x_v J (r_ltI rfl (J.ev rfl) (J.ev rfl)) rfl fun U J => ?_
 refine wn (hK129 _ _ ?_)
 refine wp_seq_k fun K130 hK130 => ?_
 refine c_if J rfl (fun hb131 => ?_) fun hb131 => ?_
 ·replace G := ift hb131 G
  refine wp_skip ?_
  refine hK130 _ _ ?_
  refine wp_seq_k fun K132 hK132 => ?_
  refine wp_block_k fun Kx133 hKx133 => ?_
  refine ws fun K134 hK134 => ?_
  obtain ⟨x135, h136, G⟩ := bnd G
  refine x_ia' uu90 sz2 (X.rd 1 rfl) h136 J (fun U J => ?_) rfl
  obtain ⟨cs, hV, hc137⟩ := el (X.rd 1 rfl) h136
  obtain rfl := hV
  refine x_ld' uu2 (hc137 0 _ rfl) J (fun U J => ?_) rfl
  refine x_m J rfl fun U J => ?_
  refine wn (hK134 _ _ ?_)
  refine ws fun K138 hK138 => ?_
  refine x_m J rfl fun U J => ?_
  obtain ⟨x139, h140, G⟩ := ltt_ G
  refine x_v (v := .int .u64 x139) J (rv_i h140 (r_convI uu2 uu31 rfl (J.ev rfl))) rfl fun U J => ?_
  obtain ⟨y141, h142, G⟩ := bnd G
  refine x_call' en81 J (F_real_Of (L := own kF 42 A124 n125 c126 l127 :: own (kI .i64) 2 B104 m105 d106 y102.1 :: L) x139 h142 X) (fun v U w hR J => ?_) rfl
  obtain ⟨rfl, X⟩ := hR
  refine x_m J rfl fun U J => ?_
  refine wn (hK138 _ _ ?_)
  refine wp_seq_k fun K143 hK143 => ?_
  refine ws fun K144 hK144 => ?_
  refine x_m J rfl fun U J => ?_
  obtain ⟨y145, h146, G⟩ := bnd G
  refine x_call' en73 J (F_real_Bits (L := own kF 42 A124 n125 c126 l127 :: own (kI .i64) 2 B104 m105 d106 y102.1 :: L) y141 h146 X) (fun v U w hR J => ?_) rfl
  obtain ⟨rfl, X⟩ := hR
  refine x_m J rfl fun U J => ?_
  refine x_v (v := .int .u64 x139) J (rv_i h140 (r_convI uu2 uu31 rfl (J.ev rfl))) rfl fun U J => ?_
  refine x_v J (r_neI rfl (J.ev rfl) (J.ev rfl)) rfl fun U J => ?_
  refine wn (hK144 _ _ ?_)
  refine c_if J rfl (fun hb147 => ?_) fun hb147 => ?_
  ·replace G := ift hb147 G
   refine ws fun K148 hK148 => ?_
   refine x_m J rfl fun U J => ?_
   refine x_m J rfl fun U J => ?_
   refine wn (hK148 _ _ ?_)
   refine wp_ret ?_
   replace X := SH.nil_own (d := kF) (e := 42) X
   replace X := X.drop 1 |>.drop 1
   cases G
   have ht := T120_ _ rfl
   subst ht
   replace G := hR120
   replace G : some ([], 3) = some y := G
   cases G
   refine hQ _ _ ?_
   refine lv2 Tryd.results65 J rfl rfl ?_
   exact ⟨none, 0, 0, rfl, X⟩
  replace G := iff' hb147 G
  refine wp_skip ?_
  refine hK143 _ _ ?_
  refine wp_reg ?_
  refine x_m J rfl fun U J => ?_
  refine x_m J rfl fun U J => ?_
  refine x_bsl' (d := kF) (e := 42) (ps := #[(0, .float .f64 y141)]) (cells := [.float .f64 y141]) (xs := [y141]) (fun w => by kernel_rfl) rfl ⟨[.float .f64 y141], _, rfl, rfl, rfl⟩ J X (fun g149 U w X J => ?_) rfl
  obtain ⟨h150, G⟩ := chk_some G
  have hr := X.rd 0 rfl
  refine x_app' 1 inf42 uu92 J X hr.1 hr.2.1 h150 rfl (fun A151 n152 c153 U w X J => ?_) rfl
  refine x_m J rfl fun U J => ?_
  refine wpList_nil ?_
  refine hKx133 _ _ ?_
  refine hK132 _ _ ?_
  refine wp_reg ?_
  obtain ⟨x154, h155, G⟩ := ltt_ G
  refine x_v (v := .int .i64 x154) J (rv_i h155 (r_add rfl (J.ev rfl) (J.ev rfl))) rfl fun U J => ?_
  refine x_m J rfl fun U J => ?_
  refine wpList_nil ?_
  replace X := X.drop 1
  cases G
  exact ⟨_, N120_ _ rfl, A151, n152, c153, J.sub _ rfl, X⟩
 replace G := iff' hb131 G
 refine wp_exit ?_
 replace X := X.drop 1
 cases G
 exact hx120_0 l127 (T120_ _ rfl) A124 n125 c126 U w (J.sub _ rfl) X
noncomputable section
set_option linter.unusedSimpArgs false
def column_Reals_b1 (l377 : (List Int)) : Option ((List Int)) :=
  (column_Ints l377).bind fun y382 => (some y382)
def column_Reals_x1_0 (l450 : (List Int)) : Option ((List Int)) :=
  column_Reals_b1 l450
def column_Reals_l1 (a0 : (List Nat)) (l420 : (List Int)) (x424 : Int) : Option (((List Int) × Int) ⊕ (((List Int)))) :=
  if (decide (x424 < (a0.length : Int))) = true then ((at_ a0 x424).bind fun x461 => ((real_Bits x461).bind fun y464 => (ltt (IntKind.i64.wrap y464) fun x466 => (chk (l420.length + [x466].length ≤ 140737488355328 / 8) (ltt (IntKind.i64.wrap (x424 + 1)) fun x473 => (some (.inl (l420 ++ [x466], x473)))))))) else (some (.inr (l420)))
def column_Reals (a0 : (List Nat)) : Option ((List Int)) :=
  (loop (fun s => column_Reals_l1 a0 s.1 s.2) ([], 0)).bind fun t => column_Reals_x1_0 t
end
theorem F_column_Reals {r : World} {L : List HP} {w : World} (a0 : (List Nat)) (A0 : Option Addr) (n0 : Nat) (c0 : Nat) {y : ((List Int))} (G : column_Reals a0 = some y) (ha0 : RdL L kF A0 n0 c0 a0) (X : SH r (L) w) :
  Ret Tryd.prog 47 #[.slice A0 n0 c0] w fun v w' => ∃ (B0 : Option Addr) (m0 : Nat) (d0 : Nat), v = .slice B0 m0 d0 ∧ SH r (own (kI .u8) 5 B0 m0 d0 y :: L) w' := by
 refine enter Tryd.func47 rfl Tryd.ntmps47 [(0, .slice A0 n0 c0)] rfl (by simp) ?_
 intro U J Qf hQ hQn
 unfold column_Reals at G
 refine ws fun K100 hK100 => ?_
 refine x_m J rfl fun U J => ?_
 refine wn (hK100 _ _ ?_)
 refine ws fun K101 hK101 => ?_
 refine x_m J rfl fun U J => ?_
 refine wn (hK101 _ _ ?_)
 refine wp_seq_k fun K102 hK102 => ?_
 refine ws fun K103 hK103 => ?_
 refine x_m J rfl fun U J => ?_
 refine x_len' uu92 (X.rdl 0 ha0 rfl).2.1 J (fun U J => ?_) rfl
 refine x_m J rfl fun U J => ?_
 refine wn (hK103 _ _ ?_)
 refine wp_block_k fun Kx104 hKx104 => ?_
 have hb1 : ∀ (l105 : (List Int)), column_Reals_b1 l105 = some y → ∀ (A106 : Option Addr) (n107 : Nat) (c108 : Nat) (U : Act) (w : World), FR 21 [] U [(3, .slice A106 n107 c108)] → SH r (own (kI .i64) 2 A106 n107 c108 l105 :: L) w → Kx104 U w := by
  intro l105 G A106 n107 c108 U w J X
  unfold column_Reals_b1 at G
  refine hKx104 _ _ ?_
  refine hK102 _ _ ?_
  refine ws fun K109 hK109 => ?_
  refine x_m J rfl fun U J => ?_
  obtain ⟨y110, h111, G⟩ := bnd G
  refine x_call' en45 J (F_column_Ints (L := own (kI .i64) 2 A106 n107 c108 l105 :: L) l105 A106 n107 c108 h111 (RdL.own 0 rfl (X.dropN 0)) X) (fun v U w hR J => ?_) rfl
  obtain ⟨B112, m113, d114, rfl, X⟩ := hR
  refine x_m J rfl fun U J => ?_
  refine wn (hK109 _ _ ?_)
  refine wp_ret ?_
  replace X := X.drop 1
  cases G
  refine hQ _ _ ?_
  refine lv Tryd.results47 J rfl ?_
  exact ⟨B112, m113, d114, rfl, X⟩
 obtain ⟨t115, hl115, G⟩ := bnd G
 have hx115_0 : ∀ (l116 : (List Int)), (l116) = t115 → ∀ (A117 : Option Addr) (n118 : Nat) (c115 : Nat) (U : Act) (w : World), FR 21 [] U [(3, .slice A117 n118 c115)] → SH r (own (kI .i64) 2 A117 n118 c115 l116 :: L) w → Kx104 U w := by
  intro l116 ht A117 n118 c115 U w J X
  subst ht
  replace G : column_Reals_x1_0 l116 = some y := G
  unfold column_Reals_x1_0 at G
  exact hb1 l116 G A117 n118 c115 U w (J.sub _ rfl) X
 replace X := SH.nil_own (d := (kI .i64)) (e := 2) X
 refine wp_loop_fn hl115 (fun s U w => ∃ (A119 : Option Addr) (n120 : Nat) (c121 : Nat), FR 21 [] U [(3, .slice A119 n120 c121), (6, .slice A0 n0 c0), (7, .int .i64 (a0.length : Int)), (8, .int .i64 s.2)] ∧ SH r (own (kI .i64) 2 A119 n120 c121 s.1 :: L) w) ⟨none, 0, 0, J.sub _ rfl, X⟩ ?_
 intro N115 s115 o115 G N115_ T115_ U w hLab
 obtain ⟨l122, x123⟩ := s115
 replace G : column_Reals_l1 a0 l122 x123 = some o115 := G
 unfold column_Reals_l1 at G
 try dsimp only at hLab
 obtain ⟨A119, n120, c121, J, X⟩ := hLab
 refine ws fun K124 hK124 => ?_
 refine x_v J (r_ltI rfl (J.ev rfl) (J.ev rfl)) rfl fun U J => ?_
 refine wn (hK124 _ _ ?_)
 refine wp_seq_k fun K125 hK125 => ?_
 refine c_if J rfl (fun hb126 => ?_) fun hb126 => ?_
 ·replace G := ift hb126 G
  refine wp_skip ?_
  refine hK125 _ _ ?_
  refine wp_seq_k fun K127 hK127 => ?_
  refine wp_block_k fun Kx128 hKx128 => ?_
  refine ws fun K129 hK129 => ?_
  obtain ⟨x130, h131, G⟩ := bnd G
  refine x_ia' uu92 sz42 (X.rdl 1 ha0 rfl) h131 J (fun U J => ?_) rfl
  obtain ⟨cs, hV, hc132⟩ := el (X.rdl 1 ha0 rfl) h131
  obtain rfl := hV
  refine x_ld' uu42 (hc132 0 _ rfl) J (fun U J => ?_) rfl
  refine x_m J rfl fun U J => ?_
  refine wn (hK129 _ _ ?_)
  refine wp_reg ?_
  refine x_m J rfl fun U J => ?_
  refine x_m J rfl fun U J => ?_
  obtain ⟨y133, h134, G⟩ := bnd G
  refine x_call' en73 J (F_real_Bits (L := own (kI .i64) 2 A119 n120 c121 l122 :: L) x130 h134 X) (fun v U w hR J => ?_) rfl
  obtain ⟨rfl, X⟩ := hR
  obtain ⟨x135, h136, G⟩ := ltt_ G
  refine x_v (v := .int .i64 x135) J (rv_i h136 (r_convI uu31 uu2 rfl (J.ev rfl))) rfl fun U J => ?_
  refine x_bsl' (d := (kI .i64)) (e := 2) (ps := #[(0, .int .i64 x135)]) (cells := [.int .i64 x135]) (xs := [x135]) (fun w => by kernel_rfl) rfl ⟨[.int .i64 x135], _, rfl, rfl, rfl⟩ J X (fun g137 U w X J => ?_) rfl
  obtain ⟨h138, G⟩ := chk_some G
  have hr := X.rd 0 rfl
  refine x_app' 1 inf2 uu90 J X hr.1 hr.2.1 h138 rfl (fun A139 n140 c141 U w X J => ?_) rfl
  refine x_m J rfl fun U J => ?_
  refine wpList_nil ?_
  refine hKx128 _ _ ?_
  refine hK127 _ _ ?_
  refine wp_reg ?_
  obtain ⟨x142, h143, G⟩ := ltt_ G
  refine x_v (v := .int .i64 x142) J (rv_i h143 (r_add rfl (J.ev rfl) (J.ev rfl))) rfl fun U J => ?_
  refine x_m J rfl fun U J => ?_
  refine wpList_nil ?_
  replace X := X.drop 1
  cases G
  exact ⟨_, N115_ _ rfl, A139, n140, c141, J.sub _ rfl, X⟩
 replace G := iff' hb126 G
 refine wp_exit ?_
 cases G
 exact hx115_0 l122 (T115_ _ rfl) A119 n120 c121 U w (J.sub _ rfl) X
noncomputable section
set_option linter.unusedSimpArgs false
def slices_Index_bool_bool_b1 : Option (Int) :=
  some (-1)
def slices_Index_bool_bool_x1_0 : Option (Int) :=
  slices_Index_bool_bool_b1
def slices_Index_bool_bool_l1 (a0 : (List Bool)) (a1 : Bool) (x262 : Int) : Option ((Int) ⊕ ((Unit) ⊕ (Int))) :=
  if (decide (x262 < (a0.length : Int))) = true then ((at_ a0 x262).bind fun x286 => (if (a1 == x286) = true then (some (.inr (.inr x262))) else (ltt (IntKind.i64.wrap (x262 + 1)) fun x291 => (some (.inl (x291)))))) else (some (.inr (.inl ())))
def slices_Index_bool_bool (a0 : (List Bool)) (a1 : Bool) : Option (Int) :=
  (loop (fun s => slices_Index_bool_bool_l1 a0 a1 s) (0)).bind fun t => match t with | (.inl t) => slices_Index_bool_bool_x1_0 | (.inr t) => some t
def slices_Contains_bool_bool (a0 : (List Bool)) (a1 : Bool) : Option (Bool) :=
  (slices_Index_bool_bool a0 a1).bind fun y103 => (some (decide (0 ≤ y103)))
def column_ReadTexts_1_b2 (l1851 : (List Int)) (l1856 : (List (List UInt8))) (l1860 : (List Bool)) : Option ((S106 × (List (List UInt8))) ⊕ (S106 × (List (List UInt8)))) :=
  (slices_Contains_bool_bool l1860 false).bind fun y1861 => ((column_Reader_Check (⟨l1851⟩ : S106) (!y1861)).bind fun y1863 => (sum_ y1863 (fun y1863 => (some (.inl (y1863, l1856)))) (fun y1863 => (some (.inr (y1863, l1856))))))
def column_ReadTexts_1_x1_2 (l2048 : (List Int)) (l2053 : (List (List UInt8))) (l2057 : (List Bool)) : Option ((S106 × (List (List UInt8))) ⊕ (S106 × (List (List UInt8)))) :=
  column_ReadTexts_1_b2 l2048 l2053 l2057
def column_ReadTexts_1_j1 (l1031 : (List (List UInt8))) (l1960 : (List (List UInt8))) (l1964 : (List Bool)) (x1965 : Int) (x2065 : Int) (l2090 : (List Int)) : Option (((List Int) × (List (List UInt8)) × (List Bool) × Int) ⊕ (((List Int) × (List (List UInt8)) × (List Bool)) ⊕ ((S106 × (List (List UInt8))) ⊕ (S106 × (List (List UInt8)))))) :=
  (at_ l1964 x2065).bind fun x2096 => ((at_ l1031 x2065).bind fun x2098 => (chk (l1960.length + [x2098].length ≤ 140737488355328 / 16) (ltt (IntKind.i64.wrap (x1965 + 1)) fun x2106 => (some (.inl (l2090, l1960 ++ [x2098], l1964.set x2065.toNat true, x2106))))))
def column_ReadTexts_1_l1 (l1031 : (List (List UInt8))) (y1580 : ((List Int) × S106)) (l1955 : (List Int)) (l1960 : (List (List UInt8))) (l1964 : (List Bool)) (x1965 : Int) : Option (((List Int) × (List (List UInt8)) × (List Bool) × Int) ⊕ (((List Int) × (List (List UInt8)) × (List Bool)) ⊕ ((S106 × (List (List UInt8))) ⊕ (S106 × (List (List UInt8)))))) :=
  if (decide (x1965 < (y1580.1.length : Int))) = true then ((at_ y1580.1 x1965).bind fun x2065 => (if (decide (0 ≤ x2065)) = true then ((column_Reader_Check (⟨l1955⟩ : S106) (decide (x2065 < (l1031.length : Int)))).bind fun y2109 => (sum_ y2109 (fun y2109 => (column_ReadTexts_1_j1 l1031 l1960 l1964 x1965 x2065 y2109.f0)) (fun y2109 => (some (.inr (.inr (.inr (y2109, l1960)))))))) else ((column_Reader_Check (⟨l1955⟩ : S106) false).bind fun y2119 => (sum_ y2119 (fun y2119 => (column_ReadTexts_1_j1 l1031 l1960 l1964 x1965 x2065 y2119.f0)) (fun y2119 => (some (.inr (.inr (.inr (y2119, l1960)))))))))) else (some (.inr (.inl (l1955, l1960, l1964))))
def column_ReadTexts_1_b1 (a1 : (List (List UInt8))) (l1026 : (List Int)) (l1031 : (List (List UInt8))) : Option ((S106 × (List (List UInt8))) ⊕ (S106 × (List (List UInt8)))) :=
  chk (0 ≤ (l1031.length : Int) ∧ (1 : Int) * (l1031.length : Int) ≤ 140737488355328) ((column_ints (⟨l1026⟩ : S106)).bind fun y1580 => (sum_ y1580 (fun y1580 => ((loop (fun s => column_ReadTexts_1_l1 l1031 y1580 s.1 s.2.1 s.2.2.1 s.2.2.2) (y1580.2.f0, a1, List.replicate (l1031.length : Int).toNat (false : Bool), 0)).bind fun t => match t with | (.inl t) => column_ReadTexts_1_x1_2 t.1 t.2.1 t.2.2 | (.inr t) => some t)) (fun y1580 => (some (.inr (y1580, a1))))))
def column_ReadTexts_1_x2_0 (a1 : (List (List UInt8))) (l2331 : (List Int)) (l2336 : (List (List UInt8))) : Option ((S106 × (List (List UInt8))) ⊕ (S106 × (List (List UInt8)))) :=
  column_ReadTexts_1_b1 a1 l2331 l2336
def column_ReadTexts_1_j2 (l2234 : (List (List UInt8))) (x2238 : Int) (y2347 : ((List UInt8) × S106)) (l2384 : (List Int)) : Option (((List Int) × (List (List UInt8)) × Int) ⊕ (((List Int) × (List (List UInt8))) ⊕ ((S106 × (List (List UInt8))) ⊕ (S106 × (List (List UInt8)))))) :=
  chk (l2234.length + [y2347.1].length ≤ 140737488355328 / 16) (ltt (IntKind.u64.wrap (x2238 + 1)) fun x2394 => (some (.inl (l2384, l2234 ++ [y2347.1], x2394))))
def column_ReadTexts_1_l2 (a1 : (List (List UInt8))) (y721 : (Int × S106)) (l2229 : (List Int)) (l2234 : (List (List UInt8))) (x2238 : Int) : Option (((List Int) × (List (List UInt8)) × Int) ⊕ (((List Int) × (List (List UInt8))) ⊕ ((S106 × (List (List UInt8))) ⊕ (S106 × (List (List UInt8)))))) :=
  if (decide (x2238 < y721.1)) = true then ((column_Reader_Text (⟨l2229⟩ : S106) 32).bind fun y2347 => (sum_ y2347 (fun y2347 => (if ((l2234.length : Int) == 0) = true then ((column_Reader_Check y2347.2 true).bind fun y2397 => (sum_ y2397 (fun y2397 => (column_ReadTexts_1_j2 l2234 x2238 y2347 y2397.f0)) (fun y2397 => (some (.inr (.inr (.inr (y2397, a1)))))))) else (ltt (IntKind.i64.wrap ((l2234.length : Int) - 1)) fun x2407 => ((at_ l2234 x2407).bind fun x2409 => ((column_Reader_Check y2347.2 (Op.bytesLess x2409 y2347.1)).bind fun y2412 => (sum_ y2412 (fun y2412 => (column_ReadTexts_1_j2 l2234 x2238 y2347 y2412.f0)) (fun y2412 => (some (.inr (.inr (.inr (y2412, a1)))))))))))) (fun y2347 => (some (.inr (.inr (.inr (y2347, a1)))))))) else (some (.inr (.inl (l2229, l2234))))
def column_ReadTexts_1 (a0 : S106) (a1 : (List (List UInt8))) : Option ((S106 × (List (List UInt8))) ⊕ (S106 × (List (List UInt8)))) :=
  (column_Reader_Uint a0 4096).bind fun y721 => (sum_ y721 (fun y721 => ((loop (fun s => column_ReadTexts_1_l2 a1 y721 s.1 s.2.1 s.2.2) (y721.2.f0, [], 0)).bind fun t => match t with | (.inl t) => column_ReadTexts_1_x2_0 a1 t.1 t.2 | (.inr t) => some t)) (fun y721 => (some (.inr (y721, a1)))))
def Try_column_ReadTexts_1 (a0 : (List Int)) (a60 : (List (List UInt8))) : Option (Bool × (List (List UInt8))) :=
  (column_ReadTexts_1 (⟨a0⟩ : S106) a60).bind fun y => (sum_ y (fun y => some ((((y.1.f0.length : Int) == 0), y.2))) (fun y => some ((false, y.2))))
def column_ReadTexts (a0 : (List Int)) : Option ((List (List UInt8)) × Int) :=
  (Try_column_ReadTexts_1 a0 []).bind fun y105 => (if (!y105.1) = true then (some ([], 3)) else (some (y105.2, 0)))
end
theorem F_slices_Index_bool_bool {r : World} {L : List HP} {w : World} (a0 : (List Bool)) (a1 : Bool) (A0 : Option Addr) (n0 : Nat) (c0 : Nat) {y : (Int)} (G : slices_Index_bool_bool a0 a1 = some y) (ha0 : RdL L kB A0 n0 c0 a0) (X : SH r (L) w) :
  Ret Tryd.prog 94 #[.slice A0 n0 c0, .bool a1] w fun v w' => v = .int .i64 y ∧ SH r (L) w' := by
 refine enter Tryd.func94 rfl Tryd.ntmps94 [(0, .slice A0 n0 c0), (1, .bool a1)] rfl (by simp) ?_
 intro U J Qf hQ hQn
 unfold slices_Index_bool_bool at G
 refine ws fun K100 hK100 => ?_
 refine x_m J rfl fun U J => ?_
 refine wn (hK100 _ _ ?_)
 refine wp_seq_k fun K101 hK101 => ?_
 refine ws fun K102 hK102 => ?_
 refine x_m J rfl fun U J => ?_
 refine x_len' uu133 (X.rdl 0 ha0 rfl).2.1 J (fun U J => ?_) rfl
 refine x_m J rfl fun U J => ?_
 refine wn (hK102 _ _ ?_)
 refine wp_block_k fun Kx103 hKx103 => ?_
 have hb1 : slices_Index_bool_bool_b1 = some y → ∀ (U : Act) (w : World), FR 19 [] U [] → SH r (L) w → Kx103 U w := by
  intro G U w J X
  unfold slices_Index_bool_bool_b1 at G
  refine hKx103 _ _ ?_
  refine hK101 _ _ ?_
  refine ws fun K104 hK104 => ?_
  refine x_m J rfl fun U J => ?_
  refine wn (hK104 _ _ ?_)
  refine wp_ret ?_
  cases G
  refine hQ _ _ ?_
  refine lv Tryd.results94 J rfl ?_
  exact ⟨rfl, X⟩
 obtain ⟨t105, hl105, G⟩ := bnd G
 have hR105 := G
 have hx105_0 : (.inl ()) = t105 → ∀ (U : Act) (w : World), FR 19 [] U [] → SH r (L) w → Kx103 U w := by
  intro ht U w J X
  subst ht
  replace G : slices_Index_bool_bool_x1_0 = some y := G
  unfold slices_Index_bool_bool_x1_0 at G
  exact hb1 G U w (J.sub _ rfl) X
 refine wp_loop_fn hl105 (fun s U w => FR 19 [] U [(0, .slice A0 n0 c0), (1, .bool a1), (7, .int .i64 (a0.length : Int)), (8, .int .i64 s)] ∧ SH r (L) w) ⟨J.sub _ rfl, X⟩ ?_
 intro N105 s105 o105 G N105_ T105_ U w hLab
 obtain ⟨x106, rfl⟩ : ∃ q, q = s105 := ⟨_, rfl⟩
 replace G : slices_Index_bool_bool_l1 a0 a1 x106 = some o105 := G
 unfold slices_Index_bool_bool_l1 at G
 try dsimp only at hLab
 obtain ⟨J, X⟩ := hLab
 refine ws fun K107 hK107 => ?_
 refine x_v J (r_ltI rfl (J.ev rfl) (J.ev rfl)) rfl fun U J => ?_
 refine wn (hK107 _ _ ?_)
 refine wp_seq_k fun K108 hK108 => ?_
 refine c_if J rfl (fun hb109 => ?_) fun hb109 => ?_
 ·replace G := ift hb109 G
  refine wp_skip ?_
  refine hK108 _ _ ?_
  refine wp_seq_k fun K110 hK110 => ?_
  refine wp_block_k fun Kx111 hKx111 => ?_
  refine ws fun K112 hK112 => ?_
  refine x_m J rfl fun U J => ?_
  refine x_m J rfl fun U J => ?_
  refine wn (hK112 _ _ ?_)
  refine ws fun K113 hK113 => ?_
  refine x_m J rfl fun U J => ?_
  refine x_m J rfl fun U J => ?_
  refine x_m J rfl fun U J => ?_
  obtain ⟨x114, h115, G⟩ := bnd G
  refine x_ia' uu133 sz4 (X.rdl 0 ha0 rfl) h115 J (fun U J => ?_) rfl
  obtain ⟨cs, hV, hc116⟩ := el (X.rdl 0 ha0 rfl) h115
  obtain rfl := hV
  refine x_ld' uu4 (hc116 0 _ rfl) J (fun U J => ?_) rfl
  refine x_v J (r_eqB uu4 rfl (J.ev rfl) (J.ev rfl)) rfl fun U J => ?_
  refine wn (hK113 _ _ ?_)
  refine c_if J rfl (fun hb117 => ?_) fun hb117 => ?_
  ·replace G := ift hb117 G
   refine ws fun K118 hK118 => ?_
   refine x_m J rfl fun U J => ?_
   refine x_m J rfl fun U J => ?_
   refine wn (hK118 _ _ ?_)
   refine wp_ret ?_
   cases G
   have ht := T105_ _ rfl
   subst ht
   replace G := hR105
   replace G : some x106 = some y := G
   cases G
   refine hQ _ _ ?_
   refine lv Tryd.results94 J rfl ?_
   exact ⟨rfl, X⟩
  replace G := iff' hb117 G
  refine wp_skip ?_
  refine hKx111 _ _ ?_
  refine hK110 _ _ ?_
  refine wp_reg ?_
  obtain ⟨x119, h120, G⟩ := ltt_ G
  refine x_v (v := .int .i64 x119) J (rv_i h120 (r_add rfl (J.ev rfl) (J.ev rfl))) rfl fun U J => ?_
  refine x_m J rfl fun U J => ?_
  refine wpList_nil ?_
  cases G
  exact ⟨_, N105_ _ rfl, J.sub _ rfl, X⟩
 replace G := iff' hb109 G
 refine wp_exit ?_
 cases G
 exact hx105_0 (T105_ _ rfl) U w (J.sub _ rfl) X
theorem F_slices_Contains_bool_bool {r : World} {L : List HP} {w : World} (a0 : (List Bool)) (a1 : Bool) (A0 : Option Addr) (n0 : Nat) (c0 : Nat) {y : (Bool)} (G : slices_Contains_bool_bool a0 a1 = some y) (ha0 : RdL L kB A0 n0 c0 a0) (X : SH r (L) w) :
  Ret Tryd.prog 80 #[.slice A0 n0 c0, .bool a1] w fun v w' => v = .bool y ∧ SH r (L) w' := by
 refine enter Tryd.func80 rfl Tryd.ntmps80 [(0, .slice A0 n0 c0), (1, .bool a1)] rfl (by simp) ?_
 intro U J Qf hQ hQn
 unfold slices_Contains_bool_bool at G
 refine ws fun K100 hK100 => ?_
 refine x_m J rfl fun U J => ?_
 refine wn (hK100 _ _ ?_)
 refine ws fun K101 hK101 => ?_
 refine x_m J rfl fun U J => ?_
 refine x_m J rfl fun U J => ?_
 obtain ⟨y102, h103, G⟩ := bnd G
 refine x_call' en94 J (F_slices_Index_bool_bool (L := L) a0 a1 A0 n0 c0 h103 (RdL.sfx 0 rfl ha0) X) (fun v U w hR J => ?_) rfl
 obtain ⟨rfl, X⟩ := hR
 refine x_v J (r_geI rfl (J.ev rfl) (J.ev rfl)) rfl fun U J => ?_
 refine x_m J rfl fun U J => ?_
 refine wn (hK101 _ _ ?_)
 refine wp_ret ?_
 cases G
 refine hQ _ _ ?_
 refine lv Tryd.results80 J rfl ?_
 exact ⟨rfl, X⟩
theorem F_column_ReadTexts_1 {r : World} {L : List HP} {w : World} {Z : Nat → Prop} {wz : World} (a0 : S106) (a1 : (List (List UInt8))) (g0 : Nat) (g1 : Nat) {y : ((S106 × (List (List UInt8))) ⊕ (S106 × (List (List UInt8))))} (G : column_ReadTexts_1 a0 a1 = some y) (qz : Nat) (hZ : L[qz]? = some (zone Z wz)) (X : SH r (obj106 Z wz g0 a0 :: obj91 g1 a1 :: L) w) :
  RetS Tryd.prog 79 #[.pointer (some ⟨g0, 0, none⟩), (pP g1)] w badC y (fun y v w' => v = .tuple #[] ∧ SH r (obj106 Z wz g0 y.1 :: obj91 g1 y.2 :: L) w') (fun y w' => SH r (obj106 Z wz g0 y.1 :: obj91 g1 y.2 :: L) w') := by
 refine enterS Tryd.func79 rfl Tryd.ntmps79 [(0, (pP g0)), (1, (pP g1))] rfl (by simp) ?_
 intro U J Qf hQ hQn hQp
 unfold column_ReadTexts_1 at G
 obtain ⟨A100, n101, c102, X⟩ := obj106_open X
 obtain ⟨h103, X⟩ := (X.pk 1).unpure
 replace X := X.pk 1
 obtain ⟨A104, n105, c106, X⟩ := obj91_open X
 refine ws fun K107 hK107 => ?_
 refine x_m J rfl fun U J => ?_
 refine wn (hK107 _ _ ?_)
 refine wp_seq_k fun K108 hK108 => ?_
 refine ws fun K109 hK109 => ?_
 refine x_m J rfl fun U J => ?_
 replace X := SH.pure_ h103 X
 replace X := X.pk 3
 replace X := obj106_mk (x := a0) X
 obtain ⟨y110, h111, G⟩ := bnd G
 rcases y110 with y110 | y110
 rotate_left
 ·replace G := sum_r G
  refine x_callp' (vs := #[.pointer (some ⟨g0, 0, none⟩), .int .u64 4096]) en58 J (RetS.rf (F_column_Reader_Uint (L := blk g1 91 [.slice A104 n105 c106] :: own kS 9 A104 n105 c106 a1 :: L) a0 4096 g0 h111 (qz + 2) hZ X)) (fun w hR => ?_) rfl
  replace X := hR
  obtain ⟨A112, n113, c114, X⟩ := obj106_open X
  obtain ⟨h115, X⟩ := (X.pk 1).unpure
  replace X := SH.pure_ h115 X
  replace X := X.pk 1
  replace X := obj106_mk (x := y110) X
  replace X := X.pk 2 |>.pk 2
  replace X := obj91_mk (x := a1) X
  replace X := X.pk 1
  cases G
  exact hQp _ rfl _ _ J.defers X
 replace G := sum_l G
 refine x_callw' (vs := #[.pointer (some ⟨g0, 0, none⟩), .int .u64 4096]) en58 J (RetS.lf (F_column_Reader_Uint (L := blk g1 91 [.slice A104 n105 c106] :: own kS 9 A104 n105 c106 a1 :: L) a0 4096 g0 h111 (qz + 2) hZ X)) (fun v U w hR J => ?_) rfl
 obtain ⟨rfl, X⟩ := hR
 obtain ⟨A116, n117, c118, X⟩ := obj106_open X
 obtain ⟨h119, X⟩ := (X.pk 1).unpure
 refine x_m J rfl fun U J => ?_
 refine wn (hK109 _ _ ?_)
 refine wp_block_k fun Kx120 hKx120 => ?_
 have hb1 : ∀ (l121 : (List Int)) (l122 : (List (List UInt8))), column_ReadTexts_1_b1 a1 l121 l122 = some y → ∀ (A123 : Option Addr) (n124 : Nat) (c125 : Nat) (A126 : Option Addr) (n127 : Nat) (c128 : Nat) (h129 : Imm Z wz (kI .u8) A123 n124 c125 l121) (U : Act) (w : World), FR 70 [] U [(0, (pP g0)), (1, (pP g1)), (3, .slice A126 n127 c128)] → SH r (blk g0 106 [.slice A123 n124 c125] :: blk g1 91 [.slice A104 n105 c106] :: own kS 9 A104 n105 c106 a1 :: own kS 9 A126 n127 c128 l122 :: L) w → Kx120 U w := by
  intro l121 l122 G A123 n124 c125 A126 n127 c128 h129 U w J X
  unfold column_ReadTexts_1_b1 at G
  refine hKx120 _ _ ?_
  refine hK108 _ _ ?_
  refine ws fun K130 hK130 => ?_
  refine x_m J rfl fun U J => ?_
  refine x_len' uu91 (X.rd 3 rfl).2.1 J (fun U J => ?_) rfl
  obtain ⟨h131, G⟩ := chk_some G
  refine x_mks' (d := kB) (bytes := 1) false inf4 rfl uu133 h131 J X (fun g132 U w X J => ?_) rfl
  refine x_m J rfl fun U J => ?_
  refine wn (hK130 _ _ ?_)
  refine wp_seq_k fun K133 hK133 => ?_
  refine ws fun K134 hK134 => ?_
  refine x_m J rfl fun U J => ?_
  replace X := SH.pure_ h129 X
  replace X := X.pk 2
  replace X := obj106_mk (x := (⟨l121⟩ : S106)) X
  obtain ⟨y135, h136, G⟩ := bnd G
  rcases y135 with y135 | y135
  rotate_left
  ·replace G := sum_r G
   refine x_callp' (vs := #[.pointer (some ⟨g0, 0, none⟩)]) en78 J (RetS.rf (F_column_ints (L := own kB 4 (some ⟨g132, 0, none⟩) ((l122.length : Int).toNat) ((l122.length : Int).toNat) (List.replicate (l122.length : Int).toNat (false : Bool)) :: blk g1 91 [.slice A104 n105 c106] :: own kS 9 A104 n105 c106 a1 :: own kS 9 A126 n127 c128 l122 :: L) (⟨l121⟩ : S106) g0 h136 (qz + 4) hZ X)) (fun w hR => ?_) rfl
   replace X := hR
   obtain ⟨A137, n138, c139, X⟩ := obj106_open X
   obtain ⟨h140, X⟩ := (X.pk 1).unpure
   replace X := SH.pure_ h140 X
   replace X := X.pk 1
   replace X := obj106_mk (x := y135) X
   replace X := X.pk 3 |>.pk 3
   replace X := obj91_mk (x := a1) X
   replace X := X.drop 2 |>.drop 2 |>.pk 1
   cases G
   exact hQp _ rfl _ _ J.defers X
  replace G := sum_l G
  refine x_callw' (vs := #[.pointer (some ⟨g0, 0, none⟩)]) en78 J (RetS.lf (F_column_ints (L := own kB 4 (some ⟨g132, 0, none⟩) ((l122.length : Int).toNat) ((l122.length : Int).toNat) (List.replicate (l122.length : Int).toNat (false : Bool)) :: blk g1 91 [.slice A104 n105 c106] :: own kS 9 A104 n105 c106 a1 :: own kS 9 A126 n127 c128 l122 :: L) (⟨l121⟩ : S106) g0 h136 (qz + 4) hZ X)) (fun v U w hR J => ?_) rfl
  obtain ⟨B141, m142, d143, rfl, X⟩ := hR
  replace X := X.pk 1
  obtain ⟨A144, n145, c146, X⟩ := obj106_open X
  obtain ⟨h147, X⟩ := (X.pk 1).unpure
  refine x_len' uu90 (X.rd 1 rfl).2.1 J (fun U J => ?_) rfl
  refine x_m J rfl fun U J => ?_
  refine wn (hK134 _ _ ?_)
  refine wp_block_k fun Kx148 hKx148 => ?_
  have hb2 : ∀ (l149 : (List Int)) (l150 : (List (List UInt8))) (l151 : (List Bool)), column_ReadTexts_1_b2 l149 l150 l151 = some y → ∀ (A152 : Option Addr) (n153 : Nat) (c154 : Nat) (A155 : Option Addr) (n156 : Nat) (c157 : Nat) (h158 : Imm Z wz (kI .u8) A152 n153 c154 l149) (U : Act) (w : World), FR 70 [] U [(0, (pP g0)), (1, (pP g1)), (5, .slice (some ⟨g132, 0, none⟩) ((l122.length : Int).toNat) ((l122.length : Int).toNat))] → SH r (blk g0 106 [.slice A152 n153 c154] :: blk g1 91 [.slice A155 n156 c157] :: own kS 9 A155 n156 c157 l150 :: own kB 4 (some ⟨g132, 0, none⟩) ((l122.length : Int).toNat) ((l122.length : Int).toNat) l151 :: L) w → Kx148 U w := by
   intro l149 l150 l151 G A152 n153 c154 A155 n156 c157 h158 U w J X
   unfold column_ReadTexts_1_b2 at G
   refine hKx148 _ _ ?_
   refine hK133 _ _ ?_
   refine wp_reg ?_
   refine x_m J rfl fun U J => ?_
   refine x_m J rfl fun U J => ?_
   obtain ⟨y159, h160, G⟩ := bnd G
   refine x_call' en80 J (F_slices_Contains_bool_bool (L := blk g0 106 [.slice A152 n153 c154] :: blk g1 91 [.slice A155 n156 c157] :: own kS 9 A155 n156 c157 l150 :: own kB 4 (some ⟨g132, 0, none⟩) ((l122.length : Int).toNat) ((l122.length : Int).toNat) l151 :: L) l151 false (some ⟨g132, 0, none⟩) ((l122.length : Int).toNat) ((l122.length : Int).toNat) h160 (RdL.own 3 rfl (X.dropN 0)) X) (fun v U w hR J => ?_) rfl
   obtain ⟨rfl, X⟩ := hR
   refine x_v J (r_not rfl (J.ev rfl)) rfl fun U J => ?_
   replace X := SH.pure_ h158 X
   replace X := X.pk 1
   replace X := obj106_mk (x := (⟨l149⟩ : S106)) X
   obtain ⟨y161, h162, G⟩ := bnd G
   rcases y161 with y161 | y161
   rotate_left
   ·replace G := sum_r G
    refine x_callp' (vs := #[.pointer (some ⟨g0, 0, none⟩), .bool (!y159)]) en59 J (RetS.rf (F_column_Reader_Check (L := blk g1 91 [.slice A155 n156 c157] :: own kS 9 A155 n156 c157 l150 :: own kB 4 (some ⟨g132, 0, none⟩) ((l122.length : Int).toNat) ((l122.length : Int).toNat) l151 :: L) (⟨l149⟩ : S106) (!y159) g0 h162 (qz + 3) hZ X)) (fun w hR => ?_) rfl
    replace X := hR
    obtain ⟨A163, n164, c165, X⟩ := obj106_open X
    obtain ⟨h166, X⟩ := (X.pk 1).unpure
    replace X := SH.pure_ h166 X
    replace X := X.pk 1
    replace X := obj106_mk (x := y161) X
    replace X := X.pk 2 |>.pk 2
    replace X := obj91_mk (x := l150) X
    replace X := X.drop 2 |>.pk 1
    cases G
    exact hQp _ rfl _ _ J.defers X
   replace G := sum_l G
   refine x_callw' (vs := #[.pointer (some ⟨g0, 0, none⟩), .bool (!y159)]) en59 J (RetS.lf (F_column_Reader_Check (L := blk g1 91 [.slice A155 n156 c157] :: own kS 9 A155 n156 c157 l150 :: own kB 4 (some ⟨g132, 0, none⟩) ((l122.length : Int).toNat) ((l122.length : Int).toNat) l151 :: L) (⟨l149⟩ : S106) (!y159) g0 h162 (qz + 3) hZ X)) (fun v U w hR J => ?_) rfl
   obtain ⟨rfl, X⟩ := hR
   obtain ⟨A167, n168, c169, X⟩ := obj106_open X
   obtain ⟨h170, X⟩ := (X.pk 1).unpure
   refine wpList_nil ?_
   replace X := SH.pure_ h170 X
   replace X := X.pk 1
   replace X := obj106_mk (x := y161) X
   replace X := X.pk 2 |>.pk 2
   replace X := obj91_mk (x := l150) X
   replace X := X.drop 2 |>.pk 1
   cases G
   refine hQn _ rfl _ _ ?_
   refine lv0n Tryd.results79 J ?_
   exact ⟨rfl, X⟩
  obtain ⟨t171, hl171, G⟩ := bnd G
  have hR171 := G
  have hx171_2 : ∀ (l172 : (List Int)) (l173 : (List (List UInt8))) (l171 : (List Bool)), (.inl (l172, l173, l171)) = t171 → ∀ (A174 : Option Addr) (n175 : Nat) (c176 : Nat) (A177 : Option Addr) (n178 : Nat) (c179 : Nat) (h180 : Imm Z wz (kI .u8) A174 n175 c176 l172) (U : Act) (w : World), FR 70 [] U [(0, (pP g0)), (1, (pP g1)), (5, .slice (some ⟨g132, 0, none⟩) ((l122.length : Int).toNat) ((l122.length : Int).toNat))] → SH r (blk g0 106 [.slice A174 n175 c176] :: blk g1 91 [.slice A177 n178 c179] :: own kS 9 A177 n178 c179 l173 :: own kB 4 (some ⟨g132, 0, none⟩) ((l122.length : Int).toNat) ((l122.length : Int).toNat) l171 :: L) w → Kx148 U w := by
   intro l172 l173 l171 ht A174 n175 c176 A177 n178 c179 h180 U w J X
   subst ht
   replace G : column_ReadTexts_1_x1_2 l172 l173 l171 = some y := G
   unfold column_ReadTexts_1_x1_2 at G
   exact hb2 l172 l173 l171 G A174 n175 c176 A177 n178 c179 h180 U w (J.sub _ rfl) X
  replace X := X.pk 1 |>.pk 2 |>.pk 5 |>.pk 5 |>.pk 5 |>.pk 5
  refine wp_loop_fn hl171 (fun s U w => ∃ (A181 : Option Addr) (n182 : Nat) (c183 : Nat) (A184 : Option Addr) (n185 : Nat) (c186 : Nat), Imm Z wz (kI .u8) A181 n182 c183 s.1 ∧ FR 70 [] U [(0, (pP g0)), (1, (pP g1)), (3, .slice A126 n127 c128), (5, .slice (some ⟨g132, 0, none⟩) ((l122.length : Int).toNat) ((l122.length : Int).toNat)), (38, .slice B141 m142 d143), (39, .int .i64 (y135.1.length : Int)), (40, .int .i64 s.2.2.2)] ∧ SH r (blk g0 106 [.slice A181 n182 c183] :: blk g1 91 [.slice A184 n185 c186] :: own kS 9 A184 n185 c186 s.2.1 :: own kS 9 A126 n127 c128 l122 :: own kB 4 (some ⟨g132, 0, none⟩) ((l122.length : Int).toNat) ((l122.length : Int).toNat) s.2.2.1 :: own (kI .i64) 2 B141 m142 d143 y135.1 :: L) w) ⟨A144, n145, c146, A104, n105, c106, h147, J.sub _ rfl, X⟩ ?_
  intro N171 s171 o171 G N171_ T171_ U w hLab
  obtain ⟨l187, l188, l189, x190⟩ := s171
  replace G : column_ReadTexts_1_l1 l122 y135 l187 l188 l189 x190 = some o171 := G
  unfold column_ReadTexts_1_l1 at G
  try dsimp only at hLab
  obtain ⟨A181, n182, c183, A184, n185, c186, h191, J, X⟩ := hLab
  refine ws fun K192 hK192 => ?_
  refine x_v J (r_ltI rfl (J.ev rfl) (J.ev rfl)) rfl fun U J => ?_
  refine wn (hK192 _ _ ?_)
  refine wp_seq_k fun K193 hK193 => ?_
  refine c_if J rfl (fun hb194 => ?_) fun hb194 => ?_
  ·replace G := ift hb194 G
   refine wp_skip ?_
   refine hK193 _ _ ?_
   refine wp_seq_k fun K195 hK195 => ?_
   refine wp_block_k fun Kx196 hKx196 => ?_
   refine ws fun K197 hK197 => ?_
   obtain ⟨x198, h199, G⟩ := bnd G
   refine x_ia' uu90 sz2 (X.rd 5 rfl) h199 J (fun U J => ?_) rfl
   obtain ⟨cs, hV, hc200⟩ := el (X.rd 5 rfl) h199
   obtain rfl := hV
   refine x_ld' uu2 (hc200 0 _ rfl) J (fun U J => ?_) rfl
   refine x_m J rfl fun U J => ?_
   refine wn (hK197 _ _ ?_)
   refine wp_seq_k fun K201 hK201 => ?_
   have hj1 : ∀ (l202 : (List Int)), column_ReadTexts_1_j1 l122 l188 l189 x190 x198 l202 = some o171 → ∀ (A203 : Option Addr) (n204 : Nat) (c205 : Nat) (h206 : Imm Z wz (kI .u8) A203 n204 c205 l202) (U : Act) (w : World), FR 70 [] U [(0, (pP g0)), (1, (pP g1)), (3, .slice A126 n127 c128), (5, .slice (some ⟨g132, 0, none⟩) ((l122.length : Int).toNat) ((l122.length : Int).toNat)), (7, .int .i64 x198), (38, .slice B141 m142 d143), (39, .int .i64 (y135.1.length : Int)), (40, .int .i64 x190)] → SH r (blk g0 106 [.slice A203 n204 c205] :: blk g1 91 [.slice A184 n185 c186] :: own kS 9 A184 n185 c186 l188 :: own kS 9 A126 n127 c128 l122 :: own kB 4 (some ⟨g132, 0, none⟩) ((l122.length : Int).toNat) ((l122.length : Int).toNat) l189 :: own (kI .i64) 2 B141 m142 d143 y135.1 :: L) w → K201 U w := by
    intro l202 G A203 n204 c205 h206 U w J X
    unfold column_ReadTexts_1_j1 at G
    refine hK201 _ _ ?_
    refine ws fun K207 hK207 => ?_
    refine x_m J rfl fun U J => ?_
    refine x_m J rfl fun U J => ?_
    obtain ⟨x208, h209, G⟩ := bnd G
    refine x_ia' uu133 sz4 (X.rd 4 rfl) h209 J (fun U J => ?_) rfl
    refine x_sto (z' := true) (off := 0) (vs := [.bool true]) 4 sz4 J X rfl (at_some h209).2.2 (fun c h => by cases h; rfl) (fun  U w X J => ?_) rfl rfl rfl rfl rfl rfl rfl rfl
    refine wn (hK207 _ _ ?_)
    refine wp_draw [0, 0, 0, 6, 14, 30, 63, 127] [5, 6, 7] rfl J X (by kernel_rfl) (by kernel_rfl) (by kernel_rfl) (by kernel_rfl) fun w X => ?_
    obtain ⟨x210, h211, G⟩ := bnd G
    obtain ⟨cs, hV, hc212⟩ := el (X.rd 4 rfl) h211
    obtain rfl := hV
    refine ⟨[(0, .slice A184 n185 c186), (1, .slice A126 n127 c128), (2, .int .i64 x198), (3, .pointer (some (ea A126 (x198.toNat * 1)))), (4, str x210)], ?_⟩
    refine dF [0, 1, 2, 3, 4] [5] (by kernel_rfl) ⟨pt [(1, (pP g1))] rfl (fun U J => y_ld uu91 (X.cell 2 rfl 0 _ rfl) J rfl rfl rfl), pm rfl, pm rfl, pt [(58, .slice A126 n127 c128), (59, .int .i64 x198)] rfl (fun U J => y_ia uu91 sz9 (X.rd 4 rfl) h211 J rfl rfl rfl), pt [(60, .pointer (some (ea A126 (x198.toNat * 1))))] rfl (fun U J => y_ld uu9 (hc212 0 _ rfl) J rfl rfl rfl), trivial⟩ ⟨et [(61, str x210)] rfl (fun U J K hK => ?_), trivial⟩
    refine z_bsl' (d := kS) (e := 9) (ps := #[(0, str x210)]) (cells := [str x210]) (xs := [x210]) (fun w => by kernel_rfl) rfl ⟨[str x210], _, rfl, rfl, rfl⟩ J X (fun g213 w X => ?_) rfl
    refine hK _ [] _ rfl ?_
    refine dF [0] [6] (by kernel_rfl) ⟨pt [(1, (pP g1))] rfl (fun U J => y_ld uu91 (X.cell 3 rfl 0 _ rfl) J rfl rfl rfl), trivial⟩ ⟨et [(57, .slice A184 n185 c186), (62, .slice (some ⟨g213, 0, none⟩) 1 1)] rfl (fun U J K hK => ?_), trivial⟩
    obtain ⟨h214, G⟩ := chk_some G
    have hr := X.rd 0 rfl
    refine z_app' 4 inf9 uu91 J X hr.1 hr.2.1 h214 rfl (fun A215 n216 c217 w X => ?_) rfl
    refine hK _ [] _ rfl ?_
    refine dF [] [7] (by kernel_rfl) trivial ⟨et [(1, (pP g1)), (63, .slice A215 n216 c217)] rfl (fun U J K hK => ?_), trivial⟩
    refine z_stb' 4 sz91 J X rfl (fun  w X => ?_) rfl
    refine hK _ [] _ rfl ?_
    refine dEnd [] (by kernel_rfl) trivial ⟨by kernel_rfl, by kernel_rfl⟩ [(0, (pP g0)), (1, (pP g1)), (3, .slice A126 n127 c128), (5, .slice (some ⟨g132, 0, none⟩) ((l122.length : Int).toNat) ((l122.length : Int).toNat)), (38, .slice B141 m142 d143), (39, .int .i64 (y135.1.length : Int)), (40, .int .i64 x190)] rfl (fun U J => ?_)
    refine hKx196 _ _ ?_
    refine hK195 _ _ ?_
    refine wp_reg ?_
    obtain ⟨x218, h219, G⟩ := ltt_ G
    refine x_v (v := .int .i64 x218) J (rv_i h219 (r_add rfl (J.ev rfl) (J.ev rfl))) rfl fun U J => ?_
    refine x_m J rfl fun U J => ?_
    refine wpList_nil ?_
    replace X := X.drop 2 |>.pk 5 |>.pk 3 |>.pk 5 |>.pk 4 |>.pk 4 |>.pk 5
    cases G
    exact ⟨_, N171_ _ rfl, A203, n204, c205, A215, n216, c217, h206, J.sub _ rfl, X⟩
   refine wp_reg ?_
   refine x_m J rfl fun U J => ?_
   refine x_m J rfl fun U J => ?_
   refine x_v J (r_geI rfl (J.ev rfl) (J.ev rfl)) rfl fun U J => ?_
   refine x_m J rfl fun U J => ?_
   refine bcase (b := decide (0 ≤ x198)) (fun hb220 => ?_) fun hb220 => ?_
   ·replace G := ift hb220 G
    refine x_on' hb220 J ?_ rfl
    refine x_m J rfl fun U J => ?_
    refine x_on' hb220 J ?_ rfl
    refine x_m J rfl fun U J => ?_
    refine x_on' hb220 J ?_ rfl
    refine x_len' uu91 (X.rd 3 rfl).2.1 J (fun U J => ?_) rfl
    refine x_on' hb220 J ?_ rfl
    refine x_v J (r_ltI rfl (J.ev rfl) (J.ev rfl)) rfl fun U J => ?_
    refine x_pickt' hb220 J (fun U J => ?_) rfl
    replace X := SH.pure_ h191 X
    replace X := X.pk 1
    replace X := obj106_mk (x := (⟨l187⟩ : S106)) X
    obtain ⟨y221, h222, G⟩ := bnd G
    rcases y221 with y221 | y221
    rotate_left
    ·replace G := sum_r G
     refine x_callp' (vs := #[.pointer (some ⟨g0, 0, none⟩), .bool (decide (x198 < (l122.length : Int)))]) en59 J (RetS.rf (F_column_Reader_Check (L := blk g1 91 [.slice A184 n185 c186] :: own kS 9 A184 n185 c186 l188 :: own kS 9 A126 n127 c128 l122 :: own kB 4 (some ⟨g132, 0, none⟩) ((l122.length : Int).toNat) ((l122.length : Int).toNat) l189 :: own (kI .i64) 2 B141 m142 d143 y135.1 :: L) (⟨l187⟩ : S106) (decide (x198 < (l122.length : Int))) g0 h222 (qz + 5) hZ X)) (fun w hR => ?_) rfl
     replace X := hR
     obtain ⟨A223, n224, c225, X⟩ := obj106_open X
     obtain ⟨h226, X⟩ := (X.pk 1).unpure
     replace X := SH.pure_ h226 X
     replace X := X.pk 1
     replace X := obj106_mk (x := y221) X
     replace X := X.pk 2 |>.pk 2
     replace X := obj91_mk (x := l188) X
     replace X := X.drop 2 |>.drop 2 |>.drop 2 |>.pk 1
     cases G
     have ht := T171_ _ rfl
     subst ht
     replace G := hR171
     replace G : some (.inr (y221, l188)) = some y := G
     cases G
     exact hQp _ rfl _ _ J.defers X
    replace G := sum_l G
    refine x_callw' (vs := #[.pointer (some ⟨g0, 0, none⟩), .bool (decide (x198 < (l122.length : Int)))]) en59 J (RetS.lf (F_column_Reader_Check (L := blk g1 91 [.slice A184 n185 c186] :: own kS 9 A184 n185 c186 l188 :: own kS 9 A126 n127 c128 l122 :: own kB 4 (some ⟨g132, 0, none⟩) ((l122.length : Int).toNat) ((l122.length : Int).toNat) l189 :: own (kI .i64) 2 B141 m142 d143 y135.1 :: L) (⟨l187⟩ : S106) (decide (x198 < (l122.length : Int))) g0 h222 (qz + 5) hZ X)) (fun v U w hR J => ?_) rfl
    obtain ⟨rfl, X⟩ := hR
    obtain ⟨A227, n228, c229, X⟩ := obj106_open X
    obtain ⟨h230, X⟩ := (X.pk 1).unpure
    refine wpList_nil ?_
    exact hj1 y221.f0 G A227 n228 c229 h230 U w (J.sub _ rfl) X
   replace G := iff' hb220 G
   refine xO 4 hb220 J rfl fun U J => ?_
   refine x_pickf' hb220 J (fun U J => ?_) rfl
   replace X := SH.pure_ h191 X
   replace X := X.pk 1
   replace X := obj106_mk (x := (⟨l187⟩ : S106)) X
   obtain ⟨y231, h232, G⟩ := bnd G
   rcases y231 with y231 | y231
   rotate_left
   ·replace G := sum_r G
    refine x_callp' (vs := #[.pointer (some ⟨g0, 0, none⟩), .bool false]) en59 J (RetS.rf (F_column_Reader_Check (L := blk g1 91 [.slice A184 n185 c186] :: own kS 9 A184 n185 c186 l188 :: own kS 9 A126 n127 c128 l122 :: own kB 4 (some ⟨g132, 0, none⟩) ((l122.length : Int).toNat) ((l122.length : Int).toNat) l189 :: own (kI .i64) 2 B141 m142 d143 y135.1 :: L) (⟨l187⟩ : S106) false g0 h232 (qz + 5) hZ X)) (fun w hR => ?_) rfl
    replace X := hR
    obtain ⟨A233, n234, c235, X⟩ := obj106_open X
    obtain ⟨h236, X⟩ := (X.pk 1).unpure
    replace X := SH.pure_ h236 X
    replace X := X.pk 1
    replace X := obj106_mk (x := y231) X
    replace X := X.pk 2 |>.pk 2
    replace X := obj91_mk (x := l188) X
    replace X := X.drop 2 |>.drop 2 |>.drop 2 |>.pk 1
    cases G
    have ht := T171_ _ rfl
    subst ht
    replace G := hR171
    replace G : some (.inr (y231, l188)) = some y := G
    cases G
    exact hQp _ rfl _ _ J.defers X
   replace G := sum_l G
   refine x_callw' (vs := #[.pointer (some ⟨g0, 0, none⟩), .bool false]) en59 J (RetS.lf (F_column_Reader_Check (L := blk g1 91 [.slice A184 n185 c186] :: own kS 9 A184 n185 c186 l188 :: own kS 9 A126 n127 c128 l122 :: own kB 4 (some ⟨g132, 0, none⟩) ((l122.length : Int).toNat) ((l122.length : Int).toNat) l189 :: own (kI .i64) 2 B141 m142 d143 y135.1 :: L) (⟨l187⟩ : S106) false g0 h232 (qz + 5) hZ X)) (fun v U w hR J => ?_) rfl
   obtain ⟨rfl, X⟩ := hR
   obtain ⟨A237, n238, c239, X⟩ := obj106_open X
   obtain ⟨h240, X⟩ := (X.pk 1).unpure
   refine wpList_nil ?_
   exact hj1 y231.f0 G A237 n238 c239 h240 U w (J.sub _ rfl) X
  replace G := iff' hb194 G
  refine wp_exit ?_
  replace X := X.drop 3 |>.drop 4
  cases G
  exact hx171_2 l187 l188 l189 (T171_ _ rfl) A181 n182 c183 A184 n185 c186 h191 U w (J.sub _ rfl) X
 obtain ⟨t241, hl241, G⟩ := bnd G
 have hR241 := G
 have hx241_0 : ∀ (l242 : (List Int)) (l243 : (List (List UInt8))), (.inl (l242, l243)) = t241 → ∀ (A244 : Option Addr) (n245 : Nat) (c246 : Nat) (A247 : Option Addr) (n248 : Nat) (c241 : Nat) (h249 : Imm Z wz (kI .u8) A244 n245 c246 l242) (U : Act) (w : World), FR 70 [] U [(0, (pP g0)), (1, (pP g1)), (3, .slice A247 n248 c241)] → SH r (blk g0 106 [.slice A244 n245 c246] :: blk g1 91 [.slice A104 n105 c106] :: own kS 9 A104 n105 c106 a1 :: own kS 9 A247 n248 c241 l243 :: L) w → Kx120 U w := by
  intro l242 l243 ht A244 n245 c246 A247 n248 c241 h249 U w J X
  subst ht
  replace G : column_ReadTexts_1_x2_0 a1 l242 l243 = some y := G
  unfold column_ReadTexts_1_x2_0 at G
  exact hb1 l242 l243 G A244 n245 c246 A247 n248 c241 h249 U w (J.sub _ rfl) X
 replace X := SH.nil_own (d := kS) (e := 9) X
 replace X := X.pk 3 |>.pk 3 |>.pk 3
 refine wp_loop_fn hl241 (fun s U w => ∃ (A250 : Option Addr) (n251 : Nat) (c252 : Nat) (A253 : Option Addr) (n254 : Nat) (c255 : Nat), Imm Z wz (kI .u8) A250 n251 c252 s.1 ∧ FR 70 [] U [(0, (pP g0)), (1, (pP g1)), (3, .slice A253 n254 c255), (9, .int .u64 y110.1), (10, .int .u64 s.2.2)] ∧ SH r (blk g0 106 [.slice A250 n251 c252] :: blk g1 91 [.slice A104 n105 c106] :: own kS 9 A104 n105 c106 a1 :: own kS 9 A253 n254 c255 s.2.1 :: L) w) ⟨A116, n117, c118, none, 0, 0, h119, J.sub _ rfl, X⟩ ?_
 intro N241 s241 o241 G N241_ T241_ U w hLab
 obtain ⟨l256, l257, x258⟩ := s241
 replace G : column_ReadTexts_1_l2 a1 y110 l256 l257 x258 = some o241 := G
 unfold column_ReadTexts_1_l2 at G
 try dsimp only at hLab
 obtain ⟨A250, n251, c252, A253, n254, c255, h259, J, X⟩ := hLab
 refine ws fun K260 hK260 => ?_
 refine x_v J (r_ltI rfl (J.ev rfl) (J.ev rfl)) rfl fun U J => ?_
 refine wn (hK260 _ _ ?_)
 refine wp_seq_k fun K261 hK261 => ?_
 refine c_if J rfl (fun hb262 => ?_) fun hb262 => ?_
 ·replace G := ift hb262 G
  refine wp_skip ?_
  refine hK261 _ _ ?_
  refine wp_seq_k fun K263 hK263 => ?_
  refine wp_block_k fun Kx264 hKx264 => ?_
  refine ws fun K265 hK265 => ?_
  refine x_m J rfl fun U J => ?_
  replace X := SH.pure_ h259 X
  replace X := X.pk 1
  replace X := obj106_mk (x := (⟨l256⟩ : S106)) X
  obtain ⟨y266, h267, G⟩ := bnd G
  rcases y266 with y266 | y266
  rotate_left
  ·replace G := sum_r G
   refine x_callp' (vs := #[.pointer (some ⟨g0, 0, none⟩), .int .i64 32]) en61 J (RetS.rf (F_column_Reader_Text (L := blk g1 91 [.slice A104 n105 c106] :: own kS 9 A104 n105 c106 a1 :: own kS 9 A253 n254 c255 l257 :: L) (⟨l256⟩ : S106) 32 g0 h267 (qz + 3) hZ X)) (fun w hR => ?_) rfl
   replace X := hR
   obtain ⟨A268, n269, c270, X⟩ := obj106_open X
   obtain ⟨h271, X⟩ := (X.pk 1).unpure
   replace X := SH.pure_ h271 X
   replace X := X.pk 1
   replace X := obj106_mk (x := y266) X
   replace X := X.pk 2 |>.pk 2
   replace X := obj91_mk (x := a1) X
   replace X := X.drop 2 |>.pk 1
   cases G
   have ht := T241_ _ rfl
   subst ht
   replace G := hR241
   replace G : some (.inr (y266, a1)) = some y := G
   cases G
   exact hQp _ rfl _ _ J.defers X
  replace G := sum_l G
  refine x_callw' (vs := #[.pointer (some ⟨g0, 0, none⟩), .int .i64 32]) en61 J (RetS.lf (F_column_Reader_Text (L := blk g1 91 [.slice A104 n105 c106] :: own kS 9 A104 n105 c106 a1 :: own kS 9 A253 n254 c255 l257 :: L) (⟨l256⟩ : S106) 32 g0 h267 (qz + 3) hZ X)) (fun v U w hR J => ?_) rfl
  obtain ⟨rfl, X⟩ := hR
  obtain ⟨A272, n273, c274, X⟩ := obj106_open X
  obtain ⟨h275, X⟩ := (X.pk 1).unpure
  refine x_m J rfl fun U J => ?_
  refine wn (hK265 _ _ ?_)
  refine wp_seq_k fun K276 hK276 => ?_
  have hj2 : ∀ (l277 : (List Int)), column_ReadTexts_1_j2 l257 x258 y266 l277 = some o241 → ∀ (A278 : Option Addr) (n279 : Nat) (c280 : Nat) (h281 : Imm Z wz (kI .u8) A278 n279 c280 l277) (U : Act) (w : World), FR 70 [] U [(0, (pP g0)), (1, (pP g1)), (3, .slice A253 n254 c255), (4, str y266.1), (9, .int .u64 y110.1), (10, .int .u64 x258)] → SH r (blk g0 106 [.slice A278 n279 c280] :: blk g1 91 [.slice A104 n105 c106] :: own kS 9 A104 n105 c106 a1 :: own kS 9 A253 n254 c255 l257 :: L) w → K276 U w := by
   intro l277 G A278 n279 c280 h281 U w J X
   unfold column_ReadTexts_1_j2 at G
   refine hK276 _ _ ?_
   refine wp_reg ?_
   refine x_m J rfl fun U J => ?_
   refine x_m J rfl fun U J => ?_
   refine x_bsl' (d := kS) (e := 9) (ps := #[(0, str y266.1)]) (cells := [str y266.1]) (xs := [y266.1]) (fun w => by kernel_rfl) rfl ⟨[str y266.1], _, rfl, rfl, rfl⟩ J X (fun g282 U w X J => ?_) rfl
   obtain ⟨h283, G⟩ := chk_some G
   have hr := X.rd 0 rfl
   refine x_app' 4 inf9 uu91 J X hr.1 hr.2.1 h283 rfl (fun A284 n285 c286 U w X J => ?_) rfl
   refine x_m J rfl fun U J => ?_
   refine wpList_nil ?_
   refine hKx264 _ _ ?_
   refine hK263 _ _ ?_
   refine wp_reg ?_
   obtain ⟨x287, h288, G⟩ := ltt_ G
   refine x_v (v := .int .u64 x287) J (rv_i h288 (r_add rfl (J.ev rfl) (J.ev rfl))) rfl fun U J => ?_
   refine x_m J rfl fun U J => ?_
   refine wpList_nil ?_
   replace X := X.drop 1 |>.pk 3 |>.pk 3 |>.pk 3
   cases G
   exact ⟨_, N241_ _ rfl, A278, n279, c280, A284, n285, c286, h281, J.sub _ rfl, X⟩
  refine wp_reg ?_
  refine x_m J rfl fun U J => ?_
  refine x_m J rfl fun U J => ?_
  refine x_len' uu91 (X.rd 3 rfl).2.1 J (fun U J => ?_) rfl
  refine x_v J (r_eqI rfl (J.ev rfl) (J.ev rfl)) rfl fun U J => ?_
  refine x_m J rfl fun U J => ?_
  refine bcase (b := (l257.length : Int) == 0) (fun hb289 => ?_) fun hb289 => ?_
  ·replace G := ift hb289 G
   refine xO 8 hb289 J rfl fun U J => ?_
   refine x_pickt' hb289 J (fun U J => ?_) rfl
   replace X := SH.pure_ h275 X
   replace X := X.pk 1
   replace X := obj106_mk (x := y266.2) X
   obtain ⟨y290, h291, G⟩ := bnd G
   rcases y290 with y290 | y290
   rotate_left
   ·replace G := sum_r G
    refine x_callp' (vs := #[.pointer (some ⟨g0, 0, none⟩), .bool true]) en59 J (RetS.rf (F_column_Reader_Check (L := blk g1 91 [.slice A104 n105 c106] :: own kS 9 A104 n105 c106 a1 :: own kS 9 A253 n254 c255 l257 :: L) y266.2 true g0 h291 (qz + 3) hZ X)) (fun w hR => ?_) rfl
    replace X := hR
    obtain ⟨A292, n293, c294, X⟩ := obj106_open X
    obtain ⟨h295, X⟩ := (X.pk 1).unpure
    replace X := SH.pure_ h295 X
    replace X := X.pk 1
    replace X := obj106_mk (x := y290) X
    replace X := X.pk 2 |>.pk 2
    replace X := obj91_mk (x := a1) X
    replace X := X.drop 2 |>.pk 1
    cases G
    have ht := T241_ _ rfl
    subst ht
    replace G := hR241
    replace G : some (.inr (y290, a1)) = some y := G
    cases G
    exact hQp _ rfl _ _ J.defers X
   replace G := sum_l G
   refine x_callw' (vs := #[.pointer (some ⟨g0, 0, none⟩), .bool true]) en59 J (RetS.lf (F_column_Reader_Check (L := blk g1 91 [.slice A104 n105 c106] :: own kS 9 A104 n105 c106 a1 :: own kS 9 A253 n254 c255 l257 :: L) y266.2 true g0 h291 (qz + 3) hZ X)) (fun v U w hR J => ?_) rfl
   obtain ⟨rfl, X⟩ := hR
   obtain ⟨A296, n297, c298, X⟩ := obj106_open X
   obtain ⟨h299, X⟩ := (X.pk 1).unpure
   refine wpList_nil ?_
   exact hj2 y290.f0 G A296 n297 c298 h299 U w (J.sub _ rfl) X
  replace G := iff' hb289 G
  refine x_on' hb289 J ?_ rfl
  refine x_m J rfl fun U J => ?_
  refine x_on' hb289 J ?_ rfl
  refine x_m J rfl fun U J => ?_
  refine x_on' hb289 J ?_ rfl
  refine x_len' uu91 (X.rd 3 rfl).2.1 J (fun U J => ?_) rfl
  refine x_on' hb289 J ?_ rfl
  obtain ⟨x300, h301, G⟩ := ltt_ G
  refine x_v (v := .int .i64 x300) J (rv_i h301 (r_sub rfl (J.ev rfl) (J.ev rfl))) rfl fun U J => ?_
  refine x_on' hb289 J ?_ rfl
  obtain ⟨x302, h303, G⟩ := bnd G
  refine x_ia' uu91 sz9 (X.rd 3 rfl) h303 J (fun U J => ?_) rfl
  refine x_on' hb289 J ?_ rfl
  obtain ⟨cs, hV, hc304⟩ := el (X.rd 3 rfl) h303
  obtain rfl := hV
  refine x_ld' uu9 (hc304 0 _ rfl) J (fun U J => ?_) rfl
  refine x_on' hb289 J ?_ rfl
  refine x_m J rfl fun U J => ?_
  refine x_on' hb289 J ?_ rfl
  refine x_v J (r_ltS rfl (J.ev rfl) (J.ev rfl)) rfl fun U J => ?_
  refine x_pickf' hb289 J (fun U J => ?_) rfl
  replace X := SH.pure_ h275 X
  replace X := X.pk 1
  replace X := obj106_mk (x := y266.2) X
  obtain ⟨y305, h306, G⟩ := bnd G
  rcases y305 with y305 | y305
  rotate_left
  ·replace G := sum_r G
   refine x_callp' (vs := #[.pointer (some ⟨g0, 0, none⟩), .bool (Op.bytesLess x302 y266.1)]) en59 J (RetS.rf (F_column_Reader_Check (L := blk g1 91 [.slice A104 n105 c106] :: own kS 9 A104 n105 c106 a1 :: own kS 9 A253 n254 c255 l257 :: L) y266.2 (Op.bytesLess x302 y266.1) g0 h306 (qz + 3) hZ X)) (fun w hR => ?_) rfl
   replace X := hR
   obtain ⟨A307, n308, c309, X⟩ := obj106_open X
   obtain ⟨h310, X⟩ := (X.pk 1).unpure
   replace X := SH.pure_ h310 X
   replace X := X.pk 1
   replace X := obj106_mk (x := y305) X
   replace X := X.pk 2 |>.pk 2
   replace X := obj91_mk (x := a1) X
   replace X := X.drop 2 |>.pk 1
   cases G
   have ht := T241_ _ rfl
   subst ht
   replace G := hR241
   replace G : some (.inr (y305, a1)) = some y := G
   cases G
   exact hQp _ rfl _ _ J.defers X
  replace G := sum_l G
  refine x_callw' (vs := #[.pointer (some ⟨g0, 0, none⟩), .bool (Op.bytesLess x302 y266.1)]) en59 J (RetS.lf (F_column_Reader_Check (L := blk g1 91 [.slice A104 n105 c106] :: own kS 9 A104 n105 c106 a1 :: own kS 9 A253 n254 c255 l257 :: L) y266.2 (Op.bytesLess x302 y266.1) g0 h306 (qz + 3) hZ X)) (fun v U w hR J => ?_) rfl
  obtain ⟨rfl, X⟩ := hR
  obtain ⟨A311, n312, c313, X⟩ := obj106_open X
  obtain ⟨h314, X⟩ := (X.pk 1).unpure
  refine wpList_nil ?_
  exact hj2 y305.f0 G A311 n312 c313 h314 U w (J.sub _ rfl) X
 replace G := iff' hb262 G
 refine wp_exit ?_
 cases G
 exact hx241_0 l256 l257 (T241_ _ rfl) A250 n251 c252 A253 n254 c255 h259 U w (J.sub _ rfl) X
theorem F_Try_column_ReadTexts_1 {r : World} {L : List HP} {w : World} {Z : Nat → Prop} {wz : World} (a0 : (List Int)) (a60 : (List (List UInt8))) (A0 : Option Addr) (n0 : Nat) (c0 : Nat) (g60 : Nat) {y : (Bool × (List (List UInt8)))} (G : Try_column_ReadTexts_1 a0 a60 = some y) (qz : Nat) (hZ : L[qz]? = some (zone Z wz)) (ha0 : Imm Z wz (kI .u8) A0 n0 c0 a0) (X : SH r (obj91 g60 a60 :: L) w) :
  Ret Tryd.prog 39 #[.slice A0 n0 c0, .func (.func 79) #[] #[.pointer (some ⟨g60, 0, none⟩)]] w fun v w' => v = .bool y.1 ∧ SH r (obj91 g60 y.2 :: L) w' := by
 obtain ⟨y', hy, G⟩ := bnd G
 refine Ret.mono_ (try_walk (R := fun v w' => v = .bool y.1 ∧ SH r (obj91 g60 y.2 :: L) w') en79 X (fun g g4 w1 hS1 => ?_)) (fun v w' h => h)
 replace hS1 := obj106_mk (x := ⟨a0⟩) (hS1.pk 1 |> fun h => (SH.pure_ ha0 (h.pk 1)).pk 1)
 replace hS1 := hS1.pk 1
 replace hS1 := hS1.pk 2
 replace hS1 := hS1.pk 2
 rcases y' with y' | y'
 ·replace G := sum_l G
  cases G
  left
  refine Ret.mono_ (RetS.lf (F_column_ReadTexts_1 (L := blk g4 4 [.bool false] :: L) (⟨a0⟩ : S106) a60 g g60 hy (qz + 1) hZ hS1)) ?_
  rintro v w2 ⟨rfl, X⟩
  replace X := X.pk 2 |>.pk 1
  obtain ⟨A', n', c', X⟩ := obj106_open X
  have hQ := SH.unpure (X.pk 1)
  clear X
  obtain ⟨hi, X⟩ := hQ
  refine ⟨_, A', n', c', X, fun w3 h3 => ⟨?_, h3⟩⟩
  rw [← hi.ln]
 ·replace G := sum_r G
  cases G
  right
  refine Calls.mono (RetS.rf (F_column_ReadTexts_1 (L := blk g4 4 [.bool false] :: L) (⟨a0⟩ : S106) a60 g g60 hy (qz + 1) hZ hS1)) ?_
  rintro e w2 ⟨rfl, X⟩
  replace X := X.pk 2 |>.drop 1
  exact ⟨rfl, _, X, fun w3 h3 => ⟨rfl, h3⟩⟩
theorem F_column_ReadTexts {r : World} {L : List HP} {w : World} {Z : Nat → Prop} {wz : World} (a0 : (List Int)) (A0 : Option Addr) (n0 : Nat) (c0 : Nat) {y : ((List (List UInt8)) × Int)} (G : column_ReadTexts a0 = some y) (qz : Nat) (hZ : L[qz]? = some (zone Z wz)) (ha0 : Imm Z wz (kI .u8) A0 n0 c0 a0) (X : SH r (L) w) :
  Ret Tryd.prog 64 #[.slice A0 n0 c0] w fun v w' => ∃ (B0 : Option Addr) (m0 : Nat) (d0 : Nat), v = .tuple #[(.slice B0 m0 d0), (.int .i64 y.2)] ∧ SH r (own kS 9 B0 m0 d0 y.1 :: L) w' := by
 refine enter Tryd.func64 rfl Tryd.ntmps64 [(0, .slice A0 n0 c0)] rfl (by simp) ?_
 intro U J Qf hQ hQn
 unfold column_ReadTexts at G
 refine ws fun K100 hK100 => ?_
 refine x_m J rfl fun U J => ?_
 refine x_m J rfl fun U J => ?_
 refine wn (hK100 _ _ ?_)
 refine ws fun K101 hK101 => ?_
 refine x_alloc' (cs := [.slice none 0 0]) zr91 J X (fun g102 U w X J => ?_) rfl
 refine wn (hK101 _ _ ?_)
 refine ws fun K103 hK103 => ?_
 refine x_m J rfl fun U J => ?_
 refine x_v J (r_makeFunc rfl (mapev (vals := #[]) J rfl) (mapev (vals := #[.pointer (some ⟨g102, 0, none⟩)]) J rfl)) rfl fun U J => ?_
 replace X := SH.nil_own (d := kS) (e := 9) X
 replace X := X.pk 1
 replace X := obj91_mk (x := []) X
 obtain ⟨y104, h105, G⟩ := bnd G
 refine x_call' en39 J (F_Try_column_ReadTexts_1 (L := L) a0 [] A0 n0 c0 g102 h105 (qz + 0) hZ ha0 X) (fun v U w hR J => ?_) rfl
 obtain ⟨rfl, X⟩ := hR
 obtain ⟨A106, n107, c108, X⟩ := obj91_open X
 refine x_m J rfl fun U J => ?_
 refine wn (hK103 _ _ ?_)
 refine wp_seq_k fun K109 hK109 => ?_
 refine ws fun K110 hK110 => ?_
 refine x_m J rfl fun U J => ?_
 refine x_v J (r_not rfl (J.ev rfl)) rfl fun U J => ?_
 refine wn (hK110 _ _ ?_)
 refine c_if J rfl (fun hb111 => ?_) fun hb111 => ?_
 ·replace G := ift hb111 G
  refine ws fun K112 hK112 => ?_
  refine x_m J rfl fun U J => ?_
  refine x_m J rfl fun U J => ?_
  refine wn (hK112 _ _ ?_)
  refine wp_ret ?_
  replace X := SH.nil_own (d := kS) (e := 9) X
  replace X := X.drop 1 |>.drop 1
  cases G
  refine hQ _ _ ?_
  refine lv2 Tryd.results64 J rfl rfl ?_
  exact ⟨none, 0, 0, rfl, X⟩
 replace G := iff' hb111 G
 refine wp_skip ?_
 refine hK109 _ _ ?_
 refine ws fun K113 hK113 => ?_
 refine x_ld' uu91 (X.cell 0 rfl 0 _ rfl) J (fun U J => ?_) rfl
 refine x_m J rfl fun U J => ?_
 refine x_m J rfl fun U J => ?_
 refine wn (hK113 _ _ ?_)
 refine wp_ret ?_
 replace X := X.drop 0
 cases G
 refine hQ _ _ ?_
 refine lv2 Tryd.results64 J rfl rfl ?_
 exact ⟨A106, n107, c108, rfl, X⟩
end Go.Proofs.YteodeedejjcmgaaDoor.M
namespace Go.Proofs
open Go.RowKit Go.Maps Go.Sort Go.Shelf
def Tryd.sortL_ren : Go.Shelf.Ren := ⟨fun | 190 => 85 | 125 => 100 | 258 => 99 | 128 => 111 | 129 => 97 | 302 => 103 | 303 => 104 | 304 => 105 | 305 => 106 | 306 => 107 | 307 => 108 | 308 => 87 | 309 => 109 | 310 => 110 | 333 => 112 | 329 => 113 | 330 => 114 | 334 => 115 | 335 => 116 | 336 => 101 | 344 => 117 | n => n, fun | 31 => 91 | 9 => 9 | 3 => 3 | 46 => 73 | 0 => 0 | 51 => 48 | 53 => 31 | 4 => 4 | 183 => 153 | 182 => 152 | 131 => 127 | 5 => 5 | 218 => 159 | 222 => 163 | 228 => 165 | 229 => 166 | n => n, fun | n => n⟩
theorem Tryd.sortL : Go.Proofs.Lays.n190 Tryd.prog Tryd.sortL_ren := {
 mixed := by kernel_rfl
 f125 := Tryd.func100.trans (congrArg some (by kernel_rfl))
 f128 := Tryd.func111.trans (congrArg some (by kernel_rfl))
 f129 := Tryd.func97.trans (congrArg some (by kernel_rfl))
 f190 := Tryd.func85.trans (congrArg some (by kernel_rfl))
 f258 := Tryd.func99.trans (congrArg some (by kernel_rfl))
 f302 := Tryd.func103.trans (congrArg some (by kernel_rfl))
 f303 := Tryd.func104.trans (congrArg some (by kernel_rfl))
 f304 := Tryd.func105.trans (congrArg some (by kernel_rfl))
 f305 := Tryd.func106.trans (congrArg some (by kernel_rfl))
 f306 := Tryd.func107.trans (congrArg some (by kernel_rfl))
 f307 := Tryd.func108.trans (congrArg some (by kernel_rfl))
 f308 := Tryd.func87.trans (congrArg some (by kernel_rfl))
 f309 := Tryd.func109.trans (congrArg some (by kernel_rfl))
 f310 := Tryd.func110.trans (congrArg some (by kernel_rfl))
 f329 := Tryd.func113.trans (congrArg some (by kernel_rfl))
 f330 := Tryd.func114.trans (congrArg some (by kernel_rfl))
 f333 := Tryd.func112.trans (congrArg some (by kernel_rfl))
 f334 := Tryd.func115.trans (congrArg some (by kernel_rfl))
 f335 := Tryd.func116.trans (congrArg some (by kernel_rfl))
 f336 := Tryd.func101.trans (congrArg some (by kernel_rfl))
 f344 := Tryd.func117.trans (congrArg some (by kernel_rfl))
 t0 := Tryd.underlying0
 a0 := Tryd.isAgg0
 z0 := Tryd.sizeOf0
 v0 := Tryd.zeroValue0
 t3 := Tryd.underlying3
 a3 := Tryd.isAgg3
 z3 := Tryd.sizeOf3
 v3 := Tryd.zeroValue3
 t4 := Tryd.underlying4
 a4 := Tryd.isAgg4
 z4 := Tryd.sizeOf4
 v4 := Tryd.zeroValue4
 t5 := Tryd.underlying5
 a5 := Tryd.isAgg5
 z5 := Tryd.sizeOf5
 v5 := Tryd.zeroValue5
 t9 := Tryd.underlying9
 a9 := Tryd.isAgg9
 z9 := Tryd.sizeOf9
 v9 := Tryd.zeroValue9
 t31 := Tryd.underlying91
 a31 := Tryd.isAgg91
 z31 := Tryd.sizeOf91
 v31 := Tryd.zeroValue91
 t46 := Tryd.underlying73
 a46 := Tryd.isAgg73
 z46 := Tryd.sizeOf73
 v46 := Tryd.zeroValue73
 t51 := Tryd.underlying48
 a51 := Tryd.isAgg48
 z51 := Tryd.sizeOf48
 v51 := Tryd.zeroValue48
 t53 := Tryd.underlying31
 a53 := Tryd.isAgg31
 z53 := Tryd.sizeOf31
 v53 := Tryd.zeroValue31
 t131 := Tryd.underlying127
 a131 := Tryd.isAgg127
 z131 := Tryd.sizeOf127
 v131 := Tryd.zeroValue127
 t182 := Tryd.underlying152
 a182 := Tryd.isAgg152
 z182 := Tryd.sizeOf152
 v182 := Tryd.zeroValue152
 t183 := Tryd.underlying153
 a183 := Tryd.isAgg153
 z183 := Tryd.sizeOf153
 v183 := Tryd.zeroValue153
 t218 := Tryd.underlying159
 a218 := Tryd.isAgg159
 z218 := Tryd.sizeOf159
 v218 := Tryd.zeroValue159
 t222 := Tryd.underlying163
 a222 := Tryd.isAgg163
 z222 := Tryd.sizeOf163
 v222 := Tryd.zeroValue163
 t228 := Tryd.underlying165
 a228 := Tryd.isAgg165
 z228 := Tryd.sizeOf165
 v228 := Tryd.zeroValue165
 t229 := Tryd.underlying166
 a229 := Tryd.isAgg166
 z229 := Tryd.sizeOf166
 v229 := Tryd.zeroValue166 }
def Tryd.compactL_ren : Go.Shelf.Ren := ⟨fun | 194 => 69 | n => n, fun | 31 => 91 | 9 => 9 | 3 => 3 | 4 => 4 | 0 => 0 | n => n, fun | n => n⟩
theorem Tryd.compactL : Go.Proofs.Lays.n194 Tryd.prog Tryd.compactL_ren := {
 mixed := by kernel_rfl
 f194 := Tryd.func69.trans (congrArg some (by kernel_rfl))
 t0 := Tryd.underlying0
 a0 := Tryd.isAgg0
 z0 := Tryd.sizeOf0
 v0 := Tryd.zeroValue0
 t3 := Tryd.underlying3
 a3 := Tryd.isAgg3
 z3 := Tryd.sizeOf3
 v3 := Tryd.zeroValue3
 t4 := Tryd.underlying4
 a4 := Tryd.isAgg4
 z4 := Tryd.sizeOf4
 v4 := Tryd.zeroValue4
 t9 := Tryd.underlying9
 a9 := Tryd.isAgg9
 z9 := Tryd.sizeOf9
 v9 := Tryd.zeroValue9
 t31 := Tryd.underlying91
 a31 := Tryd.isAgg91
 z31 := Tryd.sizeOf91
 v31 := Tryd.zeroValue91 }
def Tryd.sortedL_ren : Go.Shelf.Ren := ⟨fun | 6 => 70 | 8 => 84 | 9 => 85 | 11 => 98 | 13 => 100 | 12 => 99 | 23 => 111 | 24 => 97 | 14 => 103 | 15 => 104 | 16 => 105 | 17 => 106 | 18 => 107 | 19 => 108 | 20 => 87 | 21 => 109 | 22 => 110 | 25 => 112 | 26 => 113 | 27 => 114 | 28 => 115 | 29 => 116 | 30 => 101 | 31 => 117 | n => n, fun | 26 => 9 | 28 => 125 | 24 => 91 | 0 => 0 | 3 => 3 | 37 => 73 | 48 => 48 | 50 => 31 | 4 => 4 | 40 => 153 | 39 => 152 | 45 => 127 | 5 => 5 | 9 => 9 | 51 => 159 | 55 => 163 | 57 => 165 | 58 => 166 | 33 => 139 | n => n, fun | n => n⟩
theorem Tryd.sortedL : Go.Proofs.SlLaysZ.n6 Tryd.prog Tryd.sortedL_ren := {
 mixed := by kernel_rfl
 f6 := ⟨ "slices.Sorted[string]", by decide, Tryd.func70.trans (congrArg some (by kernel_rfl))⟩
 f8 := ⟨ "slices.Collect[string]", by decide, Tryd.func84.trans (congrArg some (by kernel_rfl))⟩
 f11 := ⟨ "slices.AppendSeq[[]string,string]", by decide, Tryd.func98.trans (congrArg some (by kernel_rfl))⟩
 t0 := Tryd.underlying0
 a0 := Tryd.isAgg0
 z0 := Tryd.sizeOf0
 v0 := Tryd.zeroValue0
 t24 := Tryd.underlying91
 a24 := Tryd.isAgg91
 z24 := Tryd.sizeOf91
 v24 := Tryd.zeroValue91
 t26 := Tryd.underlying9
 a26 := Tryd.isAgg9
 z26 := Tryd.sizeOf9
 v26 := Tryd.zeroValue9
 t28 := Tryd.underlying125
 a28 := Tryd.isAgg125
 z28 := Tryd.sizeOf125
 v28 := Tryd.zeroValue125
 i26 := by kernel_rfl }
set_option maxRecDepth 100000 in
set_option maxHeartbeats 2000000 in
theorem values_gives (n : Nat) (hn : 1 ≤ n) (l Bx B : Nat) (W0 : World) (A : Option Addr) (c : Nat) (xs : List (List UInt8)) (hl : xs.length ≤ 4611686018427387904) (J : List (List UInt8) → World → Prop)
  (hJB : ∀ ss W1, J ss W1 → Below B W0 W1) (hBx : Bx < B) (hbox : W0.cell? ⟨Bx, 0, none⟩ = some (.slice A xs.length c))
  (hrow : 0 < xs.length → ∃ b off, A = some ⟨b, off, none⟩ ∧ b < B ∧ ∀ j x, xs[j]? = some x → W0.cell? ⟨b, off + j, none⟩ = some (encStr x))
  (hY : ∀ pre x W1, J pre W1 → pre.length < xs.length → YieldAt Fence.wide (n - 1) Tryd.prog l #[encStr x] W1 fun e W' => e = .returned (.bool true) ∧ J (pre ++ [x]) W' ∧ KeepsWalks W1 W')
  (W : World) (h0 : J [] W) :
  CallsIn Fence.wide n Tryd.prog 86 #[.func (.yield l) #[] #[], .pointer (some ⟨Bx, 0, none⟩)] W fun e W' => (∃ v, e = .returned v) ∧ J xs W' := by
 have hb1 := (hJB _ _ h0)
 have hx0 : W.cell? ⟨Bx, 0, none⟩ = some (.slice A xs.length c) := (hb1.cell (p := ⟨Bx, 0, none⟩) hBx).trans hbox
 refine callsIn_of_wp Tryd.func86 rfl trivial ?_ rfl
 simp only [Tryd.ntmps86, List.size_toArray, List.length_cons, List.length_nil, Nat.reduceAdd, Nat.reduceSub, Array.replicate_succ, Array.replicate_zero, List.push_toArray, List.append_toArray, List.nil_append, List.cons_append]
 gi_wp2
 gi_loopw [7] (fun s7 wr => ∃ k : Nat, s7 = .int .i64 k ∧ k ≤ xs.length ∧ J (xs.take k) wr) (fun s7 _ => match s7 with | .int .i64 k => (xs.length : Int).toNat - k.toNat | _ => 0)
 case atStart => exact ⟨0, rfl, Nat.zero_le _, by simpa using h0⟩
 case round =>
  obtain ⟨k, rfl, hk, hJk⟩ := hrel
  by_cases hlt : k < xs.length
  ·obtain ⟨b, off, rfl, hb, hcell⟩ := hrow (by omega)
   have hx := List.getElem?_eq_getElem hlt
   have hc := ((hJB _ _ hJk).cell (p := ⟨b, off + k, none⟩) hb).trans (hcell k _ hx)
   obtain ⟨x, hxx⟩ : ∃ x, x = xs[k] := ⟨_, rfl⟩
   rw [← hxx] at hc hx
   have hkl : (xs.take k).length = k := by simp; omega
   obtain ⟨fn, tmps, assign, body, hy, hR⟩ := hY (xs.take k) x wr hJk (by omega)
   clear hrow hcell hxx
   gi_wp2
   refine hR.mono ?_
   rintro e W3 ⟨rfl, hJ3, hk3⟩
   gi_wp2
   go_roundw
   case rel => exact ⟨k + 1, by simp, by omega, by rw [List.take_add_one, hx]; exact hJ3⟩
   case measure => simp; omega
  ·have : k = xs.length := by omega
   subst this
   gi_wp2
   go_end0
   exact ⟨⟨_, rfl⟩, by simpa using hJk⟩
set_option maxRecDepth 100000 in
set_option maxHeartbeats 2000000 in
theorem appendSeq_values (Bx : Nat) (w : World) (A : Option Addr) (c : Nat) (xs : List (List UInt8)) (hl : xs.length * 16 ≤ 140737488355328) (hBx : Bx < w.heap.size) (hbox : w.cell? ⟨Bx, 0, none⟩ = some (.slice A xs.length c))
  (hrow : 0 < xs.length → ∃ b off, A = some ⟨b, off, none⟩ ∧ b < w.heap.size ∧ ∀ j x, xs[j]? = some x → w.cell? ⟨b, off + j, none⟩ = some (encStr x)) :
  Calls Tryd.prog 98 #[.slice none 0 0, .func (.func 86) #[] #[.pointer (some ⟨Bx, 0, none⟩)]] w fun e w' => ∃ v, e = .returned v ∧ w'.ownsRow w.heap.size 9 1 v xs.length (xs.map encStr) ∧ (v = .slice none 0 0 ↔ xs = []) ∧ Below w.heap.size w w' := by
 refine (callsIn_wide (n := 5)).1 ?_
 obtain ⟨sv, hsv⟩ : ∃ sv : Value, sv = .func (.func 86) #[] #[.pointer (some ⟨Bx, 0, none⟩)] := ⟨_, rfl⟩
 have hsv' := hsv
 refine callsIn_of_wp_marks Tryd.func98 rfl trivial ?_ rfl
 simp only [Tryd.ntmps98, List.size_toArray, List.length_cons, List.length_nil, Nat.reduceAdd, Nat.reduceSub, Array.replicate_succ, Array.replicate_zero, List.push_toArray, List.append_toArray, List.nil_append, List.cons_append]
 gi_wp2
 refine wpIn_rangeFunc ?_
 intro fn hfn
 rw [show Fence.wide.round = none from rfl]
 let ρ := Tryd.sortedL_ren
 obtain ⟨W0, hW0⟩ : ∃ W0, w.alloc (.cells #[.slice none 0 0] 91) = W0 := ⟨_, rfl⟩
 have hs0 : W0.heap.size = w.heap.size + 1 := by rw [← hW0]; simp
 have hv0 : W0.heap[w.heap.size]? = some (.cells #[.slice none 0 0] 91 (0, 0)) := by rw [← hW0]; exact World.alloc_heap_new w _
 have hb0 : Below w.heap.size w W0 := by rw [← hW0]; exact (Below.refl _ w).alloc (Nat.le_refl _) _
 rw [hW0]
 obtain ⟨W1, hW1⟩ : ∃ W1, (W0.alloc (.deferred (some []))).alloc (.loop (AnyZ.apRec ρ fn sv w.heap.size W0.heap.size .ready none)) = W1 := ⟨_, rfl⟩
 have hold : ∀ k, k < W0.heap.size → W1.heap[k]? = W0.heap[k]? := fun k hk => by
  rw [← hW1]; exact (Below.heap_alloc _ _ k (by simp; omega)).trans (Below.heap_alloc _ _ k hk)
 have hb1 : Below w.heap.size w W1 := by rw [← hW1]; exact (hb0.alloc hb0.size _).alloc (by have := hb0.size; simp; omega) _
 have hM : AnyZ.ApAt ρ w fn sv w.heap.size (W0.heap.size + 1) W0.heap.size [] W1 :=
  ⟨⟨_, (hold w.heap.size (by omega)).trans hv0, ⟨rfl, .inl ⟨rfl, rfl⟩⟩, by simp⟩,
   by rw [← hW1]; have := World.alloc_heap_new (W0.alloc (.deferred (some []))) (.loop (AnyZ.apRec ρ fn sv w.heap.size W0.heap.size .ready none)); rwa [World.size_alloc] at this,
   by rw [← hW1]; exact (Below.heap_alloc _ _ _ (by simp)).trans (World.alloc_heap_new W0 _), hb1⟩
 refine ⟨W0.heap.size + 1, [{ target := .collected W0.heap.size, args := #[] }], W1, { target := .fn (.func 86) #[.pointer (some ⟨Bx, 0, none⟩)], args := #[.func (.yield (W0.heap.size + 1)) #[] #[]] }, W1, 86,
  #[.func (.yield (W0.heap.size + 1)) #[] #[]] ++ #[.pointer (some ⟨Bx, 0, none⟩)], W1, ?_, ?_, ?_, ?_, fun _ => by omega, ?_⟩
 ·rw [← hW1, hsv]; exact run_enterLoop_outer _ _ _ _ _
 ·simp [resolve, go_sem]
 ·intro f' hf'; trivial
 ·simp [invoke, go_sem]
 ·have hcur := AnyZ.apYield (ρ := ρ) (P := Tryd.prog) { Tryd.sortedL with } Fence.wide 3 w fn hfn sv w.heap.size (W0.heap.size + 1) W0.heap.size (by omega) (by omega) (by omega) (Nat.le_refl _) (by omega) xs.length (by unfold maxLen; omega) hl
  refine (values_gives 4 (by omega) (W0.heap.size + 1) Bx w.heap.size w A c xs (by omega) (AnyZ.ApAt ρ w fn sv w.heap.size (W0.heap.size + 1) W0.heap.size) (fun ss W1 h => h.below) hBx hbox hrow
   (fun pre x W hJ hlt => hcur pre x W hJ hlt) W1 hM).mono ?_
  rintro e W2 ⟨⟨v0, rfl⟩, h2⟩
  obtain ⟨v, hv, hr, hnil⟩ := h2.box
  have hend := run_endLoop (P := Tryd.prog) h2.L (by simp [AnyZ.apRec])
  obtain ⟨W3, hW3⟩ : ∃ W3, W2.putObj (W0.heap.size + 1) (.loop { AnyZ.apRec ρ fn sv w.heap.size W0.heap.size .ready none with state := .exhausted }) = W3 := ⟨_, rfl⟩
  rw [hW3] at hend
  have hg3 : W2.grownBy W3 (some (W0.heap.size + 1)) := by rw [← hW3]; exact grownBy_putObj_a _ _ _
  have hv3 : W3.heap[w.heap.size]? = some (.cells #[v] 91 (0, 0)) := by rw [← hW3]; exact (World.putObj_heap_other (by omega)).trans hv
  have hK3 : W3.heap[W0.heap.size]? = some (.deferred (some [])) := by rw [← hW3]; exact (World.putObj_heap_other (by omega)).trans h2.K
  have hr3 := hr.kept hg3 (ownsRow_ne_a hr h2.L (fun cur e => by cases e))
  have hb3 : Below w.heap.size w W3 := h2.below.grown hg3 h2.below.size (fun k e => by cases e; omega)
  obtain ⟨hc3, hf3⟩ := cell_of_box_a hv3
  clear hW3
  refine ⟨none, W3, hend, ?_⟩
  gi_wp2
  rw [← hs0]
  refine ⟨by simp, .inl ⟨_, _, rfl, run_takeDeferred hK3, ?_⟩⟩
  exact ⟨_, results_tmp rfl _ _ _, v, rfl, hr3.kept (grownBy_putObj_a _ _ _) (ownsRow_ne_a hr3 hK3 (fun cur e => by cases e)), hnil, hb3.grown (grownBy_putObj_a _ _ _) hb3.size (fun k e => by cases e; omega)⟩
set_option maxRecDepth 100000 in
set_option maxHeartbeats 2000000 in
theorem collect_values (Bx : Nat) (w : World) (A : Option Addr) (c : Nat) (xs : List (List UInt8)) (hl : xs.length * 16 ≤ 140737488355328) (hBx : Bx < w.heap.size) (hbox : w.cell? ⟨Bx, 0, none⟩ = some (.slice A xs.length c))
  (hrow : 0 < xs.length → ∃ b off, A = some ⟨b, off, none⟩ ∧ b < w.heap.size ∧ ∀ j x, xs[j]? = some x → w.cell? ⟨b, off + j, none⟩ = some (encStr x)) :
  Calls Tryd.prog 84 #[.func (.func 86) #[] #[.pointer (some ⟨Bx, 0, none⟩)]] w fun e w' => ∃ v, e = .returned v ∧ w'.ownsRow w.heap.size 9 1 v xs.length (xs.map encStr) ∧ (v = .slice none 0 0 ↔ xs = []) ∧ Below w.heap.size w w' := by
 refine (callsIn_wide (n := 6)).1 ?_
 have cS := (callsIn_wide (n := 5)).2 (appendSeq_values Bx w A c xs hl hBx hbox hrow)
 refine callsIn_of_wp Tryd.func84 rfl trivial ?_ rfl
 simp only [Tryd.ntmps84, List.size_toArray, List.length_cons, List.length_nil, Nat.reduceAdd, Nat.reduceSub, Array.replicate_succ, Array.replicate_zero, List.push_toArray, List.append_toArray, List.nil_append, List.cons_append]
 have hfS : Fence.wide.fn 98 := trivial
 gi_wp2_with (gi_at_call 98; refine cS.mono ?_; rintro e w' ⟨v, rfl, hr, hnil, hb⟩)
 go_ret
 exact ⟨v, rfl, hr, hnil, hb⟩
set_option maxRecDepth 100000 in
set_option maxHeartbeats 2000000 in
theorem sorted_values (Bx : Nat) (w : World) (A : Option Addr) (c : Nat) (xs : List (List UInt8)) (hl : xs.length * 16 ≤ 140737488355328) (hBx : Bx < w.heap.size) (hbox : w.cell? ⟨Bx, 0, none⟩ = some (.slice A xs.length c))
  (hrow : 0 < xs.length → ∃ b off, A = some ⟨b, off, none⟩ ∧ b < w.heap.size ∧ ∀ j x, xs[j]? = some x → w.cell? ⟨b, off + j, none⟩ = some (encStr x)) :
  Calls Tryd.prog 70 #[.func (.func 86) #[] #[.pointer (some ⟨Bx, 0, none⟩)]] w fun e w' => ∃ v, e = .returned v ∧ w'.ownsRow w.heap.size 9 1 v xs.length ((xs.mergeSort fun x y => decide (x ≤ y)).map encStr) ∧ (v = .slice none 0 0 ↔ xs = []) ∧ Below w.heap.size w w' := by
 refine (callsIn_wide (n := 7)).1 ?_
 have cS := (callsIn_wide (n := 6)).2 (collect_values Bx w A c xs hl hBx hbox hrow)
 refine callsIn_of_wp Tryd.func70 rfl trivial ?_ rfl
 simp only [Tryd.ntmps70, List.size_toArray, List.length_cons, List.length_nil, Nat.reduceAdd, Nat.reduceSub, Array.replicate_succ, Array.replicate_zero, List.push_toArray, List.append_toArray, List.nil_append, List.cons_append]
 have hfS : Fence.wide.fn 84 := trivial
 have hfT : Fence.wide.fn 85 := trivial
 gi_wp2_with (gi_at_call 84; refine cS.mono ?_; rintro e W ⟨v, rfl, hr, hnil, hb⟩)
 rcases hr.2 with ⟨rfl, hz⟩ | ⟨gb, cap, cur, rfl, hbase, hgb, r1, r2, r3, r4⟩
 ·have hss : xs = [] := List.eq_nil_of_length_eq_zero hz
  subst hss
  have cT := (callsIn_wide (n := 6)).2 (Any.slices_Sort_string_none Tryd.sortL none 0 W)
  change CallsIn _ _ Tryd.prog 85 _ _ _ at cT
  gi_wp2_with (gi_at_call 85; refine cT.mono ?_; rintro e w' ⟨rfl, rfl⟩)
  go_ret
  exact ⟨_, rfl, by simpa using hr, by simp, hb⟩
 ·have hH : Holds encStr W gb 0 xs.toArray := holds_of_block hgb (by simpa using r4)
  have hgl : gb < W.heap.size := (Array.getElem?_eq_some_iff.1 hgb).1
  have cT := (callsIn_wide (n := 6)).2 (Any.slices_Sort_string Tryd.sortL gb 0 cap xs W hH hgl (by omega))
  change CallsIn _ _ Tryd.prog 85 _ _ _ at cT
  gi_wp2_with (gi_at_call 85; refine cT.mono ?_; rintro e w' ⟨rfl, nn, os, rfl⟩)
  go_ret
  exact ⟨_, rfl, ownsRow_sorted (by simp) hbase hgb r1 r2 r3, hnil, hb.grown (grownBy_sorted _) hb.size (fun j hj => by cases hj; exact hbase)⟩
end Go.Proofs
namespace Go.Proofs.YteodeedejjcmgaaDoor.M
open Go Go.RowKit Go.Proofs.YteodeedejjcmgaaDoor.E
noncomputable def slices_Sorted_string (a0 : List (List UInt8)) : Option (List (List UInt8)) := chk (a0.length * 16 ≤ 140737488355328) (some (a0.mergeSort fun x y => decide (x ≤ y)))
noncomputable def slices_Compact_string (a0 : List (List UInt8)) : Option (List (List UInt8)) := some (Lib.compact a0)
set_option linter.unusedVariables false
theorem F_slices_Values {r w : World} {L : List HP} {A : Option Addr} {n c : Nat} (hS : SH r L w) :
  Ret Tryd.prog 71 #[.slice A n c] w fun v w' => ∃ g, v = .func (.func 86) #[] #[.pointer (some ⟨g, 0, none⟩)] ∧ SH r (blk g 91 [.slice A n c] :: L) w' := by
 refine enter Tryd.func71 rfl Tryd.ntmps71 [(0, .slice A n c)] rfl (by simp) ?_
 intro ac hA Qf hQ hQn
 refine wp_seq_k fun K1 hK1 => ?_
 refine wp_reg ?_
 refine x_box hA hS (fun g ac w hS hA => ?_) rfl rfl rfl rfl rfl rfl
 refine x_assign hA (fun ac hA => ?_) rfl rfl rfl rfl rfl
 refine wpList_nil ?_
 refine hK1 _ _ ?_
 refine wp_seq_k fun K2 hK2 => ?_
 refine wp_reg ?_
 refine x_val hA (r_makeFunc rfl (mapev (vals := #[]) hA rfl) (mapev (vals := #[.pointer (some ⟨g, 0, none⟩)]) hA rfl)) (fun ac hA => ?_) rfl rfl rfl
 refine x_assign hA (fun ac hA => ?_) rfl rfl rfl rfl rfl
 refine wpList_nil ?_
 refine hK2 _ _ ?_
 refine wp_ret ?_
 refine hQ _ _ ?_
 refine lv Tryd.results71 hA rfl ?_
 exact ⟨g, rfl, hS⟩
theorem F_slices_Sorted {r w : World} {L : List HP} (xs : List (List UInt8)) {g : Nat} {A : Option Addr} {n c : Nat} {y : List (List UInt8)} (hF : slices_Sorted_string xs = some y) (ha : RdL L kS A n c xs) (hS : SH r (blk g 91 [.slice A n c] :: L) w) :
  Ret Tryd.prog 70 #[.func (.func 86) #[] #[.pointer (some ⟨g, 0, none⟩)]] w fun v w' => ∃ (A' : Option Addr) (n' c' : Nat), v = .slice A' n' c' ∧ SH r (own kS 9 A' n' c' y :: L) w' := by
 obtain ⟨hsz, hF⟩ := chk_some hF
 cases hF
 obtain ⟨S1, S2, h1, h2, hd, hA, hL⟩ := hS.head
 have hg := hA.2
 have hgl : g < w.heap.size := (Array.getElem?_eq_some_iff.1 hg).1
 have hln := ha.ln
 subst hln
 refine Calls.mono (sorted_values g w A c xs hsz hgl (by simp [World.cell?, hg]) fun hpos => ?_) ?_
 ·obtain ⟨ad, e, hr⟩ := ha.rd w S2 hL hpos
  have hc : ∀ j x, xs[j]? = some x → w.cell? (ad.add j) = some (encStr x) := fun j x hx => by
   obtain ⟨cs, hV, h3⟩ := hr j x hx
   have hV' : cs = [str x] := hV
   subst hV'
   have := h3 0 (str x) rfl
   rw [show j * kS.sz + 0 = j from by show j * 1 + 0 = j; omega] at this
   exact this
  obtain ⟨x, hx⟩ : ∃ x, xs[0]? = some x := ⟨_, List.getElem?_eq_getElem hpos⟩
  have h0 := hc 0 x hx
  obtain ⟨b, off, sp⟩ := ad
  have hsp : sp = none := by simpa [Addr.add] using World.cell?_spot h0
  subst hsp
  refine ⟨b, off, e, ?_, fun j x hx => ?_⟩
  ·have : w.cell? ⟨b, off, none⟩ = some (encStr x) := by simpa [Addr.add] using h0
   unfold World.cell? at this
   split at this
   ·rename_i hq; exact (Array.getElem?_eq_some_iff.1 hq).1
   ·cases this
  ·have := hc j x hx
   unfold Addr.add at this
   split at this
   ·rename_i hj; subst hj; exact this
   ·exact this
 ·rintro ev w' ⟨v, rfl, hr, _, hb⟩
  obtain ⟨A', n', c', rfl, hS'⟩ := hS.tail.newrow (d := kS) (xs := xs.mergeSort fun x y => decide (x ≤ y)) hb (by rw [List.length_mergeSort]; exact hr) (lay_kS _)
  exact ⟨_, rfl, A', n', c', rfl, hS'⟩
theorem F_slices_Compact {r w : World} {L : List HP} (xs : List (List UInt8)) {A : Option Addr} {n c : Nat} {y : List (List UInt8)} (hF : slices_Compact_string xs = some y) (hS : SH r (own kS 9 A n c xs :: L) w) :
  Ret Tryd.prog 69 #[.slice A n c] w fun v w' => ∃ (A' : Option Addr) (n' c' : Nat), v = .slice A' n' c' ∧ SH r (own kS 9 A' n' c' y :: L) w' := by
 cases hF
 obtain ⟨S1, S2, h1, h2, hd, hA, hL⟩ := hS.head
 obtain ⟨hn, ⟨inner, hLy, ho⟩, hg⟩ := hA
 subst hn
 have hle := own_le (d := kS) (e := 9) ⟨rfl, ⟨inner, hLy, ho⟩, hg⟩
 obtain rfl := lay_kS_eq hLy
 rcases ho.2 with ⟨hv, h0⟩ | ⟨g, cap, cur, hv, hg0, hh, hnc, hcm, hs, ht⟩
 ·injection hv with e1 e2 e3
  subst e1; subst e3
  have hx : xs = [] := List.eq_nil_of_length_eq_zero h0
  subst hx
  have cC := Any.slices_Compact_string_empty Tryd.compactL none 0 w
  change Calls Tryd.prog 69 _ _ _ at cC
  refine cC.mono ?_
  rintro ev w' ⟨rfl, rfl⟩
  exact ⟨_, rfl, none, 0, 0, rfl, hS⟩
 ·injection hv with e1 e2 e3
  subst e1; subst e3
  have hH : Go.Sort.Holds encStr w g 0 xs.toArray := holds_of_block hh (by rw [show xs.length * kS.sz = xs.length from by show _ * 1 = _; omega] at ht; exact ht)
  have cC := Any.slices_Compact_string Tryd.compactL g 0 c xs w hH (by unfold maxLen at hcm; omega) hnc
  change Calls Tryd.prog 69 _ _ _ at cC
  refine cC.mono ?_
  rintro ev w' ⟨rfl, q, rfl⟩
  have hcl : (Lib.compact xs).length ≤ xs.length := compact_len xs
  refine ⟨_, rfl, some ⟨g, 0, none⟩, (Lib.compact xs).length, c, rfl, ?_⟩
  have hr := ownsRow_sorted (w := w) (base := 0) (n := q) (os := #[]) (ss := xs) (ts := Lib.compact xs ++ List.replicate (xs.length - (Lib.compact xs).length) []) (by simp; omega) (Nat.zero_le _) hh hnc hcm hs
  rw [Go.Sort.grow_empty] at hr
  have hgb := grownBy_sorted (w := w) (g := g) (n := q) (os := #[]) (Lib.compact xs ++ List.replicate (xs.length - (Lib.compact xs).length) ([] : List UInt8)).toArray
  rw [Go.Sort.grow_empty] at hgb
  obtain ⟨q1, q2, q3, q4, q5⟩ := hgb
  refine hS.upd (Ls := [own kS 9 (some ⟨g, 0, none⟩) (Lib.compact xs).length c (Lib.compact xs)]) h1 h2 hd hL q1 q2 q3 q4 (fun k hk hnk => q5 k hk fun e => hnk (by cases e; exact hg g rfl)) fun S hSS _ _ => ?_
  refine ⟨S, fun _ => False, fun k hk => hk, fun k hk => hk.elim, fun k _ hk => hk, ⟨rfl, ⟨_, lay_kS _, ?_⟩, fun k hk => by cases hk; exact hSS g (hg g rfl)⟩, trivial⟩
  refine ⟨by simp [kS], ?_⟩
  rcases hr.2 with ⟨hv2, _⟩ | ⟨g2, cap2, cur2, hv2, _, hh2, hnc2, hcm2, hs2, ht2⟩
  ·cases hv2
  ·injection hv2 with e1 e2 e3
   injection e1 with e1
   injection e1 with e1
   subst e1; subst e3
   refine .inr ⟨g, c, cur2, rfl, Nat.zero_le _, hh2, by omega, hcm2, hs2, ?_⟩
   have h5 := congrArg (List.take (Lib.compact xs).length) ht2
   rw [List.take_take, Nat.min_eq_left (by omega), List.map_append, List.take_left' (by simp)] at h5
   rw [show (Lib.compact xs).length * kS.sz = (Lib.compact xs).length from by show _ * 1 = _; omega]
   exact h5
noncomputable section
set_option linter.unusedSimpArgs false
def cmp_isNaN_string (a0 : (List UInt8)) : Option (Bool) :=
  some (!(a0 == a0))
def slices_isNaN_string (a0 : (List UInt8)) : Option (Bool) :=
  some (!(a0 == a0))
def cmp_Less_string (a0 : (List UInt8)) (a1 : (List UInt8)) : Option (Bool) :=
  (cmp_isNaN_string a0).bind fun y103 => (if y103 = true then ((cmp_isNaN_string a1).bind fun y106 => (if (!y106) = true then (some true) else (some (Op.bytesLess a0 a1)))) else (some (Op.bytesLess a0 a1)))
def slices_BinarySearch_string_string_b1 (a0 : (List (List UInt8))) (a1 : (List UInt8)) (x520 : Int) : Option (Int × Bool) :=
  if (decide (x520 < (a0.length : Int))) = true then ((at_ a0 x520).bind fun x523 => (if (x523 == a1) = true then (some (x520, true)) else ((slices_isNaN_string x523).bind fun y528 => (if y528 = true then ((slices_isNaN_string a1).bind fun y531 => (some (x520, y531))) else (some (x520, false)))))) else (some (x520, false))
def slices_BinarySearch_string_string_x1_0 (a0 : (List (List UInt8))) (a1 : (List UInt8)) (x625 : Int) : Option (Int × Bool) :=
  slices_BinarySearch_string_string_b1 a0 a1 x625
def slices_BinarySearch_string_string_b2 (x649 : Int) (x650 : Int) : Option ((Int × Int) ⊕ ((Int))) :=
  some (.inl (x649, x650))
def slices_BinarySearch_string_string_l1 (a0 : (List (List UInt8))) (a1 : (List UInt8)) (x578 : Int) (x579 : Int) : Option ((Int × Int) ⊕ ((Int))) :=
  if (decide (x578 < x579)) = true then (ltt (IntKind.i64.wrap (x578 + x579)) fun x652 => (ltt (IntKind.u64.wrap x652) fun x654 => (ltt (ishr .u64 x654 1) fun x656 => (ltt (IntKind.i64.wrap x656) fun x658 => ((at_ a0 x658).bind fun x661 => ((cmp_Less_string x661 a1).bind fun y664 => (if y664 = true then (ltt (IntKind.i64.wrap (x658 + 1)) fun x667 => (slices_BinarySearch_string_string_b2 x667 x579)) else (slices_BinarySearch_string_string_b2 x578 x658)))))))) else (some (.inr (x578)))
def slices_BinarySearch_string_string (a0 : (List (List UInt8))) (a1 : (List UInt8)) : Option (Int × Bool) :=
  (loop (fun s => slices_BinarySearch_string_string_l1 a0 a1 s.1 s.2) (0, (a0.length : Int))).bind fun t => slices_BinarySearch_string_string_x1_0 a0 a1 t
def column_Texts_b2 (l336 : (List Int)) (l606 : (List Int)) : Option ((List Int)) :=
  (column_Ints l606).bind fun y611 => (chk (l336.length + y611.length ≤ 140737488355328 / 1) (some (l336 ++ y611)))
def column_Texts_x1_2 (l336 : (List Int)) (l681 : (List Int)) : Option ((List Int)) :=
  column_Texts_b2 l336 l681
def column_Texts_l1 (a0 : (List (List UInt8))) (y109 : (List (List UInt8))) (l652 : (List Int)) (x656 : Int) : Option (((List Int) × Int) ⊕ (((List Int)))) :=
  if (decide (x656 < (a0.length : Int))) = true then ((at_ a0 x656).bind fun x692 => ((slices_BinarySearch_string_string y109 x692).bind fun y696 => (chk (l652.length + [y696.1].length ≤ 140737488355328 / 8) (ltt (IntKind.i64.wrap (x656 + 1)) fun x703 => (some (.inl (l652 ++ [y696.1], x703))))))) else (some (.inr (l652)))
def column_Texts_b1 (a0 : (List (List UInt8))) (y109 : (List (List UInt8))) (l336 : (List Int)) : Option ((List Int)) :=
  (loop (fun s => column_Texts_l1 a0 y109 s.1 s.2) ([], 0)).bind fun t => column_Texts_x1_2 l336 t
def column_Texts_x2_0 (a0 : (List (List UInt8))) (y109 : (List (List UInt8))) (l752 : (List Int)) : Option ((List Int)) :=
  column_Texts_b1 a0 y109 l752
def column_Texts_l2 (y109 : (List (List UInt8))) (l726 : (List Int)) (x730 : Int) : Option (((List Int) × Int) ⊕ (((List Int)))) :=
  if (decide (x730 < (y109.length : Int))) = true then ((at_ y109 x730).bind fun x763 => ((column_Text l726 x763).bind fun y766 => (ltt (IntKind.i64.wrap (x730 + 1)) fun x771 => (some (.inl (y766, x771)))))) else (some (.inr (l726)))
def column_Texts (a0 : (List (List UInt8))) : Option ((List Int)) :=
  (slices_Sorted_string a0).bind fun y104 => ((slices_Compact_string y104).bind fun y109 => (ltt (IntKind.u64.wrap (y109.length : Int)) fun x115 => ((column_Uint [] x115).bind fun y117 => ((loop (fun s => column_Texts_l2 y109 s.1 s.2) (y117, 0)).bind fun t => column_Texts_x2_0 a0 y109 t))))
end
set_option maxRecDepth 100000
set_option maxHeartbeats 4000000
set_option linter.unusedSimpArgs false
theorem F_cmp_isNaN_string {r : World} {L : List HP} {w : World} (a0 : (List UInt8)) {y : (Bool)} (G : cmp_isNaN_string a0 = some y) (X : SH r (L) w) :
  Ret Tryd.prog 101 #[str a0] w fun v w' => v = .bool y ∧ SH r (L) w' := by
 refine enter Tryd.func101 rfl Tryd.ntmps101 [(0, str a0)] rfl (by simp) ?_
 intro U J Qf hQ hQn
 unfold cmp_isNaN_string at G
 refine ws fun K100 hK100 => ?_
 refine x_m J rfl fun U J => ?_
 refine wn (hK100 _ _ ?_)
 refine ws fun K101 hK101 => ?_
 refine x_m J rfl fun U J => ?_
 refine x_m J rfl fun U J => ?_
 refine x_v J (r_neS rfl (J.ev rfl) (J.ev rfl)) rfl fun U J => ?_
 refine x_m J rfl fun U J => ?_
 refine wn (hK101 _ _ ?_)
 refine wp_ret ?_
 cases G
 refine hQ _ _ ?_
 refine lv Tryd.results101 J rfl ?_
 exact ⟨rfl, X⟩
theorem F_slices_isNaN_string {r : World} {L : List HP} {w : World} (a0 : (List UInt8)) {y : (Bool)} (G : slices_isNaN_string a0 = some y) (X : SH r (L) w) :
  Ret Tryd.prog 88 #[str a0] w fun v w' => v = .bool y ∧ SH r (L) w' := by
 refine enter Tryd.func88 rfl Tryd.ntmps88 [(0, str a0)] rfl (by simp) ?_
 intro U J Qf hQ hQn
 unfold slices_isNaN_string at G
 refine ws fun K100 hK100 => ?_
 refine x_m J rfl fun U J => ?_
 refine wn (hK100 _ _ ?_)
 refine ws fun K101 hK101 => ?_
 refine x_m J rfl fun U J => ?_
 refine x_m J rfl fun U J => ?_
 refine x_v J (r_neS rfl (J.ev rfl) (J.ev rfl)) rfl fun U J => ?_
 refine x_m J rfl fun U J => ?_
 refine wn (hK101 _ _ ?_)
 refine wp_ret ?_
 cases G
 refine hQ _ _ ?_
 refine lv Tryd.results88 J rfl ?_
 exact ⟨rfl, X⟩
theorem F_cmp_Less_string {r : World} {L : List HP} {w : World} (a0 : (List UInt8)) (a1 : (List UInt8)) {y : (Bool)} (G : cmp_Less_string a0 a1 = some y) (X : SH r (L) w) :
  Ret Tryd.prog 87 #[str a0, str a1] w fun v w' => v = .bool y ∧ SH r (L) w' := by
 refine enter Tryd.func87 rfl Tryd.ntmps87 [(0, str a0), (1, str a1)] rfl (by simp) ?_
 intro U J Qf hQ hQn
 unfold cmp_Less_string at G
 refine ws fun K100 hK100 => ?_
 refine x_m J rfl fun U J => ?_
 refine wn (hK100 _ _ ?_)
 refine ws fun K101 hK101 => ?_
 refine x_m J rfl fun U J => ?_
 obtain ⟨y102, h103, G⟩ := bnd G
 refine x_call' en101 J (F_cmp_isNaN_string (L := L) a0 h103 X) (fun v U w hR J => ?_) rfl
 obtain ⟨rfl, X⟩ := hR
 refine x_m J rfl fun U J => ?_
 refine bcase (b := y102) (fun hb104 => ?_) fun hb104 => ?_
 ·replace G := ift hb104 G
  refine x_on' hb104 J ?_ rfl
  refine x_m J rfl fun U J => ?_
  refine x_on' hb104 J ?_ rfl
  obtain ⟨y105, h106, G⟩ := bnd G
  refine x_call' en101 J (F_cmp_isNaN_string (L := L) a1 h106 X) (fun v U w hR J => ?_) rfl
  obtain ⟨rfl, X⟩ := hR
  refine x_on' hb104 J ?_ rfl
  refine x_v J (r_not rfl (J.ev rfl)) rfl fun U J => ?_
  refine x_pickt' hb104 J (fun U J => ?_) rfl
  refine x_m J rfl fun U J => ?_
  refine bcase (b := !y105) (fun hb107 => ?_) fun hb107 => ?_
  ·replace G := ift hb107 G
   refine xO 3 hb107 J rfl fun U J => ?_
   refine x_pickt' hb107 J (fun U J => ?_) rfl
   refine x_m J rfl fun U J => ?_
   refine wn (hK101 _ _ ?_)
   refine wp_ret ?_
   cases G
   refine hQ _ _ ?_
   refine lv Tryd.results87 J rfl ?_
   exact ⟨rfl, X⟩
  replace G := iff' hb107 G
  refine x_on' hb107 J ?_ rfl
  refine x_m J rfl fun U J => ?_
  refine x_on' hb107 J ?_ rfl
  refine x_m J rfl fun U J => ?_
  refine x_on' hb107 J ?_ rfl
  refine x_v J (r_ltS rfl (J.ev rfl) (J.ev rfl)) rfl fun U J => ?_
  refine x_pickf' hb107 J (fun U J => ?_) rfl
  refine x_m J rfl fun U J => ?_
  refine wn (hK101 _ _ ?_)
  refine wp_ret ?_
  cases G
  refine hQ _ _ ?_
  refine lv Tryd.results87 J rfl ?_
  exact ⟨rfl, X⟩
 replace G := iff' hb104 G
 refine xO 3 hb104 J rfl fun U J => ?_
 refine x_pickf' hb104 J (fun U J => ?_) rfl
 refine x_m J rfl fun U J => ?_
 refine x_on' rfl J ?_ rfl
 refine x_m J rfl fun U J => ?_
 refine x_on' rfl J ?_ rfl
 refine x_m J rfl fun U J => ?_
 refine x_on' rfl J ?_ rfl
 refine x_v J (r_ltS rfl (J.ev rfl) (J.ev rfl)) rfl fun U J => ?_
 refine x_pickf' rfl J (fun U J => ?_) rfl
 refine x_m J rfl fun U J => ?_
 refine wn (hK101 _ _ ?_)
 refine wp_ret ?_
 cases G
 refine hQ _ _ ?_
 refine lv Tryd.results87 J rfl ?_
 exact ⟨rfl, X⟩
theorem F_slices_BinarySearch_string_string {r : World} {L : List HP} {w : World} (a0 : (List (List UInt8))) (a1 : (List UInt8)) (A0 : Option Addr) (n0 : Nat) (c0 : Nat) {y : (Int × Bool)} (G : slices_BinarySearch_string_string a0 a1 = some y) (ha0 : RdL L kS A0 n0 c0 a0) (X : SH r (L) w) :
  Ret Tryd.prog 72 #[.slice A0 n0 c0, str a1] w fun v w' => v = .tuple #[(.int .i64 y.1), (.bool y.2)] ∧ SH r (L) w' := by
 refine enter Tryd.func72 rfl Tryd.ntmps72 [(0, .slice A0 n0 c0), (1, str a1)] rfl (by simp) ?_
 intro U J Qf hQ hQn
 unfold slices_BinarySearch_string_string at G
 refine ws fun K100 hK100 => ?_
 refine x_m J rfl fun U J => ?_
 refine x_m J rfl fun U J => ?_
 refine wn (hK100 _ _ ?_)
 refine ws fun K101 hK101 => ?_
 refine x_m J rfl fun U J => ?_
 refine x_len' uu91 (X.rdl 0 ha0 rfl).2.1 J (fun U J => ?_) rfl
 refine x_m J rfl fun U J => ?_
 refine wn (hK101 _ _ ?_)
 refine ws fun K102 hK102 => ?_
 refine x_m J rfl fun U J => ?_
 refine x_m J rfl fun U J => ?_
 refine x_m J rfl fun U J => ?_
 refine wn (hK102 _ _ ?_)
 refine wp_seq_k fun K103 hK103 => ?_
 refine wp_block_k fun Kx104 hKx104 => ?_
 have hb1 : ∀ (x105 : Int), slices_BinarySearch_string_string_b1 a0 a1 x105 = some y → ∀ (U : Act) (w : World), FR 54 [] U [(0, .slice A0 n0 c0), (1, str a1), (6, .int .i64 (a0.length : Int)), (7, .int .i64 x105)] → SH r (L) w → Kx104 U w := by
  intro x105 G U w J X
  unfold slices_BinarySearch_string_string_b1 at G
  refine hKx104 _ _ ?_
  refine hK103 _ _ ?_
  refine ws fun K106 hK106 => ?_
  refine x_m J rfl fun U J => ?_
  refine x_m J rfl fun U J => ?_
  refine x_m J rfl fun U J => ?_
  refine x_v J (r_ltI rfl (J.ev rfl) (J.ev rfl)) rfl fun U J => ?_
  refine x_m J rfl fun U J => ?_
  refine bcase (b := decide (x105 < (a0.length : Int))) (fun hb107 => ?_) fun hb107 => ?_
  ·replace G := ift hb107 G
   refine x_on' hb107 J ?_ rfl
   refine x_m J rfl fun U J => ?_
   refine x_on' hb107 J ?_ rfl
   refine x_m J rfl fun U J => ?_
   refine x_on' hb107 J ?_ rfl
   obtain ⟨x108, h109, G⟩ := bnd G
   refine x_ia' uu91 sz9 (X.rdl 0 ha0 rfl) h109 J (fun U J => ?_) rfl
   refine x_on' hb107 J ?_ rfl
   obtain ⟨cs, hV, hc110⟩ := el (X.rdl 0 ha0 rfl) h109
   obtain rfl := hV
   refine x_ld' uu9 (hc110 0 _ rfl) J (fun U J => ?_) rfl
   refine x_on' hb107 J ?_ rfl
   refine x_m J rfl fun U J => ?_
   refine x_on' hb107 J ?_ rfl
   refine x_v J (r_eqS rfl (J.ev rfl) (J.ev rfl)) rfl fun U J => ?_
   refine x_on' hb107 J ?_ rfl
   refine x_m J rfl fun U J => ?_
   refine bcase (b := x108 == a1) (fun hb111 => ?_) fun hb111 => ?_
   ·replace G := ift hb111 G
    refine xO 6 hb111 J rfl fun U J => ?_
    refine x_offU' J (fun U J => ?_) rfl
    refine x_offU' J (fun U J => ?_) rfl
    refine xO 1 hb111 J rfl fun U J => ?_
    refine x_on' hb107 J ?_ rfl
    refine x_pickt' hb111 J (fun U J => ?_) rfl
    refine x_pickt' hb107 J (fun U J => ?_) rfl
    refine x_m J rfl fun U J => ?_
    refine x_m J rfl fun U J => ?_
    refine wn (hK106 _ _ ?_)
    refine wp_ret ?_
    cases G
    refine hQ _ _ ?_
    refine lv2 Tryd.results72 J rfl rfl ?_
    exact ⟨rfl, X⟩
   replace G := iff' hb111 G
   refine x_on' hb111 J ?_ rfl
   refine x_m J rfl fun U J => ?_
   refine x_on' hb111 J ?_ rfl
   refine x_m J rfl fun U J => ?_
   refine x_on' hb111 J ?_ rfl
   refine x_ia' uu91 sz9 (X.rdl 0 ha0 rfl) h109 J (fun U J => ?_) rfl
   refine x_on' hb111 J ?_ rfl
   obtain ⟨cs, hV, hc112⟩ := el (X.rdl 0 ha0 rfl) h109
   obtain rfl := hV
   refine x_ld' uu9 (hc112 0 _ rfl) J (fun U J => ?_) rfl
   refine x_on' hb111 J ?_ rfl
   obtain ⟨y113, h114, G⟩ := bnd G
   refine x_call' en88 J (F_slices_isNaN_string (L := L) x108 h114 X) (fun v U w hR J => ?_) rfl
   obtain ⟨rfl, X⟩ := hR
   refine x_on' hb111 J ?_ rfl
   refine x_m J rfl fun U J => ?_
   refine bcase (b := y113) (fun hb115 => ?_) fun hb115 => ?_
   ·replace G := ift hb115 G
    refine x_on' hb115 J ?_ rfl
    refine x_m J rfl fun U J => ?_
    refine x_on' hb115 J ?_ rfl
    obtain ⟨y116, h117, G⟩ := bnd G
    refine x_call' en88 J (F_slices_isNaN_string (L := L) a1 h117 X) (fun v U w hR J => ?_) rfl
    obtain ⟨rfl, X⟩ := hR
    refine x_on' hb111 J ?_ rfl
    refine x_pickt' hb115 J (fun U J => ?_) rfl
    refine x_on' hb107 J ?_ rfl
    refine x_pickf' hb111 J (fun U J => ?_) rfl
    refine x_pickt' hb107 J (fun U J => ?_) rfl
    refine x_m J rfl fun U J => ?_
    refine x_m J rfl fun U J => ?_
    refine wn (hK106 _ _ ?_)
    refine wp_ret ?_
    cases G
    refine hQ _ _ ?_
    refine lv2 Tryd.results72 J rfl rfl ?_
    exact ⟨rfl, X⟩
   replace G := iff' hb115 G
   refine xO 2 hb115 J rfl fun U J => ?_
   refine x_on' hb111 J ?_ rfl
   refine x_pickf' hb115 J (fun U J => ?_) rfl
   refine x_on' hb107 J ?_ rfl
   refine x_pickf' hb111 J (fun U J => ?_) rfl
   refine x_pickt' hb107 J (fun U J => ?_) rfl
   refine x_m J rfl fun U J => ?_
   refine x_m J rfl fun U J => ?_
   refine wn (hK106 _ _ ?_)
   refine wp_ret ?_
   cases G
   refine hQ _ _ ?_
   refine lv2 Tryd.results72 J rfl rfl ?_
   exact ⟨rfl, X⟩
  replace G := iff' hb107 G
  refine xO 7 hb107 J rfl fun U J => ?_
  refine x_offU' J (fun U J => ?_) rfl
  refine x_offU' J (fun U J => ?_) rfl
  refine x_offU' J (fun U J => ?_) rfl
  refine x_offU' J (fun U J => ?_) rfl
  refine x_offU' J (fun U J => ?_) rfl
  refine x_offU' J (fun U J => ?_) rfl
  refine x_offU' J (fun U J => ?_) rfl
  refine x_offU' J (fun U J => ?_) rfl
  refine x_offU' J (fun U J => ?_) rfl
  refine xO 1 hb107 J rfl fun U J => ?_
  refine x_pickf' hb107 J (fun U J => ?_) rfl
  refine x_m J rfl fun U J => ?_
  refine x_m J rfl fun U J => ?_
  refine wn (hK106 _ _ ?_)
  refine wp_ret ?_
  cases G
  refine hQ _ _ ?_
  refine lv2 Tryd.results72 J rfl rfl ?_
  exact ⟨rfl, X⟩
 obtain ⟨t118, hl118, G⟩ := bnd G
 have hx118_0 : ∀ (x118 : Int), (x118) = t118 → ∀ (U : Act) (w : World), FR 54 [] U [(0, .slice A0 n0 c0), (1, str a1), (6, .int .i64 (a0.length : Int)), (7, .int .i64 x118)] → SH r (L) w → Kx104 U w := by
  intro x118 ht U w J X
  subst ht
  replace G : slices_BinarySearch_string_string_x1_0 a0 a1 x118 = some y := G
  unfold slices_BinarySearch_string_string_x1_0 at G
  exact hb1 x118 G U w (J.sub _ rfl) X
 refine wp_loop_fn hl118 (fun s U w => FR 54 [] U [(0, .slice A0 n0 c0), (1, str a1), (6, .int .i64 (a0.length : Int)), (7, .int .i64 s.1), (8, .int .i64 s.2)] ∧ SH r (L) w) ⟨J.sub _ rfl, X⟩ ?_
 intro N118 s118 o118 G N118_ T118_ U w hLab
 obtain ⟨x119, x120⟩ := s118
 replace G : slices_BinarySearch_string_string_l1 a0 a1 x119 x120 = some o118 := G
 unfold slices_BinarySearch_string_string_l1 at G
 try dsimp only at hLab
 obtain ⟨J, X⟩ := hLab
 refine wp_seq_k fun K121 hK121 => ?_
 refine ws fun K122 hK122 => ?_
 refine x_m J rfl fun U J => ?_
 refine x_m J rfl fun U J => ?_
 refine x_v J (r_ltI rfl (J.ev rfl) (J.ev rfl)) rfl fun U J => ?_
 refine wn (hK122 _ _ ?_)
 refine c_if J rfl (fun hb123 => ?_) fun hb123 => ?_
 ·replace G := ift hb123 G
  refine wp_skip ?_
  refine hK121 _ _ ?_
  refine wp_block_k fun Kx124 hKx124 => ?_
  have hb2 : ∀ (x125 : Int) (x126 : Int), slices_BinarySearch_string_string_b2 x125 x126 = some o118 → ∀ (U : Act) (w : World), FR 54 [] U [(0, .slice A0 n0 c0), (1, str a1), (6, .int .i64 (a0.length : Int)), (7, .int .i64 x125), (8, .int .i64 x126)] → SH r (L) w → Kx124 U w := by
   intro x125 x126 G U w J X
   unfold slices_BinarySearch_string_string_b2 at G
   refine hKx124 _ _ ?_
   cases G
   exact ⟨_, N118_ _ rfl, J.sub _ rfl, X⟩
  refine ws fun K127 hK127 => ?_
  refine x_m J rfl fun U J => ?_
  refine x_m J rfl fun U J => ?_
  obtain ⟨x128, h129, G⟩ := ltt_ G
  refine x_v (v := .int .i64 x128) J (rv_i h129 (r_add rfl (J.ev rfl) (J.ev rfl))) rfl fun U J => ?_
  obtain ⟨x130, h131, G⟩ := ltt_ G
  refine x_v (v := .int .u64 x130) J (rv_i h131 (r_convI uu3 uu73 rfl (J.ev rfl))) rfl fun U J => ?_
  obtain ⟨x132, h133, G⟩ := ltt_ G
  refine x_v (v := .int .u64 x132) J (rv_i h133 (r_shr rfl (J.ev rfl) (J.ev rfl) (by decide))) rfl fun U J => ?_
  obtain ⟨x134, h135, G⟩ := ltt_ G
  refine x_v (v := .int .i64 x134) J (rv_i h135 (r_convI uu73 uu3 rfl (J.ev rfl))) rfl fun U J => ?_
  refine x_m J rfl fun U J => ?_
  refine wn (hK127 _ _ ?_)
  refine ws fun K136 hK136 => ?_
  refine x_m J rfl fun U J => ?_
  refine x_m J rfl fun U J => ?_
  obtain ⟨x137, h138, G⟩ := bnd G
  refine x_ia' uu91 sz9 (X.rdl 0 ha0 rfl) h138 J (fun U J => ?_) rfl
  obtain ⟨cs, hV, hc139⟩ := el (X.rdl 0 ha0 rfl) h138
  obtain rfl := hV
  refine x_ld' uu9 (hc139 0 _ rfl) J (fun U J => ?_) rfl
  refine x_m J rfl fun U J => ?_
  obtain ⟨y140, h141, G⟩ := bnd G
  refine x_call' en87 J (F_cmp_Less_string (L := L) x137 a1 h141 X) (fun v U w hR J => ?_) rfl
  obtain ⟨rfl, X⟩ := hR
  refine wn (hK136 _ _ ?_)
  refine c_if J rfl (fun hb142 => ?_) fun hb142 => ?_
  ·replace G := ift hb142 G
   refine wp_reg ?_
   refine x_m J rfl fun U J => ?_
   obtain ⟨x143, h144, G⟩ := ltt_ G
   refine x_v (v := .int .i64 x143) J (rv_i h144 (r_add rfl (J.ev rfl) (J.ev rfl))) rfl fun U J => ?_
   refine x_m J rfl fun U J => ?_
   refine wpList_nil ?_
   exact hb2 x143 x120 G U w (J.sub _ rfl) X
  replace G := iff' hb142 G
  refine wp_reg ?_
  refine x_m J rfl fun U J => ?_
  refine x_m J rfl fun U J => ?_
  refine wpList_nil ?_
  exact hb2 x119 x134 G U w (J.sub _ rfl) X
 replace G := iff' hb123 G
 refine wp_exit ?_
 cases G
 exact hx118_0 x119 (T118_ _ rfl) U w (J.sub _ rfl) X
theorem F_column_Texts {r : World} {L : List HP} {w : World} (a0 : (List (List UInt8))) (A0 : Option Addr) (n0 : Nat) (c0 : Nat) {y : ((List Int))} (G : column_Texts a0 = some y) (ha0 : RdL L kS A0 n0 c0 a0) (X : SH r (L) w) :
  Ret Tryd.prog 46 #[.slice A0 n0 c0] w fun v w' => ∃ (B0 : Option Addr) (m0 : Nat) (d0 : Nat), v = .slice B0 m0 d0 ∧ SH r (own (kI .u8) 5 B0 m0 d0 y :: L) w' := by
 refine enter Tryd.func46 rfl Tryd.ntmps46 [(0, .slice A0 n0 c0)] rfl (by simp) ?_
 intro U J Qf hQ hQn
 unfold column_Texts at G
 refine ws fun K100 hK100 => ?_
 refine x_m J rfl fun U J => ?_
 refine wn (hK100 _ _ ?_)
 refine ws fun K101 hK101 => ?_
 refine x_m J rfl fun U J => ?_
 refine x_call' en71 J (F_slices_Values (L := L) (A := A0) (n := n0) (c := c0) X) (fun v U w hR J => ?_) rfl
 obtain ⟨g102, rfl, X⟩ := hR
 obtain ⟨y103, h104, G⟩ := bnd G
 refine x_call' en70 J (F_slices_Sorted (L := L) a0 h104 (RdL.sfx 0 rfl ha0) X) (fun v U w hR J => ?_) rfl
 obtain ⟨A105, n106, c107, rfl, X⟩ := hR
 obtain ⟨y108, h109, G⟩ := bnd G
 refine x_call' en69 J (F_slices_Compact (L := L) y103 h109 X) (fun v U w hR J => ?_) rfl
 obtain ⟨A110, n111, c112, rfl, X⟩ := hR
 refine x_m J rfl fun U J => ?_
 refine wn (hK101 _ _ ?_)
 refine ws fun K113 hK113 => ?_
 refine x_m J rfl fun U J => ?_
 refine x_len' uu91 (X.rd 0 rfl).2.1 J (fun U J => ?_) rfl
 obtain ⟨x114, h115, G⟩ := ltt_ G
 refine x_v (v := .int .u64 x114) J (rv_i h115 (r_convI uu3 uu31 rfl (J.ev rfl))) rfl fun U J => ?_
 replace X := SH.nil_own (d := (kI .u8)) (e := 5) X
 obtain ⟨y116, h117, G⟩ := bnd G
 refine x_call' en48 J (F_column_Uint (L := own kS 9 A110 n111 c112 y108 :: L) [] x114 none 0 0 h117 X) (fun v U w hR J => ?_) rfl
 obtain ⟨B118, m119, d120, rfl, X⟩ := hR
 refine x_m J rfl fun U J => ?_
 refine wn (hK113 _ _ ?_)
 refine wp_seq_k fun K121 hK121 => ?_
 refine ws fun K122 hK122 => ?_
 refine x_m J rfl fun U J => ?_
 refine x_len' uu91 (X.rd 1 rfl).2.1 J (fun U J => ?_) rfl
 refine x_m J rfl fun U J => ?_
 refine wn (hK122 _ _ ?_)
 refine wp_block_k fun Kx123 hKx123 => ?_
 have hb1 : ∀ (l124 : (List Int)), column_Texts_b1 a0 y108 l124 = some y → ∀ (A125 : Option Addr) (n126 : Nat) (c127 : Nat) (U : Act) (w : World), FR 51 [] U [(0, .slice A0 n0 c0), (3, .slice A110 n111 c112), (4, .slice A125 n126 c127)] → SH r (own kS 9 A110 n111 c112 y108 :: own (kI .u8) 5 A125 n126 c127 l124 :: L) w → Kx123 U w := by
  intro l124 G A125 n126 c127 U w J X
  unfold column_Texts_b1 at G
  refine hKx123 _ _ ?_
  refine hK121 _ _ ?_
  refine ws fun K128 hK128 => ?_
  refine x_m J rfl fun U J => ?_
  refine wn (hK128 _ _ ?_)
  refine wp_seq_k fun K129 hK129 => ?_
  refine ws fun K130 hK130 => ?_
  refine x_m J rfl fun U J => ?_
  refine x_len' uu91 (X.rdl 2 ha0 rfl).2.1 J (fun U J => ?_) rfl
  refine x_m J rfl fun U J => ?_
  refine wn (hK130 _ _ ?_)
  refine wp_block_k fun Kx131 hKx131 => ?_
  have hb2 : ∀ (l132 : (List Int)), column_Texts_b2 l124 l132 = some y → ∀ (A133 : Option Addr) (n134 : Nat) (c135 : Nat) (U : Act) (w : World), FR 51 [] U [(4, .slice A125 n126 c127), (7, .slice A133 n134 c135)] → SH r (own (kI .u8) 5 A125 n126 c127 l124 :: own (kI .i64) 2 A133 n134 c135 l132 :: L) w → Kx131 U w := by
   intro l132 G A133 n134 c135 U w J X
   unfold column_Texts_b2 at G
   refine hKx131 _ _ ?_
   refine hK129 _ _ ?_
   refine ws fun K136 hK136 => ?_
   refine x_m J rfl fun U J => ?_
   refine x_m J rfl fun U J => ?_
   obtain ⟨y137, h138, G⟩ := bnd G
   refine x_call' en45 J (F_column_Ints (L := own (kI .u8) 5 A125 n126 c127 l124 :: own (kI .i64) 2 A133 n134 c135 l132 :: L) l132 A133 n134 c135 h138 (RdL.own 1 rfl (X.dropN 0)) X) (fun v U w hR J => ?_) rfl
   obtain ⟨B139, m140, d141, rfl, X⟩ := hR
   obtain ⟨h142, G⟩ := chk_some G
   have hr := X.rd 0 rfl
   refine x_app' 1 inf5 uu24 J X hr.1 hr.2.1 h142 rfl (fun A143 n144 c145 U w X J => ?_) rfl
   refine x_m J rfl fun U J => ?_
   refine wn (hK136 _ _ ?_)
   refine wp_ret ?_
   replace X := X.drop 1 |>.drop 1
   cases G
   refine hQ _ _ ?_
   refine lv Tryd.results46 J rfl ?_
   exact ⟨A143, n144, c145, rfl, X⟩
  obtain ⟨t146, hl146, G⟩ := bnd G
  have hx146_2 : ∀ (l147 : (List Int)), (l147) = t146 → ∀ (A148 : Option Addr) (n149 : Nat) (c146 : Nat) (U : Act) (w : World), FR 51 [] U [(4, .slice A125 n126 c127), (7, .slice A148 n149 c146)] → SH r (own (kI .u8) 5 A125 n126 c127 l124 :: own (kI .i64) 2 A148 n149 c146 l147 :: L) w → Kx131 U w := by
   intro l147 ht A148 n149 c146 U w J X
   subst ht
   replace G : column_Texts_x1_2 l124 l147 = some y := G
   unfold column_Texts_x1_2 at G
   exact hb2 l147 G A148 n149 c146 U w (J.sub _ rfl) X
  replace X := SH.nil_own (d := (kI .i64)) (e := 2) X
  replace X := X.pk 2 |>.pk 2
  refine wp_loop_fn hl146 (fun s U w => ∃ (A150 : Option Addr) (n151 : Nat) (c152 : Nat), FR 51 [] U [(3, .slice A110 n111 c112), (4, .slice A125 n126 c127), (7, .slice A150 n151 c152), (30, .slice A0 n0 c0), (31, .int .i64 (a0.length : Int)), (32, .int .i64 s.2)] ∧ SH r (own kS 9 A110 n111 c112 y108 :: own (kI .u8) 5 A125 n126 c127 l124 :: own (kI .i64) 2 A150 n151 c152 s.1 :: L) w) ⟨none, 0, 0, J.sub _ rfl, X⟩ ?_
  intro N146 s146 o146 G N146_ T146_ U w hLab
  obtain ⟨l153, x154⟩ := s146
  replace G : column_Texts_l1 a0 y108 l153 x154 = some o146 := G
  unfold column_Texts_l1 at G
  try dsimp only at hLab
  obtain ⟨A150, n151, c152, J, X⟩ := hLab
  refine ws fun K155 hK155 => ?_
  refine x_v J (r_ltI rfl (J.ev rfl) (J.ev rfl)) rfl fun U J => ?_
  refine wn (hK155 _ _ ?_)
  refine wp_seq_k fun K156 hK156 => ?_
  refine c_if J rfl (fun hb157 => ?_) fun hb157 => ?_
  ·replace G := ift hb157 G
   refine wp_skip ?_
   refine hK156 _ _ ?_
   refine wp_seq_k fun K158 hK158 => ?_
   refine wp_block_k fun Kx159 hKx159 => ?_
   refine ws fun K160 hK160 => ?_
   obtain ⟨x161, h162, G⟩ := bnd G
   refine x_ia' uu91 sz9 (X.rdl 3 ha0 rfl) h162 J (fun U J => ?_) rfl
   obtain ⟨cs, hV, hc163⟩ := el (X.rdl 3 ha0 rfl) h162
   obtain rfl := hV
   refine x_ld' uu9 (hc163 0 _ rfl) J (fun U J => ?_) rfl
   refine x_m J rfl fun U J => ?_
   refine wn (hK160 _ _ ?_)
   refine ws fun K164 hK164 => ?_
   refine x_m J rfl fun U J => ?_
   refine x_m J rfl fun U J => ?_
   obtain ⟨y165, h166, G⟩ := bnd G
   refine x_call' en72 J (F_slices_BinarySearch_string_string (L := own kS 9 A110 n111 c112 y108 :: own (kI .u8) 5 A125 n126 c127 l124 :: own (kI .i64) 2 A150 n151 c152 l153 :: L) y108 x161 A110 n111 c112 h166 (RdL.own 0 rfl (X.dropN 0)) X) (fun v U w hR J => ?_) rfl
   obtain ⟨rfl, X⟩ := hR
   refine x_m J rfl fun U J => ?_
   refine x_v J (r_extract rfl (J.ev rfl) rfl) rfl fun U J => ?_
   refine x_v J (r_extract rfl (J.ev rfl) rfl) rfl fun U J => ?_
   refine x_m J rfl fun U J => ?_
   refine x_m J rfl fun U J => ?_
   refine wn (hK164 _ _ ?_)
   refine wp_reg ?_
   refine x_m J rfl fun U J => ?_
   refine x_m J rfl fun U J => ?_
   refine x_bsl' (d := (kI .i64)) (e := 2) (ps := #[(0, .int .i64 y165.1)]) (cells := [.int .i64 y165.1]) (xs := [y165.1]) (fun w => by kernel_rfl) rfl ⟨[.int .i64 y165.1], _, rfl, rfl, rfl⟩ J X (fun g167 U w X J => ?_) rfl
   obtain ⟨h168, G⟩ := chk_some G
   have hr := X.rd 0 rfl
   refine x_app' 3 inf2 uu90 J X hr.1 hr.2.1 h168 rfl (fun A169 n170 c171 U w X J => ?_) rfl
   refine x_m J rfl fun U J => ?_
   refine wpList_nil ?_
   refine hKx159 _ _ ?_
   refine hK158 _ _ ?_
   refine wp_reg ?_
   obtain ⟨x172, h173, G⟩ := ltt_ G
   refine x_v (v := .int .i64 x172) J (rv_i h173 (r_add rfl (J.ev rfl) (J.ev rfl))) rfl fun U J => ?_
   refine x_m J rfl fun U J => ?_
   refine wpList_nil ?_
   replace X := X.drop 1 |>.pk 2 |>.pk 2
   cases G
   exact ⟨_, N146_ _ rfl, A169, n170, c171, J.sub _ rfl, X⟩
  replace G := iff' hb157 G
  refine wp_exit ?_
  replace X := X.drop 0
  cases G
  exact hx146_2 l153 (T146_ _ rfl) A150 n151 c152 U w (J.sub _ rfl) X
 obtain ⟨t174, hl174, G⟩ := bnd G
 have hx174_0 : ∀ (l175 : (List Int)), (l175) = t174 → ∀ (A176 : Option Addr) (n177 : Nat) (c174 : Nat) (U : Act) (w : World), FR 51 [] U [(0, .slice A0 n0 c0), (3, .slice A110 n111 c112), (4, .slice A176 n177 c174)] → SH r (own kS 9 A110 n111 c112 y108 :: own (kI .u8) 5 A176 n177 c174 l175 :: L) w → Kx123 U w := by
  intro l175 ht A176 n177 c174 U w J X
  subst ht
  replace G : column_Texts_x2_0 a0 y108 l175 = some y := G
  unfold column_Texts_x2_0 at G
  exact hb1 l175 G A176 n177 c174 U w (J.sub _ rfl) X
 replace X := X.pk 1
 refine wp_loop_fn hl174 (fun s U w => ∃ (A178 : Option Addr) (n179 : Nat) (c180 : Nat), FR 51 [] U [(0, .slice A0 n0 c0), (3, .slice A110 n111 c112), (4, .slice A178 n179 c180), (20, .slice A110 n111 c112), (21, .int .i64 (y108.length : Int)), (22, .int .i64 s.2)] ∧ SH r (own kS 9 A110 n111 c112 y108 :: own (kI .u8) 5 A178 n179 c180 s.1 :: L) w) ⟨B118, m119, d120, J.sub _ rfl, X⟩ ?_
 intro N174 s174 o174 G N174_ T174_ U w hLab
 obtain ⟨l181, x182⟩ := s174
 replace G : column_Texts_l2 y108 l181 x182 = some o174 := G
 unfold column_Texts_l2 at G
 try dsimp only at hLab
 obtain ⟨A178, n179, c180, J, X⟩ := hLab
 refine ws fun K183 hK183 => ?_
 refine x_v J (r_ltI rfl (J.ev rfl) (J.ev rfl)) rfl fun U J => ?_
 refine wn (hK183 _ _ ?_)
 refine wp_seq_k fun K184 hK184 => ?_
 refine c_if J rfl (fun hb185 => ?_) fun hb185 => ?_
 ·replace G := ift hb185 G
  refine wp_skip ?_
  refine hK184 _ _ ?_
  refine wp_seq_k fun K186 hK186 => ?_
  refine wp_block_k fun Kx187 hKx187 => ?_
  refine ws fun K188 hK188 => ?_
  obtain ⟨x189, h190, G⟩ := bnd G
  refine x_ia' uu91 sz9 (X.rd 0 rfl) h190 J (fun U J => ?_) rfl
  obtain ⟨cs, hV, hc191⟩ := el (X.rd 0 rfl) h190
  obtain rfl := hV
  refine x_ld' uu9 (hc191 0 _ rfl) J (fun U J => ?_) rfl
  refine x_m J rfl fun U J => ?_
  refine wn (hK188 _ _ ?_)
  refine wp_reg ?_
  refine x_m J rfl fun U J => ?_
  refine x_m J rfl fun U J => ?_
  replace X := X.pk 1
  obtain ⟨y192, h193, G⟩ := bnd G
  refine x_call' en29 J (F_column_Text (L := own kS 9 A110 n111 c112 y108 :: L) l181 x189 A178 n179 c180 h193 X) (fun v U w hR J => ?_) rfl
  obtain ⟨B194, m195, d196, rfl, X⟩ := hR
  refine x_m J rfl fun U J => ?_
  refine wpList_nil ?_
  refine hKx187 _ _ ?_
  refine hK186 _ _ ?_
  refine wp_reg ?_
  obtain ⟨x197, h198, G⟩ := ltt_ G
  refine x_v (v := .int .i64 x197) J (rv_i h198 (r_add rfl (J.ev rfl) (J.ev rfl))) rfl fun U J => ?_
  refine x_m J rfl fun U J => ?_
  refine wpList_nil ?_
  replace X := X.pk 1
  cases G
  exact ⟨_, N174_ _ rfl, B194, m195, d196, J.sub _ rfl, X⟩
 replace G := iff' hb185 G
 refine wp_exit ?_
 cases G
 exact hx174_0 l181 (T174_ _ rfl) A178 n179 c180 U w (J.sub _ rfl) X
noncomputable section
set_option linter.unusedSimpArgs false
def slices_Index_api_Errno_api_Errno_b1 : Option (Int) :=
  some (-1)
def slices_Index_api_Errno_api_Errno_x1_0 : Option (Int) :=
  slices_Index_api_Errno_api_Errno_b1
def slices_Index_api_Errno_api_Errno_l1 (a0 : (List Int)) (a1 : Int) (x262 : Int) : Option ((Int) ⊕ ((Unit) ⊕ (Int))) :=
  if (decide (x262 < (a0.length : Int))) = true then ((at_ a0 x262).bind fun x286 => (if (a1 == x286) = true then (some (.inr (.inr x262))) else (ltt (IntKind.i64.wrap (x262 + 1)) fun x291 => (some (.inl (x291)))))) else (some (.inr (.inl ())))
def slices_Index_api_Errno_api_Errno (a0 : (List Int)) (a1 : Int) : Option (Int) :=
  (loop (fun s => slices_Index_api_Errno_api_Errno_l1 a0 a1 s) (0)).bind fun t => match t with | (.inl t) => slices_Index_api_Errno_api_Errno_x1_0 | (.inr t) => some t
def slices_Contains_api_Errno_api_Errno (a0 : (List Int)) (a1 : Int) : Option (Bool) :=
  (slices_Index_api_Errno_api_Errno a0 a1).bind fun y103 => (some (decide (0 ≤ y103)))
def event_Form (a0 : S44) (a1 : Int) : Option (Bool) :=
  if (decide (0 ≤ a0.f1)) = true then (if (decide (a0.f1 < a1)) = true then (if (decide (-1099511627776 ≤ a0.f2)) = true then (if (decide (a0.f2 ≤ 1099511627776)) = true then (if (decide ((a0.f3.length : Int) ≤ 32)) = true then (some (decide (a0.f0 < 1099511627776))) else (some false)) else (some false)) else (some false)) else (some false)) else (some false)
def r06_Form (a0 : S44) (a1 : Int) : Option (Bool) :=
  if (decide (0 ≤ a0.f1)) = true then (if (decide (a0.f1 < a1)) = true then (if (decide (-1099511627776 ≤ a0.f2)) = true then (if (decide (a0.f2 ≤ 1099511627776)) = true then (if (decide ((a0.f3.length : Int) ≤ 32)) = true then (some (decide (a0.f0 < 1099511627776))) else (some false)) else (some false)) else (some false)) else (some false)) else (some false)
def r06_Same (a0 : S44) (a1 : S44) : Option (Bool) :=
  if (a0.f0 == a1.f0) = true then (if (a0.f1 == a1.f1) = true then (if (a0.f2 == a1.f2) = true then (if (a0.f3 == a1.f3) = true then ((r01_Same a0.f4 a1.f4).bind fun y109 => (some y109)) else (some false)) else (some false)) else (some false)) else (some false)
def r06_SameAll_b1 : Option (Bool) :=
  some true
def r06_SameAll_x1_0 : Option (Bool) :=
  r06_SameAll_b1
def r06_SameAll_l1 (a0 : (List S44)) (a1 : (List S44)) (x286 : Int) : Option ((Int) ⊕ ((Unit) ⊕ (Bool))) :=
  if (decide (x286 < (a0.length : Int))) = true then ((at_ a0 x286).bind fun x311 => ((at_ a1 x286).bind fun x314 => ((r06_Same x311 x314).bind fun y317 => (if (!y317) = true then (some (.inr (.inr false))) else (some (.inl (IntKind.i64.wrap (x286 + 1)))))))) else (some (.inr (.inl ())))
def r06_SameAll (a0 : (List S44)) (a1 : (List S44)) : Option (Bool) :=
  if ((a0.length : Int) != (a1.length : Int)) = true then (some false) else ((loop (fun s => r06_SameAll_l1 a0 a1 s) (0)).bind fun t => match t with | (.inl t) => r06_SameAll_x1_0 | (.inr t) => some t)
def event_Read_1_b1 (l237 : (List Int)) (l242 : (List (List Int))) : Option ((S106 × (List (List Int))) ⊕ (S106 × (List (List Int)))) :=
  some (.inl ((⟨l237⟩ : S106), l242))
def event_Read_1_x1_0 (l334 : (List Int)) (l339 : (List (List Int))) : Option ((S106 × (List (List Int))) ⊕ (S106 × (List (List Int)))) :=
  event_Read_1_b1 l334 l339
def event_Read_1_l1 (l285 : (List Int)) (l290 : (List (List Int))) (x291 : Int) : Option (((List Int) × (List (List Int)) × Int) ⊕ (((List Int) × (List (List Int))) ⊕ ((S106 × (List (List Int))) ⊕ (S106 × (List (List Int)))))) :=
  if (decide (x291 < 5)) = true then ((column_Reader_Text (⟨l285⟩ : S106) 1048576).bind fun y347 => (sum_ y347 (fun y347 => (chk (y347.1.length ≤ maxLen) ((at_ l290 x291).bind fun x361 => (ltt (IntKind.i64.wrap (x291 + 1)) fun x368 => (some (.inl (y347.2.f0, l290.set x291.toNat (stb y347.1), x368))))))) (fun y347 => (some (.inr (.inr (.inr (y347, l290)))))))) else (some (.inr (.inl (l285, l290))))
def event_Read_1 (a0 : S106) (a1 : (List (List Int))) : Option ((S106 × (List (List Int))) ⊕ (S106 × (List (List Int)))) :=
  (loop (fun s => event_Read_1_l1 s.1 s.2.1 s.2.2) (a0.f0, a1, 0)).bind fun t => match t with | (.inl t) => event_Read_1_x1_0 t.1 t.2 | (.inr t) => some t
def Try_event_Read_1 (a0 : (List Int)) (a60 : (List (List Int))) : Option (Bool × (List (List Int))) :=
  (event_Read_1 (⟨a0⟩ : S106) a60).bind fun y => (sum_ y (fun y => some ((((y.1.f0.length : Int) == 0), y.2))) (fun y => some ((false, y.2))))
def event_Read_b1 (y103 : (Int × (List Int) × Int × Int)) (l697 : (List S44)) : Option ((List S44) × Int × Int) :=
  some (l697, y103.2.2.1, 0)
def event_Read_x1_0 (y103 : (Int × (List Int) × Int × Int)) (l811 : (List S44)) : Option ((List S44) × Int × Int) :=
  event_Read_b1 y103 l811
def event_Read_l1 (a2 : Int) (y145 : ((List Int) × Int)) (y158 : ((List Int) × Int)) (y171 : ((List Int) × Int)) (y184 : ((List (List UInt8)) × Int)) (y197 : ((List Nat) × Int)) (l758 : (List S44)) (x762 : Int) : Option (((List S44) × Int) ⊕ (((List S44)) ⊕ ((List S44) × Int × Int))) :=
  if (decide (x762 < (y145.1.length : Int))) = true then ((at_ y145.1 x762).bind fun x823 => (ltt (IntKind.u64.wrap x823) fun x826 => ((at_ y158.1 x762).bind fun x828 => ((at_ y171.1 x762).bind fun x831 => ((at_ y184.1 x762).bind fun x834 => ((at_ y197.1 x762).bind fun x837 => ((event_Form (⟨x826, x828, x831, x834, x837⟩ : S44) a2).bind fun y848 => (if (!y848) = true then (some (.inr (.inr ([], 0, 3)))) else (chk (l758.length + [(⟨x826, x828, x831, x834, x837⟩ : S44)].length ≤ 140737488355328 / 48) (ltt (IntKind.i64.wrap (x762 + 1)) fun x857 => (some (.inl (l758 ++ [(⟨x826, x828, x831, x834, x837⟩ : S44)], x857))))))))))))) else (some (.inr (.inl (l758))))
def event_Read_j2 (a2 : Int) (y103 : (Int × (List Int) × Int × Int)) (y145 : ((List Int) × Int)) (y158 : ((List Int) × Int)) (y171 : ((List Int) × Int)) (y184 : ((List (List UInt8)) × Int)) (y197 : ((List Nat) × Int)) (b212 : Bool) : Option ((List S44) × Int × Int) :=
  if b212 = true then (some ([], 0, 3)) else ((loop (fun s => event_Read_l1 a2 y145 y158 y171 y184 y197 s.1 s.2) ([], 0)).bind fun t => match t with | (.inl t) => event_Read_x1_0 y103 t | (.inr t) => some t)
def event_Read_j1 (a2 : Int) (y103 : (Int × (List Int) × Int × Int)) (l131 : (List (List Int))) (b132 : Bool) : Option ((List S44) × Int × Int) :=
  if (!b132) = true then (some ([], 0, 3)) else ((at_ l131 0).bind fun x138 => ((column_ReadInts x138).bind fun y145 => ((at_ l131 1).bind fun x151 => ((column_ReadInts x151).bind fun y158 => ((at_ l131 2).bind fun x164 => ((column_ReadInts x164).bind fun y171 => ((at_ l131 3).bind fun x177 => ((column_ReadTexts x177).bind fun y184 => ((at_ l131 4).bind fun x190 => ((column_ReadReals x190).bind fun y197 => ((slices_Contains_api_Errno_api_Errno [y145.2, y158.2, y171.2, y184.2, y197.2] 3).bind fun y860 => (if y860 = true then (event_Read_j2 a2 y103 y145 y158 y171 y184 y197 true) else (if ((y158.1.length : Int) != (y145.1.length : Int)) = true then (event_Read_j2 a2 y103 y145 y158 y171 y184 y197 true) else (if ((y171.1.length : Int) != (y145.1.length : Int)) = true then (event_Read_j2 a2 y103 y145 y158 y171 y184 y197 true) else (if ((y184.1.length : Int) != (y145.1.length : Int)) = true then (event_Read_j2 a2 y103 y145 y158 y171 y184 y197 true) else (event_Read_j2 a2 y103 y145 y158 y171 y184 y197 ((y197.1.length : Int) != (y145.1.length : Int))))))))))))))))))
def event_Read (a0 : (List Int)) (a1 : Int) (a2 : Int) : Option ((List S44) × Int × Int) :=
  (page_Read a0 a1).bind fun y103 => (if (y103.2.2.2 != 0) = true then (some ([], 0, y103.2.2.2)) else (if (y103.1 == 101) = true then ((Try_event_Read_1 y103.2.1 ([[], [], [], [], []] : List (List Int))).bind fun y872 => (event_Read_j1 a2 y103 y872.2 y872.1)) else (event_Read_j1 a2 y103 ([[], [], [], [], []] : List (List Int)) false)))
end
end Go.Proofs.YteodeedejjcmgaaDoor.M
