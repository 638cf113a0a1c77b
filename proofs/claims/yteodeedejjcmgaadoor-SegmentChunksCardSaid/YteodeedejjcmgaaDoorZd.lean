/- Texts of the claim, joined: what it uses of Mst, Dev, Mev, Del, Mel, Drl, Mrl, Dsc. -/
import Derived.Test.YteodeedejjcmgaaDoorZc
namespace Go.Proofs.YteodeedejjcmgaaDoor.M
open Go Go.RowKit Go.Proofs.YteodeedejjcmgaaDoor.E
set_option linter.unusedVariables false
set_option maxRecDepth 100000
set_option maxHeartbeats 4000000
set_option linter.unusedSimpArgs false
theorem F_cmp_isNaN_string {r : World} {L : List HP} {w : World} (a0 : (List UInt8)) {y : (Bool)} (hF : cmp_isNaN_string a0 = some y) (hS : SH r (L) w) :
  Ret Tryd.prog 101 #[str a0] w fun v w' => v = .bool y ∧ SH r (L) w' := by
 refine enter Tryd.func101 rfl Tryd.ntmps101 [(0, str a0)] rfl (by simp) ?_
 intro ac hA Qf hQ hQn
 unfold cmp_isNaN_string at hF
 refine ws fun K101 hK101 => ?_
 refine x_m hA rfl fun ac hA => ?_
 refine wn (hK101 _ _ ?_)
 refine ws fun K102 hK102 => ?_
 refine x_m hA rfl fun ac hA => ?_
 refine x_m hA rfl fun ac hA => ?_
 refine x_v hA (r_neS rfl (hA.ev rfl) (hA.ev rfl)) rfl fun ac hA => ?_
 refine x_m hA rfl fun ac hA => ?_
 refine wn (hK102 _ _ ?_)
 refine wp_ret ?_
 cases hF
 refine hQ _ _ ?_
 refine lv Tryd.results101 hA rfl ?_
 exact ⟨rfl, hS⟩
theorem F_slices_isNaN_string {r : World} {L : List HP} {w : World} (a0 : (List UInt8)) {y : (Bool)} (hF : slices_isNaN_string a0 = some y) (hS : SH r (L) w) :
  Ret Tryd.prog 88 #[str a0] w fun v w' => v = .bool y ∧ SH r (L) w' := by
 refine enter Tryd.func88 rfl Tryd.ntmps88 [(0, str a0)] rfl (by simp) ?_
 intro ac hA Qf hQ hQn
 unfold slices_isNaN_string at hF
 refine ws fun K101 hK101 => ?_
 refine x_m hA rfl fun ac hA => ?_
 refine wn (hK101 _ _ ?_)
 refine ws fun K102 hK102 => ?_
 refine x_m hA rfl fun ac hA => ?_
 refine x_m hA rfl fun ac hA => ?_
 refine x_v hA (r_neS rfl (hA.ev rfl) (hA.ev rfl)) rfl fun ac hA => ?_
 refine x_m hA rfl fun ac hA => ?_
 refine wn (hK102 _ _ ?_)
 refine wp_ret ?_
 cases hF
 refine hQ _ _ ?_
 refine lv Tryd.results88 hA rfl ?_
 exact ⟨rfl, hS⟩
theorem F_cmp_Less_string {r : World} {L : List HP} {w : World} (a0 : (List UInt8)) (a1 : (List UInt8)) {y : (Bool)} (hF : cmp_Less_string a0 a1 = some y) (hS : SH r (L) w) :
  Ret Tryd.prog 87 #[str a0, str a1] w fun v w' => v = .bool y ∧ SH r (L) w' := by
 refine enter Tryd.func87 rfl Tryd.ntmps87 [(0, str a0), (1, str a1)] rfl (by simp) ?_
 intro ac hA Qf hQ hQn
 unfold cmp_Less_string at hF
 refine ws fun K101 hK101 => ?_
 refine x_m hA rfl fun ac hA => ?_
 refine wn (hK101 _ _ ?_)
 refine ws fun K102 hK102 => ?_
 refine x_m hA rfl fun ac hA => ?_
 obtain ⟨y103, h104, hF⟩ := bnd hF
 refine x_call en101 hA (F_cmp_isNaN_string (L := L) a0 h104 hS) (fun v ac w hR hA => ?_) rfl rfl rfl rfl rfl
 obtain ⟨rfl, hS⟩ := hR
 refine x_m hA rfl fun ac hA => ?_
 refine bcase (b := y103) (fun hb105 => ?_) fun hb105 => ?_
 ·replace hF := ift hb105 hF
  refine x_on hb105 hA ?_ rfl rfl rfl
  refine x_m hA rfl fun ac hA => ?_
  refine x_on hb105 hA ?_ rfl rfl rfl
  obtain ⟨y106, h107, hF⟩ := bnd hF
  refine x_call en101 hA (F_cmp_isNaN_string (L := L) a1 h107 hS) (fun v ac w hR hA => ?_) rfl rfl rfl rfl rfl
  obtain ⟨rfl, hS⟩ := hR
  refine x_on hb105 hA ?_ rfl rfl rfl
  refine x_v hA (r_not rfl (hA.ev rfl)) rfl fun ac hA => ?_
  refine x_pickt hb105 hA (fun ac hA => ?_) rfl rfl rfl rfl rfl rfl
  refine x_m hA rfl fun ac hA => ?_
  refine bcase (b := !y106) (fun hb108 => ?_) fun hb108 => ?_
  ·replace hF := ift hb108 hF
   refine x_off hb108 hA (fun ac hA => ?_) rfl rfl rfl rfl rfl
   refine x_off hb108 hA (fun ac hA => ?_) rfl rfl rfl rfl rfl
   refine x_off hb108 hA (fun ac hA => ?_) rfl rfl rfl rfl rfl
   refine x_pickt hb108 hA (fun ac hA => ?_) rfl rfl rfl rfl rfl rfl
   refine x_m hA rfl fun ac hA => ?_
   refine wn (hK102 _ _ ?_)
   refine wp_ret ?_
   cases hF
   refine hQ _ _ ?_
   refine lv Tryd.results87 hA rfl ?_
   exact ⟨rfl, hS⟩
  replace hF := iff' hb108 hF
  refine x_on hb108 hA ?_ rfl rfl rfl
  refine x_m hA rfl fun ac hA => ?_
  refine x_on hb108 hA ?_ rfl rfl rfl
  refine x_m hA rfl fun ac hA => ?_
  refine x_on hb108 hA ?_ rfl rfl rfl
  refine x_v hA (r_ltS rfl (hA.ev rfl) (hA.ev rfl)) rfl fun ac hA => ?_
  refine x_pickf hb108 hA (fun ac hA => ?_) rfl rfl rfl rfl rfl rfl
  refine x_m hA rfl fun ac hA => ?_
  refine wn (hK102 _ _ ?_)
  refine wp_ret ?_
  cases hF
  refine hQ _ _ ?_
  refine lv Tryd.results87 hA rfl ?_
  exact ⟨rfl, hS⟩
 replace hF := iff' hb105 hF
 refine x_off hb105 hA (fun ac hA => ?_) rfl rfl rfl rfl rfl
 refine x_off hb105 hA (fun ac hA => ?_) rfl rfl rfl rfl rfl
 refine x_off hb105 hA (fun ac hA => ?_) rfl rfl rfl rfl rfl
 refine x_pickf hb105 hA (fun ac hA => ?_) rfl rfl rfl rfl rfl rfl
 refine x_m hA rfl fun ac hA => ?_
 refine x_on rfl hA ?_ rfl rfl rfl
 refine x_m hA rfl fun ac hA => ?_
 refine x_on rfl hA ?_ rfl rfl rfl
 refine x_m hA rfl fun ac hA => ?_
 refine x_on rfl hA ?_ rfl rfl rfl
 refine x_v hA (r_ltS rfl (hA.ev rfl) (hA.ev rfl)) rfl fun ac hA => ?_
 refine x_pickf rfl hA (fun ac hA => ?_) rfl rfl rfl rfl rfl rfl
 refine x_m hA rfl fun ac hA => ?_
 refine wn (hK102 _ _ ?_)
 refine wp_ret ?_
 cases hF
 refine hQ _ _ ?_
 refine lv Tryd.results87 hA rfl ?_
 exact ⟨rfl, hS⟩
theorem F_slices_BinarySearch_string_string {r : World} {L : List HP} {w : World} (a0 : (List (List UInt8))) (a1 : (List UInt8)) (A0 : Option Addr) (n0 : Nat) (c0 : Nat) {y : (Int × Bool)} (hF : slices_BinarySearch_string_string a0 a1 = some y) (ha0 : RdL L kS A0 n0 c0 a0) (hS : SH r (L) w) :
  Ret Tryd.prog 72 #[.slice A0 n0 c0, str a1] w fun v w' => v = .tuple #[(.int .i64 y.1), (.bool y.2)] ∧ SH r (L) w' := by
 refine enter Tryd.func72 rfl Tryd.ntmps72 [(0, .slice A0 n0 c0), (1, str a1)] rfl (by simp) ?_
 intro ac hA Qf hQ hQn
 unfold slices_BinarySearch_string_string at hF
 refine ws fun K101 hK101 => ?_
 refine x_m hA rfl fun ac hA => ?_
 refine x_m hA rfl fun ac hA => ?_
 refine wn (hK101 _ _ ?_)
 refine ws fun K102 hK102 => ?_
 refine x_m hA rfl fun ac hA => ?_
 refine x_len Tryd.underlying91 (hS.rdl 0 ha0 rfl).2.1 hA (fun ac hA => ?_) rfl rfl rfl rfl rfl
 refine x_m hA rfl fun ac hA => ?_
 refine wn (hK102 _ _ ?_)
 refine ws fun K103 hK103 => ?_
 refine x_m hA rfl fun ac hA => ?_
 refine x_m hA rfl fun ac hA => ?_
 refine x_m hA rfl fun ac hA => ?_
 refine wn (hK103 _ _ ?_)
 refine wp_seq_k fun K104 hK104 => ?_
 refine wp_block_k fun Kx382 hKx382 => ?_
 have hb1 : ∀ (x520 : Int), slices_BinarySearch_string_string_b1 a0 a1 x520 = some y → ∀ (ac : Act) (w : World), FR 54 [] ac [(0, .slice A0 n0 c0), (1, str a1), (6, .int .i64 (a0.length : Int)), (7, .int .i64 x520)] → SH r (L) w → Kx382 ac w := by
  intro x520 hF ac w hA hS
  unfold slices_BinarySearch_string_string_b1 at hF
  refine hKx382 _ _ ?_
  refine hK104 _ _ ?_
  refine ws fun K521 hK521 => ?_
  refine x_m hA rfl fun ac hA => ?_
  refine x_m hA rfl fun ac hA => ?_
  refine x_m hA rfl fun ac hA => ?_
  refine x_v hA (r_ltI rfl (hA.ev rfl) (hA.ev rfl)) rfl fun ac hA => ?_
  refine x_m hA rfl fun ac hA => ?_
  refine bcase (b := decide (x520 < (a0.length : Int))) (fun hb522 => ?_) fun hb522 => ?_
  ·replace hF := ift hb522 hF
   refine x_on hb522 hA ?_ rfl rfl rfl
   refine x_m hA rfl fun ac hA => ?_
   refine x_on hb522 hA ?_ rfl rfl rfl
   refine x_m hA rfl fun ac hA => ?_
   refine x_on hb522 hA ?_ rfl rfl rfl
   obtain ⟨x523, h524, hF⟩ := bnd hF
   refine x_ia Tryd.underlying91 sz9 (hS.rdl 0 ha0 rfl) h524 hA (fun ac hA => ?_) rfl rfl rfl rfl rfl rfl
   refine x_on hb522 hA ?_ rfl rfl rfl
   obtain ⟨cs, hV, hc525⟩ := el (hS.rdl 0 ha0 rfl) h524
   obtain rfl := hV
   refine x_ld Tryd.underlying9 (hc525 0 _ rfl) hA (fun ac hA => ?_) rfl rfl rfl rfl rfl rfl
   refine x_on hb522 hA ?_ rfl rfl rfl
   refine x_m hA rfl fun ac hA => ?_
   refine x_on hb522 hA ?_ rfl rfl rfl
   refine x_v hA (r_eqS rfl (hA.ev rfl) (hA.ev rfl)) rfl fun ac hA => ?_
   refine x_on hb522 hA ?_ rfl rfl rfl
   refine x_m hA rfl fun ac hA => ?_
   refine bcase (b := x523 == a1) (fun hb526 => ?_) fun hb526 => ?_
   ·replace hF := ift hb526 hF
    refine x_off hb526 hA (fun ac hA => ?_) rfl rfl rfl rfl rfl
    refine x_off hb526 hA (fun ac hA => ?_) rfl rfl rfl rfl rfl
    refine x_off hb526 hA (fun ac hA => ?_) rfl rfl rfl rfl rfl
    refine x_off hb526 hA (fun ac hA => ?_) rfl rfl rfl rfl rfl
    refine x_off hb526 hA (fun ac hA => ?_) rfl rfl rfl rfl rfl
    refine x_off hb526 hA (fun ac hA => ?_) rfl rfl rfl rfl rfl
    refine x_offU hA (fun ac hA => ?_) rfl rfl rfl rfl rfl
    refine x_offU hA (fun ac hA => ?_) rfl rfl rfl rfl rfl
    refine x_off hb526 hA (fun ac hA => ?_) rfl rfl rfl rfl rfl
    refine x_on hb522 hA ?_ rfl rfl rfl
    refine x_pickt hb526 hA (fun ac hA => ?_) rfl rfl rfl rfl rfl rfl
    refine x_pickt hb522 hA (fun ac hA => ?_) rfl rfl rfl rfl rfl rfl
    refine x_m hA rfl fun ac hA => ?_
    refine x_m hA rfl fun ac hA => ?_
    refine wn (hK521 _ _ ?_)
    refine wp_ret ?_
    cases hF
    refine hQ _ _ ?_
    refine lv2 Tryd.results72 hA rfl rfl ?_
    exact ⟨rfl, hS⟩
   replace hF := iff' hb526 hF
   refine x_on hb526 hA ?_ rfl rfl rfl
   refine x_m hA rfl fun ac hA => ?_
   refine x_on hb526 hA ?_ rfl rfl rfl
   refine x_m hA rfl fun ac hA => ?_
   refine x_on hb526 hA ?_ rfl rfl rfl
   refine x_ia Tryd.underlying91 sz9 (hS.rdl 0 ha0 rfl) h524 hA (fun ac hA => ?_) rfl rfl rfl rfl rfl rfl
   refine x_on hb526 hA ?_ rfl rfl rfl
   obtain ⟨cs, hV, hc527⟩ := el (hS.rdl 0 ha0 rfl) h524
   obtain rfl := hV
   refine x_ld Tryd.underlying9 (hc527 0 _ rfl) hA (fun ac hA => ?_) rfl rfl rfl rfl rfl rfl
   refine x_on hb526 hA ?_ rfl rfl rfl
   obtain ⟨y528, h529, hF⟩ := bnd hF
   refine x_call en88 hA (F_slices_isNaN_string (L := L) x523 h529 hS) (fun v ac w hR hA => ?_) rfl rfl rfl rfl rfl
   obtain ⟨rfl, hS⟩ := hR
   refine x_on hb526 hA ?_ rfl rfl rfl
   refine x_m hA rfl fun ac hA => ?_
   refine bcase (b := y528) (fun hb530 => ?_) fun hb530 => ?_
   ·replace hF := ift hb530 hF
    refine x_on hb530 hA ?_ rfl rfl rfl
    refine x_m hA rfl fun ac hA => ?_
    refine x_on hb530 hA ?_ rfl rfl rfl
    obtain ⟨y531, h532, hF⟩ := bnd hF
    refine x_call en88 hA (F_slices_isNaN_string (L := L) a1 h532 hS) (fun v ac w hR hA => ?_) rfl rfl rfl rfl rfl
    obtain ⟨rfl, hS⟩ := hR
    refine x_on hb526 hA ?_ rfl rfl rfl
    refine x_pickt hb530 hA (fun ac hA => ?_) rfl rfl rfl rfl rfl rfl
    refine x_on hb522 hA ?_ rfl rfl rfl
    refine x_pickf hb526 hA (fun ac hA => ?_) rfl rfl rfl rfl rfl rfl
    refine x_pickt hb522 hA (fun ac hA => ?_) rfl rfl rfl rfl rfl rfl
    refine x_m hA rfl fun ac hA => ?_
    refine x_m hA rfl fun ac hA => ?_
    refine wn (hK521 _ _ ?_)
    refine wp_ret ?_
    cases hF
    refine hQ _ _ ?_
    refine lv2 Tryd.results72 hA rfl rfl ?_
    exact ⟨rfl, hS⟩
   replace hF := iff' hb530 hF
   refine x_off hb530 hA (fun ac hA => ?_) rfl rfl rfl rfl rfl
   refine x_off hb530 hA (fun ac hA => ?_) rfl rfl rfl rfl rfl
   refine x_on hb526 hA ?_ rfl rfl rfl
   refine x_pickf hb530 hA (fun ac hA => ?_) rfl rfl rfl rfl rfl rfl
   refine x_on hb522 hA ?_ rfl rfl rfl
   refine x_pickf hb526 hA (fun ac hA => ?_) rfl rfl rfl rfl rfl rfl
   refine x_pickt hb522 hA (fun ac hA => ?_) rfl rfl rfl rfl rfl rfl
   refine x_m hA rfl fun ac hA => ?_
   refine x_m hA rfl fun ac hA => ?_
   refine wn (hK521 _ _ ?_)
   refine wp_ret ?_
   cases hF
   refine hQ _ _ ?_
   refine lv2 Tryd.results72 hA rfl rfl ?_
   exact ⟨rfl, hS⟩
  replace hF := iff' hb522 hF
  refine x_off hb522 hA (fun ac hA => ?_) rfl rfl rfl rfl rfl
  refine x_off hb522 hA (fun ac hA => ?_) rfl rfl rfl rfl rfl
  refine x_off hb522 hA (fun ac hA => ?_) rfl rfl rfl rfl rfl
  refine x_off hb522 hA (fun ac hA => ?_) rfl rfl rfl rfl rfl
  refine x_off hb522 hA (fun ac hA => ?_) rfl rfl rfl rfl rfl
  refine x_off hb522 hA (fun ac hA => ?_) rfl rfl rfl rfl rfl
  refine x_off hb522 hA (fun ac hA => ?_) rfl rfl rfl rfl rfl
  refine x_offU hA (fun ac hA => ?_) rfl rfl rfl rfl rfl
  refine x_offU hA (fun ac hA => ?_) rfl rfl rfl rfl rfl
  refine x_offU hA (fun ac hA => ?_) rfl rfl rfl rfl rfl
  refine x_offU hA (fun ac hA => ?_) rfl rfl rfl rfl rfl
  refine x_offU hA (fun ac hA => ?_) rfl rfl rfl rfl rfl
  refine x_offU hA (fun ac hA => ?_) rfl rfl rfl rfl rfl
  refine x_offU hA (fun ac hA => ?_) rfl rfl rfl rfl rfl
  refine x_offU hA (fun ac hA => ?_) rfl rfl rfl rfl rfl
  refine x_offU hA (fun ac hA => ?_) rfl rfl rfl rfl rfl
  refine x_off hb522 hA (fun ac hA => ?_) rfl rfl rfl rfl rfl
  refine x_pickf hb522 hA (fun ac hA => ?_) rfl rfl rfl rfl rfl rfl
  refine x_m hA rfl fun ac hA => ?_
  refine x_m hA rfl fun ac hA => ?_
  refine wn (hK521 _ _ ?_)
  refine wp_ret ?_
  cases hF
  refine hQ _ _ ?_
  refine lv2 Tryd.results72 hA rfl rfl ?_
  exact ⟨rfl, hS⟩
 obtain ⟨t625, hl625, hF⟩ := bnd hF
 have hx625_0 : ∀ (x625 : Int), (x625) = t625 → ∀ (ac : Act) (w : World), FR 54 [] ac [(0, .slice A0 n0 c0), (1, str a1), (6, .int .i64 (a0.length : Int)), (7, .int .i64 x625)] → SH r (L) w → Kx382 ac w := by
  intro x625 ht ac w hA hS
  subst ht
  replace hF : slices_BinarySearch_string_string_x1_0 a0 a1 x625 = some y := hF
  unfold slices_BinarySearch_string_string_x1_0 at hF
  exact hb1 x625 hF ac w (hA.sub _ rfl) hS
 refine wp_loop_fn hl625 (fun s ac w => FR 54 [] ac [(0, .slice A0 n0 c0), (1, str a1), (6, .int .i64 (a0.length : Int)), (7, .int .i64 s.1), (8, .int .i64 s.2)] ∧ SH r (L) w) ⟨hA.sub _ rfl, hS⟩ ?_
 intro N625 s625 o625 hF N625_ T625_ ac w hLab
 obtain ⟨x578, x579⟩ := s625
 replace hF : slices_BinarySearch_string_string_l1 a0 a1 x578 x579 = some o625 := hF
 unfold slices_BinarySearch_string_string_l1 at hF
 try dsimp only at hLab
 obtain ⟨hA, hS⟩ := hLab
 refine wp_seq_k fun K627 hK627 => ?_
 refine ws fun K628 hK628 => ?_
 refine x_m hA rfl fun ac hA => ?_
 refine x_m hA rfl fun ac hA => ?_
 refine x_v hA (r_ltI rfl (hA.ev rfl) (hA.ev rfl)) rfl fun ac hA => ?_
 refine wn (hK628 _ _ ?_)
 refine c_if hA rfl (fun hb629 => ?_) fun hb629 => ?_
 ·replace hF := ift hb629 hF
  refine wp_skip ?_
  refine hK627 _ _ ?_
  refine wp_block_k fun Kx630 hKx630 => ?_
  have hb2 : ∀ (x649 : Int) (x650 : Int), slices_BinarySearch_string_string_b2 x649 x650 = some o625 → ∀ (ac : Act) (w : World), FR 54 [] ac [(0, .slice A0 n0 c0), (1, str a1), (6, .int .i64 (a0.length : Int)), (7, .int .i64 x649), (8, .int .i64 x650)] → SH r (L) w → Kx630 ac w := by
   intro x649 x650 hF ac w hA hS
   unfold slices_BinarySearch_string_string_b2 at hF
   refine hKx630 _ _ ?_
   cases hF
   exact ⟨_, N625_ _ rfl, hA.sub _ rfl, hS⟩
  refine ws fun K651 hK651 => ?_
  refine x_m hA rfl fun ac hA => ?_
  refine x_m hA rfl fun ac hA => ?_
  obtain ⟨x652, h653, hF⟩ := ltt_ hF
  refine x_v (v := .int .i64 x652) hA (rv_i h653 (r_add rfl (hA.ev rfl) (hA.ev rfl))) rfl fun ac hA => ?_
  obtain ⟨x654, h655, hF⟩ := ltt_ hF
  refine x_v (v := .int .u64 x654) hA (rv_i h655 (r_convI Tryd.underlying3 Tryd.underlying73 rfl (hA.ev rfl))) rfl fun ac hA => ?_
  obtain ⟨x656, h657, hF⟩ := ltt_ hF
  refine x_v (v := .int .u64 x656) hA (rv_i h657 (r_shr rfl (hA.ev rfl) (hA.ev rfl) (by decide))) rfl fun ac hA => ?_
  obtain ⟨x658, h659, hF⟩ := ltt_ hF
  refine x_v (v := .int .i64 x658) hA (rv_i h659 (r_convI Tryd.underlying73 Tryd.underlying3 rfl (hA.ev rfl))) rfl fun ac hA => ?_
  refine x_m hA rfl fun ac hA => ?_
  refine wn (hK651 _ _ ?_)
  refine ws fun K660 hK660 => ?_
  refine x_m hA rfl fun ac hA => ?_
  refine x_m hA rfl fun ac hA => ?_
  obtain ⟨x661, h662, hF⟩ := bnd hF
  refine x_ia Tryd.underlying91 sz9 (hS.rdl 0 ha0 rfl) h662 hA (fun ac hA => ?_) rfl rfl rfl rfl rfl rfl
  obtain ⟨cs, hV, hc663⟩ := el (hS.rdl 0 ha0 rfl) h662
  obtain rfl := hV
  refine x_ld Tryd.underlying9 (hc663 0 _ rfl) hA (fun ac hA => ?_) rfl rfl rfl rfl rfl rfl
  refine x_m hA rfl fun ac hA => ?_
  obtain ⟨y664, h665, hF⟩ := bnd hF
  refine x_call en87 hA (F_cmp_Less_string (L := L) x661 a1 h665 hS) (fun v ac w hR hA => ?_) rfl rfl rfl rfl rfl
  obtain ⟨rfl, hS⟩ := hR
  refine wn (hK660 _ _ ?_)
  refine c_if hA rfl (fun hb666 => ?_) fun hb666 => ?_
  ·replace hF := ift hb666 hF
   refine wp_reg ?_
   refine x_m hA rfl fun ac hA => ?_
   obtain ⟨x667, h668, hF⟩ := ltt_ hF
   refine x_v (v := .int .i64 x667) hA (rv_i h668 (r_add rfl (hA.ev rfl) (hA.ev rfl))) rfl fun ac hA => ?_
   refine x_m hA rfl fun ac hA => ?_
   refine wpList_nil ?_
   exact hb2 x667 x579 hF ac w (hA.sub _ rfl) hS
  replace hF := iff' hb666 hF
  refine wp_reg ?_
  refine x_m hA rfl fun ac hA => ?_
  refine x_m hA rfl fun ac hA => ?_
  refine wpList_nil ?_
  exact hb2 x578 x658 hF ac w (hA.sub _ rfl) hS
 replace hF := iff' hb629 hF
 refine wp_exit ?_
 cases hF
 exact hx625_0 x578 (T625_ _ rfl) ac w (hA.sub _ rfl) hS
theorem F_column_Texts {r : World} {L : List HP} {w : World} (a0 : (List (List UInt8))) (A0 : Option Addr) (n0 : Nat) (c0 : Nat) {y : ((List Int))} (hF : column_Texts a0 = some y) (ha0 : RdL L kS A0 n0 c0 a0) (hS : SH r (L) w) :
  Ret Tryd.prog 46 #[.slice A0 n0 c0] w fun v w' => ∃ (B0 : Option Addr) (m0 : Nat) (d0 : Nat), v = .slice B0 m0 d0 ∧ SH r (own (kI .u8) 5 B0 m0 d0 y :: L) w' := by
 refine enter Tryd.func46 rfl Tryd.ntmps46 [(0, .slice A0 n0 c0)] rfl (by simp) ?_
 intro ac hA Qf hQ hQn
 unfold column_Texts at hF
 refine ws fun K101 hK101 => ?_
 refine x_m hA rfl fun ac hA => ?_
 refine wn (hK101 _ _ ?_)
 refine ws fun K102 hK102 => ?_
 refine x_m hA rfl fun ac hA => ?_
 refine x_call en71 hA (F_slices_Values (L := L) (A := A0) (n := n0) (c := c0) hS) (fun v ac w hR hA => ?_) rfl rfl rfl rfl rfl
 obtain ⟨g103, rfl, hS⟩ := hR
 obtain ⟨y104, h105, hF⟩ := bnd hF
 refine x_call en70 hA (F_slices_Sorted (L := L) a0 h105 (RdL.sfx 0 rfl ha0) hS) (fun v ac w hR hA => ?_) rfl rfl rfl rfl rfl
 obtain ⟨A106, n107, c108, rfl, hS⟩ := hR
 obtain ⟨y109, h110, hF⟩ := bnd hF
 refine x_call en69 hA (F_slices_Compact (L := L) y104 h110 hS) (fun v ac w hR hA => ?_) rfl rfl rfl rfl rfl
 obtain ⟨A111, n112, c113, rfl, hS⟩ := hR
 refine x_m hA rfl fun ac hA => ?_
 refine wn (hK102 _ _ ?_)
 refine ws fun K114 hK114 => ?_
 refine x_m hA rfl fun ac hA => ?_
 refine x_len Tryd.underlying91 (hS.rd 0 rfl).2.1 hA (fun ac hA => ?_) rfl rfl rfl rfl rfl
 obtain ⟨x115, h116, hF⟩ := ltt_ hF
 refine x_v (v := .int .u64 x115) hA (rv_i h116 (r_convI Tryd.underlying3 Tryd.underlying31 rfl (hA.ev rfl))) rfl fun ac hA => ?_
 replace hS := SH.nil_own (d := (kI .u8)) (e := 5) hS
 obtain ⟨y117, h118, hF⟩ := bnd hF
 refine x_call en48 hA (F_column_Uint (L := own kS 9 A111 n112 c113 y109 :: L) [] x115 none 0 0 h118 hS) (fun v ac w hR hA => ?_) rfl rfl rfl rfl rfl
 obtain ⟨B119, m120, d121, rfl, hS⟩ := hR
 refine x_m hA rfl fun ac hA => ?_
 refine wn (hK114 _ _ ?_)
 refine wp_seq_k fun K122 hK122 => ?_
 refine ws fun K266 hK266 => ?_
 refine x_m hA rfl fun ac hA => ?_
 refine x_len Tryd.underlying91 (hS.rd 1 rfl).2.1 hA (fun ac hA => ?_) rfl rfl rfl rfl rfl
 refine x_m hA rfl fun ac hA => ?_
 refine wn (hK266 _ _ ?_)
 refine wp_block_k fun Kx267 hKx267 => ?_
 have hb1 : ∀ (l336 : (List Int)), column_Texts_b1 a0 y109 l336 = some y → ∀ (A337 : Option Addr) (n338 : Nat) (c339 : Nat) (ac : Act) (w : World), FR 51 [] ac [(0, .slice A0 n0 c0), (3, .slice A111 n112 c113), (4, .slice A337 n338 c339)] → SH r (own kS 9 A111 n112 c113 y109 :: own (kI .u8) 5 A337 n338 c339 l336 :: L) w → Kx267 ac w := by
  intro l336 hF A337 n338 c339 ac w hA hS
  unfold column_Texts_b1 at hF
  refine hKx267 _ _ ?_
  refine hK122 _ _ ?_
  refine ws fun K340 hK340 => ?_
  refine x_m hA rfl fun ac hA => ?_
  refine wn (hK340 _ _ ?_)
  refine wp_seq_k fun K341 hK341 => ?_
  refine ws fun K519 hK519 => ?_
  refine x_m hA rfl fun ac hA => ?_
  refine x_len Tryd.underlying91 (hS.rdl 2 ha0 rfl).2.1 hA (fun ac hA => ?_) rfl rfl rfl rfl rfl
  refine x_m hA rfl fun ac hA => ?_
  refine wn (hK519 _ _ ?_)
  refine wp_block_k fun Kx520 hKx520 => ?_
  have hb2 : ∀ (l606 : (List Int)), column_Texts_b2 l336 l606 = some y → ∀ (A607 : Option Addr) (n608 : Nat) (c609 : Nat) (ac : Act) (w : World), FR 51 [] ac [(4, .slice A337 n338 c339), (7, .slice A607 n608 c609)] → SH r (own (kI .u8) 5 A337 n338 c339 l336 :: own (kI .i64) 2 A607 n608 c609 l606 :: L) w → Kx520 ac w := by
   intro l606 hF A607 n608 c609 ac w hA hS
   unfold column_Texts_b2 at hF
   refine hKx520 _ _ ?_
   refine hK341 _ _ ?_
   refine ws fun K610 hK610 => ?_
   refine x_m hA rfl fun ac hA => ?_
   refine x_m hA rfl fun ac hA => ?_
   obtain ⟨y611, h612, hF⟩ := bnd hF
   refine x_call en45 hA (F_column_Ints (L := own (kI .u8) 5 A337 n338 c339 l336 :: own (kI .i64) 2 A607 n608 c609 l606 :: L) l606 A607 n608 c609 h612 (RdL.own 1 rfl (hS.dropN 0)) hS) (fun v ac w hR hA => ?_) rfl rfl rfl rfl rfl
   obtain ⟨B613, m614, d615, rfl, hS⟩ := hR
   obtain ⟨h616, hF⟩ := chk_some hF
   have hr := hS.rd 0 rfl
   refine x_app 1 inf5 Tryd.underlying24 hA hS hr.1 hr.2.1 h616 rfl (fun A617 n618 c619 ac w hS hA => ?_) rfl rfl rfl rfl rfl rfl rfl rfl rfl
   refine x_m hA rfl fun ac hA => ?_
   refine wn (hK610 _ _ ?_)
   refine wp_ret ?_
   replace hS := hS.drop 1
   replace hS := hS.drop 1
   cases hF
   refine hQ _ _ ?_
   refine lv Tryd.results46 hA rfl ?_
   exact ⟨A617, n618, c619, rfl, hS⟩
  obtain ⟨t684, hl684, hF⟩ := bnd hF
  have hx684_2 : ∀ (l681 : (List Int)), (l681) = t684 → ∀ (A682 : Option Addr) (n683 : Nat) (c684 : Nat) (ac : Act) (w : World), FR 51 [] ac [(4, .slice A337 n338 c339), (7, .slice A682 n683 c684)] → SH r (own (kI .u8) 5 A337 n338 c339 l336 :: own (kI .i64) 2 A682 n683 c684 l681 :: L) w → Kx520 ac w := by
   intro l681 ht A682 n683 c684 ac w hA hS
   subst ht
   replace hF : column_Texts_x1_2 l336 l681 = some y := hF
   unfold column_Texts_x1_2 at hF
   exact hb2 l681 hF A682 n683 c684 ac w (hA.sub _ rfl) hS
  replace hS := SH.nil_own (d := (kI .i64)) (e := 2) hS
  replace hS := hS.pk 2
  replace hS := hS.pk 2
  refine wp_loop_fn hl684 (fun s ac w => ∃ (A653 : Option Addr) (n654 : Nat) (c655 : Nat), FR 51 [] ac [(3, .slice A111 n112 c113), (4, .slice A337 n338 c339), (7, .slice A653 n654 c655), (30, .slice A0 n0 c0), (31, .int .i64 (a0.length : Int)), (32, .int .i64 s.2)] ∧ SH r (own kS 9 A111 n112 c113 y109 :: own (kI .u8) 5 A337 n338 c339 l336 :: own (kI .i64) 2 A653 n654 c655 s.1 :: L) w) ⟨none, 0, 0, hA.sub _ rfl, hS⟩ ?_
  intro N684 s684 o684 hF N684_ T684_ ac w hLab
  obtain ⟨l652, x656⟩ := s684
  replace hF : column_Texts_l1 a0 y109 l652 x656 = some o684 := hF
  unfold column_Texts_l1 at hF
  try dsimp only at hLab
  obtain ⟨A653, n654, c655, hA, hS⟩ := hLab
  refine ws fun K686 hK686 => ?_
  refine x_v hA (r_ltI rfl (hA.ev rfl) (hA.ev rfl)) rfl fun ac hA => ?_
  refine wn (hK686 _ _ ?_)
  refine wp_seq_k fun K687 hK687 => ?_
  refine c_if hA rfl (fun hb688 => ?_) fun hb688 => ?_
  ·replace hF := ift hb688 hF
   refine wp_skip ?_
   refine hK687 _ _ ?_
   refine wp_seq_k fun K689 hK689 => ?_
   refine wp_block_k fun Kx690 hKx690 => ?_
   refine ws fun K691 hK691 => ?_
   obtain ⟨x692, h693, hF⟩ := bnd hF
   refine x_ia Tryd.underlying91 sz9 (hS.rdl 3 ha0 rfl) h693 hA (fun ac hA => ?_) rfl rfl rfl rfl rfl rfl
   obtain ⟨cs, hV, hc694⟩ := el (hS.rdl 3 ha0 rfl) h693
   obtain rfl := hV
   refine x_ld Tryd.underlying9 (hc694 0 _ rfl) hA (fun ac hA => ?_) rfl rfl rfl rfl rfl rfl
   refine x_m hA rfl fun ac hA => ?_
   refine wn (hK691 _ _ ?_)
   refine ws fun K695 hK695 => ?_
   refine x_m hA rfl fun ac hA => ?_
   refine x_m hA rfl fun ac hA => ?_
   obtain ⟨y696, h697, hF⟩ := bnd hF
   refine x_call en72 hA (F_slices_BinarySearch_string_string (L := own kS 9 A111 n112 c113 y109 :: own (kI .u8) 5 A337 n338 c339 l336 :: own (kI .i64) 2 A653 n654 c655 l652 :: L) y109 x692 A111 n112 c113 h697 (RdL.own 0 rfl (hS.dropN 0)) hS) (fun v ac w hR hA => ?_) rfl rfl rfl rfl rfl
   obtain ⟨rfl, hS⟩ := hR
   refine x_m hA rfl fun ac hA => ?_
   refine x_v hA (r_extract rfl (hA.ev rfl) rfl) rfl fun ac hA => ?_
   refine x_v hA (r_extract rfl (hA.ev rfl) rfl) rfl fun ac hA => ?_
   refine x_m hA rfl fun ac hA => ?_
   refine x_m hA rfl fun ac hA => ?_
   refine wn (hK695 _ _ ?_)
   refine wp_reg ?_
   refine x_m hA rfl fun ac hA => ?_
   refine x_m hA rfl fun ac hA => ?_
   refine x_bsl (d := (kI .i64)) (e := 2) (ps := #[(0, .int .i64 y696.1)]) (cells := [.int .i64 y696.1]) (xs := [y696.1]) (fun w => by kernel_rfl) rfl ⟨[.int .i64 y696.1], _, rfl, rfl, rfl⟩ hA hS (fun g698 ac w hS hA => ?_) rfl rfl rfl rfl rfl rfl
   obtain ⟨h699, hF⟩ := chk_some hF
   have hr := hS.rd 0 rfl
   refine x_app 3 inf2 Tryd.underlying90 hA hS hr.1 hr.2.1 h699 rfl (fun A700 n701 c702 ac w hS hA => ?_) rfl rfl rfl rfl rfl rfl rfl rfl rfl
   refine x_m hA rfl fun ac hA => ?_
   refine wpList_nil ?_
   refine hKx690 _ _ ?_
   refine hK689 _ _ ?_
   refine wp_reg ?_
   obtain ⟨x703, h704, hF⟩ := ltt_ hF
   refine x_v (v := .int .i64 x703) hA (rv_i h704 (r_add rfl (hA.ev rfl) (hA.ev rfl))) rfl fun ac hA => ?_
   refine x_m hA rfl fun ac hA => ?_
   refine wpList_nil ?_
   replace hS := hS.drop 1
   replace hS := hS.pk 2
   replace hS := hS.pk 2
   cases hF
   exact ⟨_, N684_ _ rfl, A700, n701, c702, hA.sub _ rfl, hS⟩
  replace hF := iff' hb688 hF
  refine wp_exit ?_
  replace hS := hS.drop 0
  cases hF
  exact hx684_2 l652 (T684_ _ rfl) A653 n654 c655 ac w (hA.sub _ rfl) hS
 obtain ⟨t755, hl755, hF⟩ := bnd hF
 have hx755_0 : ∀ (l752 : (List Int)), (l752) = t755 → ∀ (A753 : Option Addr) (n754 : Nat) (c755 : Nat) (ac : Act) (w : World), FR 51 [] ac [(0, .slice A0 n0 c0), (3, .slice A111 n112 c113), (4, .slice A753 n754 c755)] → SH r (own kS 9 A111 n112 c113 y109 :: own (kI .u8) 5 A753 n754 c755 l752 :: L) w → Kx267 ac w := by
  intro l752 ht A753 n754 c755 ac w hA hS
  subst ht
  replace hF : column_Texts_x2_0 a0 y109 l752 = some y := hF
  unfold column_Texts_x2_0 at hF
  exact hb1 l752 hF A753 n754 c755 ac w (hA.sub _ rfl) hS
 replace hS := hS.pk 1
 refine wp_loop_fn hl755 (fun s ac w => ∃ (A727 : Option Addr) (n728 : Nat) (c729 : Nat), FR 51 [] ac [(0, .slice A0 n0 c0), (3, .slice A111 n112 c113), (4, .slice A727 n728 c729), (20, .slice A111 n112 c113), (21, .int .i64 (y109.length : Int)), (22, .int .i64 s.2)] ∧ SH r (own kS 9 A111 n112 c113 y109 :: own (kI .u8) 5 A727 n728 c729 s.1 :: L) w) ⟨B119, m120, d121, hA.sub _ rfl, hS⟩ ?_
 intro N755 s755 o755 hF N755_ T755_ ac w hLab
 obtain ⟨l726, x730⟩ := s755
 replace hF : column_Texts_l2 y109 l726 x730 = some o755 := hF
 unfold column_Texts_l2 at hF
 try dsimp only at hLab
 obtain ⟨A727, n728, c729, hA, hS⟩ := hLab
 refine ws fun K757 hK757 => ?_
 refine x_v hA (r_ltI rfl (hA.ev rfl) (hA.ev rfl)) rfl fun ac hA => ?_
 refine wn (hK757 _ _ ?_)
 refine wp_seq_k fun K758 hK758 => ?_
 refine c_if hA rfl (fun hb759 => ?_) fun hb759 => ?_
 ·replace hF := ift hb759 hF
  refine wp_skip ?_
  refine hK758 _ _ ?_
  refine wp_seq_k fun K760 hK760 => ?_
  refine wp_block_k fun Kx761 hKx761 => ?_
  refine ws fun K762 hK762 => ?_
  obtain ⟨x763, h764, hF⟩ := bnd hF
  refine x_ia Tryd.underlying91 sz9 (hS.rd 0 rfl) h764 hA (fun ac hA => ?_) rfl rfl rfl rfl rfl rfl
  obtain ⟨cs, hV, hc765⟩ := el (hS.rd 0 rfl) h764
  obtain rfl := hV
  refine x_ld Tryd.underlying9 (hc765 0 _ rfl) hA (fun ac hA => ?_) rfl rfl rfl rfl rfl rfl
  refine x_m hA rfl fun ac hA => ?_
  refine wn (hK762 _ _ ?_)
  refine wp_reg ?_
  refine x_m hA rfl fun ac hA => ?_
  refine x_m hA rfl fun ac hA => ?_
  replace hS := hS.pk 1
  obtain ⟨y766, h767, hF⟩ := bnd hF
  refine x_call en29 hA (F_column_Text (L := own kS 9 A111 n112 c113 y109 :: L) l726 x763 A727 n728 c729 h767 hS) (fun v ac w hR hA => ?_) rfl rfl rfl rfl rfl
  obtain ⟨B768, m769, d770, rfl, hS⟩ := hR
  refine x_m hA rfl fun ac hA => ?_
  refine wpList_nil ?_
  refine hKx761 _ _ ?_
  refine hK760 _ _ ?_
  refine wp_reg ?_
  obtain ⟨x771, h772, hF⟩ := ltt_ hF
  refine x_v (v := .int .i64 x771) hA (rv_i h772 (r_add rfl (hA.ev rfl) (hA.ev rfl))) rfl fun ac hA => ?_
  refine x_m hA rfl fun ac hA => ?_
  refine wpList_nil ?_
  replace hS := hS.pk 1
  cases hF
  exact ⟨_, N755_ _ rfl, B768, m769, d770, hA.sub _ rfl, hS⟩
 replace hF := iff' hb759 hF
 refine wp_exit ?_
 cases hF
 exact hx755_0 l726 (T755_ _ rfl) A727 n728 c729 ac w (hA.sub _ rfl) hS
end Go.Proofs.YteodeedejjcmgaaDoor.M
namespace Go.Proofs.YteodeedejjcmgaaDoor.M
open Go Go.RowKit Go.Proofs.YteodeedejjcmgaaDoor.E
set_option linter.unusedVariables false
set_option linter.unusedSimpArgs false
noncomputable def event_Form (a0 : S44) (a1 : Int) : Option (Bool) :=
  if (decide (0 ≤ a0.f1)) = true then (if (decide (a0.f1 < a1)) = true then (if (decide (-1099511627776 ≤ a0.f2)) = true then (if (decide (a0.f2 ≤ 1099511627776)) = true then (if (decide ((a0.f3.length : Int) ≤ 32)) = true then (some (decide (a0.f0 < 1099511627776))) else (some false)) else (some false)) else (some false)) else (some false)) else (some false)
noncomputable def r06_Form (a0 : S44) (a1 : Int) : Option (Bool) :=
  if (decide (0 ≤ a0.f1)) = true then (if (decide (a0.f1 < a1)) = true then (if (decide (-1099511627776 ≤ a0.f2)) = true then (if (decide (a0.f2 ≤ 1099511627776)) = true then (if (decide ((a0.f3.length : Int) ≤ 32)) = true then (some (decide (a0.f0 < 1099511627776))) else (some false)) else (some false)) else (some false)) else (some false)) else (some false)
end Go.Proofs.YteodeedejjcmgaaDoor.M
namespace Go.Proofs.YteodeedejjcmgaaDoor.M
open Go Go.RowKit Go.Proofs.YteodeedejjcmgaaDoor.E
set_option linter.unusedVariables false
set_option maxRecDepth 100000
set_option maxHeartbeats 4000000
set_option linter.unusedSimpArgs false
theorem F_event_Form {r : World} {L : List HP} {w : World} (a0 : S44) (a1 : Int) {y : (Bool)} (hF : event_Form a0 a1 = some y) (hS : SH r (L) w) :
  Ret Tryd.prog 23 #[.agg #[.int .u64 a0.f0, .int .i64 a0.f1, .int .i64 a0.f2, str a0.f3, .float .f64 a0.f4], .int .i64 a1] w fun v w' => v = .bool y ∧ SH r (L) w' := by
 refine enter Tryd.func23 rfl Tryd.ntmps23 [(0, .agg #[.int .u64 a0.f0, .int .i64 a0.f1, .int .i64 a0.f2, str a0.f3, .float .f64 a0.f4]), (1, .int .i64 a1)] rfl (by simp) ?_
 intro ac hA Qf hQ hQn
 unfold event_Form at hF
 refine ws fun K101 hK101 => ?_
 refine x_box hA hS (fun g102 ac w hS hA => ?_) rfl rfl rfl rfl rfl rfl
 refine x_m hA rfl fun ac hA => ?_
 refine wn (hK101 _ _ ?_)
 refine ws fun K103 hK103 => ?_
 refine x_fab fa44_1 hA (fun ac hA => ?_) rfl rfl rfl rfl rfl
 refine x_ld Tryd.underlying3 (hS.cell 0 rfl 1 _ rfl) hA (fun ac hA => ?_) rfl rfl rfl rfl rfl rfl
 refine x_v hA (r_geI rfl (hA.ev rfl) (hA.ev rfl)) rfl fun ac hA => ?_
 refine x_m hA rfl fun ac hA => ?_
 refine bcase (b := decide (0 ≤ a0.f1)) (fun hb104 => ?_) fun hb104 => ?_
 ·replace hF := ift hb104 hF
  refine x_on hb104 hA ?_ rfl rfl rfl
  refine x_fab fa44_1 hA (fun ac hA => ?_) rfl rfl rfl rfl rfl
  refine x_on hb104 hA ?_ rfl rfl rfl
  refine x_ld Tryd.underlying3 (hS.cell 0 rfl 1 _ rfl) hA (fun ac hA => ?_) rfl rfl rfl rfl rfl rfl
  refine x_on hb104 hA ?_ rfl rfl rfl
  refine x_m hA rfl fun ac hA => ?_
  refine x_on hb104 hA ?_ rfl rfl rfl
  refine x_v hA (r_ltI rfl (hA.ev rfl) (hA.ev rfl)) rfl fun ac hA => ?_
  refine x_pickt hb104 hA (fun ac hA => ?_) rfl rfl rfl rfl rfl rfl
  refine x_m hA rfl fun ac hA => ?_
  refine bcase (b := decide (a0.f1 < a1)) (fun hb105 => ?_) fun hb105 => ?_
  ·replace hF := ift hb105 hF
   refine x_on hb105 hA ?_ rfl rfl rfl
   refine x_fab fa44_2 hA (fun ac hA => ?_) rfl rfl rfl rfl rfl
   refine x_on hb105 hA ?_ rfl rfl rfl
   refine x_ld Tryd.underlying2 (hS.cell 0 rfl 2 _ rfl) hA (fun ac hA => ?_) rfl rfl rfl rfl rfl rfl
   refine x_on hb105 hA ?_ rfl rfl rfl
   refine x_v hA (r_geI rfl (hA.ev rfl) (hA.ev rfl)) rfl fun ac hA => ?_
   refine x_pickt hb105 hA (fun ac hA => ?_) rfl rfl rfl rfl rfl rfl
   refine x_m hA rfl fun ac hA => ?_
   refine bcase (b := decide (-1099511627776 ≤ a0.f2)) (fun hb106 => ?_) fun hb106 => ?_
   ·replace hF := ift hb106 hF
    refine x_on hb106 hA ?_ rfl rfl rfl
    refine x_fab fa44_2 hA (fun ac hA => ?_) rfl rfl rfl rfl rfl
    refine x_on hb106 hA ?_ rfl rfl rfl
    refine x_ld Tryd.underlying2 (hS.cell 0 rfl 2 _ rfl) hA (fun ac hA => ?_) rfl rfl rfl rfl rfl rfl
    refine x_on hb106 hA ?_ rfl rfl rfl
    refine x_v hA (r_leI rfl (hA.ev rfl) (hA.ev rfl)) rfl fun ac hA => ?_
    refine x_pickt hb106 hA (fun ac hA => ?_) rfl rfl rfl rfl rfl rfl
    refine x_m hA rfl fun ac hA => ?_
    refine bcase (b := decide (a0.f2 ≤ 1099511627776)) (fun hb107 => ?_) fun hb107 => ?_
    ·replace hF := ift hb107 hF
     refine x_on hb107 hA ?_ rfl rfl rfl
     refine x_fab fa44_3 hA (fun ac hA => ?_) rfl rfl rfl rfl rfl
     refine x_on hb107 hA ?_ rfl rfl rfl
     refine x_ld Tryd.underlying9 (hS.cell 0 rfl 3 _ rfl) hA (fun ac hA => ?_) rfl rfl rfl rfl rfl rfl
     refine x_on hb107 hA ?_ rfl rfl rfl
     refine x_v hA (r_lenS Tryd.underlying9 rfl (hA.ev rfl)) rfl fun ac hA => ?_
     refine x_on hb107 hA ?_ rfl rfl rfl
     refine x_v hA (r_leI rfl (hA.ev rfl) (hA.ev rfl)) rfl fun ac hA => ?_
     refine x_pickt hb107 hA (fun ac hA => ?_) rfl rfl rfl rfl rfl rfl
     refine x_m hA rfl fun ac hA => ?_
     refine bcase (b := decide ((a0.f3.length : Int) ≤ 32)) (fun hb108 => ?_) fun hb108 => ?_
     ·replace hF := ift hb108 hF
      refine x_on hb108 hA ?_ rfl rfl rfl
      refine x_fab fa44_0 hA (fun ac hA => ?_) rfl rfl rfl rfl rfl
      refine x_on hb108 hA ?_ rfl rfl rfl
      refine x_ld Tryd.underlying31 (hS.cell 0 rfl 0 _ rfl) hA (fun ac hA => ?_) rfl rfl rfl rfl rfl rfl
      refine x_on hb108 hA ?_ rfl rfl rfl
      refine x_v hA (r_ltI rfl (hA.ev rfl) (hA.ev rfl)) rfl fun ac hA => ?_
      refine x_pickt hb108 hA (fun ac hA => ?_) rfl rfl rfl rfl rfl rfl
      refine x_m hA rfl fun ac hA => ?_
      refine wn (hK103 _ _ ?_)
      refine wp_ret ?_
      replace hS := hS.drop 0
      cases hF
      refine hQ _ _ ?_
      refine lv Tryd.results23 hA rfl ?_
      exact ⟨rfl, hS⟩
     replace hF := iff' hb108 hF
     refine x_off hb108 hA (fun ac hA => ?_) rfl rfl rfl rfl rfl
     refine x_off hb108 hA (fun ac hA => ?_) rfl rfl rfl rfl rfl
     refine x_off hb108 hA (fun ac hA => ?_) rfl rfl rfl rfl rfl
     refine x_pickf hb108 hA (fun ac hA => ?_) rfl rfl rfl rfl rfl rfl
     refine x_m hA rfl fun ac hA => ?_
     refine wn (hK103 _ _ ?_)
     refine wp_ret ?_
     replace hS := hS.drop 0
     cases hF
     refine hQ _ _ ?_
     refine lv Tryd.results23 hA rfl ?_
     exact ⟨rfl, hS⟩
    replace hF := iff' hb107 hF
    refine x_off hb107 hA (fun ac hA => ?_) rfl rfl rfl rfl rfl
    refine x_off hb107 hA (fun ac hA => ?_) rfl rfl rfl rfl rfl
    refine x_off hb107 hA (fun ac hA => ?_) rfl rfl rfl rfl rfl
    refine x_off hb107 hA (fun ac hA => ?_) rfl rfl rfl rfl rfl
    refine x_pickf hb107 hA (fun ac hA => ?_) rfl rfl rfl rfl rfl rfl
    refine x_m hA rfl fun ac hA => ?_
    refine x_off rfl hA (fun ac hA => ?_) rfl rfl rfl rfl rfl
    refine x_off rfl hA (fun ac hA => ?_) rfl rfl rfl rfl rfl
    refine x_off rfl hA (fun ac hA => ?_) rfl rfl rfl rfl rfl
    refine x_pickf rfl hA (fun ac hA => ?_) rfl rfl rfl rfl rfl rfl
    refine x_m hA rfl fun ac hA => ?_
    refine wn (hK103 _ _ ?_)
    refine wp_ret ?_
    replace hS := hS.drop 0
    cases hF
    refine hQ _ _ ?_
    refine lv Tryd.results23 hA rfl ?_
    exact ⟨rfl, hS⟩
   replace hF := iff' hb106 hF
   refine x_off hb106 hA (fun ac hA => ?_) rfl rfl rfl rfl rfl
   refine x_off hb106 hA (fun ac hA => ?_) rfl rfl rfl rfl rfl
   refine x_off hb106 hA (fun ac hA => ?_) rfl rfl rfl rfl rfl
   refine x_pickf hb106 hA (fun ac hA => ?_) rfl rfl rfl rfl rfl rfl
   refine x_m hA rfl fun ac hA => ?_
   refine x_off rfl hA (fun ac hA => ?_) rfl rfl rfl rfl rfl
   refine x_off rfl hA (fun ac hA => ?_) rfl rfl rfl rfl rfl
   refine x_off rfl hA (fun ac hA => ?_) rfl rfl rfl rfl rfl
   refine x_off rfl hA (fun ac hA => ?_) rfl rfl rfl rfl rfl
   refine x_pickf rfl hA (fun ac hA => ?_) rfl rfl rfl rfl rfl rfl
   refine x_m hA rfl fun ac hA => ?_
   refine x_off rfl hA (fun ac hA => ?_) rfl rfl rfl rfl rfl
   refine x_off rfl hA (fun ac hA => ?_) rfl rfl rfl rfl rfl
   refine x_off rfl hA (fun ac hA => ?_) rfl rfl rfl rfl rfl
   refine x_pickf rfl hA (fun ac hA => ?_) rfl rfl rfl rfl rfl rfl
   refine x_m hA rfl fun ac hA => ?_
   refine wn (hK103 _ _ ?_)
   refine wp_ret ?_
   replace hS := hS.drop 0
   cases hF
   refine hQ _ _ ?_
   refine lv Tryd.results23 hA rfl ?_
   exact ⟨rfl, hS⟩
  replace hF := iff' hb105 hF
  refine x_off hb105 hA (fun ac hA => ?_) rfl rfl rfl rfl rfl
  refine x_off hb105 hA (fun ac hA => ?_) rfl rfl rfl rfl rfl
  refine x_off hb105 hA (fun ac hA => ?_) rfl rfl rfl rfl rfl
  refine x_pickf hb105 hA (fun ac hA => ?_) rfl rfl rfl rfl rfl rfl
  refine x_m hA rfl fun ac hA => ?_
  refine x_off rfl hA (fun ac hA => ?_) rfl rfl rfl rfl rfl
  refine x_off rfl hA (fun ac hA => ?_) rfl rfl rfl rfl rfl
  refine x_off rfl hA (fun ac hA => ?_) rfl rfl rfl rfl rfl
  refine x_pickf rfl hA (fun ac hA => ?_) rfl rfl rfl rfl rfl rfl
  refine x_m hA rfl fun ac hA => ?_
  refine x_off rfl hA (fun ac hA => ?_) rfl rfl rfl rfl rfl
  refine x_off rfl hA (fun ac hA => ?_) rfl rfl rfl rfl rfl
  refine x_off rfl hA (fun ac hA => ?_) rfl rfl rfl rfl rfl
  refine x_off rfl hA (fun ac hA => ?_) rfl rfl rfl rfl rfl
  refine x_pickf rfl hA (fun ac hA => ?_) rfl rfl rfl rfl rfl rfl
  refine x_m hA rfl fun ac hA => ?_
  refine x_off rfl hA (fun ac hA => ?_) rfl rfl rfl rfl rfl
  refine x_off rfl hA (fun ac hA => ?_) rfl rfl rfl rfl rfl
  refine x_off rfl hA (fun ac hA => ?_) rfl rfl rfl rfl rfl
  refine x_pickf rfl hA (fun ac hA => ?_) rfl rfl rfl rfl rfl rfl
  refine x_m hA rfl fun ac hA => ?_
  refine wn (hK103 _ _ ?_)
  refine wp_ret ?_
  replace hS := hS.drop 0
  cases hF
  refine hQ _ _ ?_
  refine lv Tryd.results23 hA rfl ?_
  exact ⟨rfl, hS⟩
 replace hF := iff' hb104 hF
 refine x_off hb104 hA (fun ac hA => ?_) rfl rfl rfl rfl rfl
 refine x_off hb104 hA (fun ac hA => ?_) rfl rfl rfl rfl rfl
 refine x_off hb104 hA (fun ac hA => ?_) rfl rfl rfl rfl rfl
 refine x_off hb104 hA (fun ac hA => ?_) rfl rfl rfl rfl rfl
 refine x_pickf hb104 hA (fun ac hA => ?_) rfl rfl rfl rfl rfl rfl
 refine x_m hA rfl fun ac hA => ?_
 refine x_off rfl hA (fun ac hA => ?_) rfl rfl rfl rfl rfl
 refine x_off rfl hA (fun ac hA => ?_) rfl rfl rfl rfl rfl
 refine x_off rfl hA (fun ac hA => ?_) rfl rfl rfl rfl rfl
 refine x_pickf rfl hA (fun ac hA => ?_) rfl rfl rfl rfl rfl rfl
 refine x_m hA rfl fun ac hA => ?_
 refine x_off rfl hA (fun ac hA => ?_) rfl rfl rfl rfl rfl
 refine x_off rfl hA (fun ac hA => ?_) rfl rfl rfl rfl rfl
 refine x_off rfl hA (fun ac hA => ?_) rfl rfl rfl rfl rfl
 refine x_pickf rfl hA (fun ac hA => ?_) rfl rfl rfl rfl rfl rfl
 refine x_m hA rfl fun ac hA => ?_
 refine x_off rfl hA (fun ac hA => ?_) rfl rfl rfl rfl rfl
 refine x_off rfl hA (fun ac hA => ?_) rfl rfl rfl rfl rfl
 refine x_off rfl hA (fun ac hA => ?_) rfl rfl rfl rfl rfl
 refine x_off rfl hA (fun ac hA => ?_) rfl rfl rfl rfl rfl
 refine x_pickf rfl hA (fun ac hA => ?_) rfl rfl rfl rfl rfl rfl
 refine x_m hA rfl fun ac hA => ?_
 refine x_off rfl hA (fun ac hA => ?_) rfl rfl rfl rfl rfl
 refine x_off rfl hA (fun ac hA => ?_) rfl rfl rfl rfl rfl
 refine x_off rfl hA (fun ac hA => ?_) rfl rfl rfl rfl rfl
 refine x_pickf rfl hA (fun ac hA => ?_) rfl rfl rfl rfl rfl rfl
 refine x_m hA rfl fun ac hA => ?_
 refine wn (hK103 _ _ ?_)
 refine wp_ret ?_
 replace hS := hS.drop 0
 cases hF
 refine hQ _ _ ?_
 refine lv Tryd.results23 hA rfl ?_
 exact ⟨rfl, hS⟩
theorem F_r06_Form {r : World} {L : List HP} {w : World} (a0 : S44) (a1 : Int) {y : (Bool)} (hF : r06_Form a0 a1 = some y) (hS : SH r (L) w) :
  Ret Tryd.prog 31 #[.agg #[.int .u64 a0.f0, .int .i64 a0.f1, .int .i64 a0.f2, str a0.f3, .float .f64 a0.f4], .int .i64 a1] w fun v w' => v = .bool y ∧ SH r (L) w' := by
 refine enter Tryd.func31 rfl Tryd.ntmps31 [(0, .agg #[.int .u64 a0.f0, .int .i64 a0.f1, .int .i64 a0.f2, str a0.f3, .float .f64 a0.f4]), (1, .int .i64 a1)] rfl (by simp) ?_
 intro ac hA Qf hQ hQn
 unfold r06_Form at hF
 refine ws fun K101 hK101 => ?_
 refine x_box hA hS (fun g102 ac w hS hA => ?_) rfl rfl rfl rfl rfl rfl
 refine x_m hA rfl fun ac hA => ?_
 refine wn (hK101 _ _ ?_)
 refine ws fun K103 hK103 => ?_
 refine x_fab fa44_1 hA (fun ac hA => ?_) rfl rfl rfl rfl rfl
 refine x_ld Tryd.underlying3 (hS.cell 0 rfl 1 _ rfl) hA (fun ac hA => ?_) rfl rfl rfl rfl rfl rfl
 refine x_v hA (r_geI rfl (hA.ev rfl) (hA.ev rfl)) rfl fun ac hA => ?_
 refine x_m hA rfl fun ac hA => ?_
 refine bcase (b := decide (0 ≤ a0.f1)) (fun hb104 => ?_) fun hb104 => ?_
 ·replace hF := ift hb104 hF
  refine x_on hb104 hA ?_ rfl rfl rfl
  refine x_fab fa44_1 hA (fun ac hA => ?_) rfl rfl rfl rfl rfl
  refine x_on hb104 hA ?_ rfl rfl rfl
  refine x_ld Tryd.underlying3 (hS.cell 0 rfl 1 _ rfl) hA (fun ac hA => ?_) rfl rfl rfl rfl rfl rfl
  refine x_on hb104 hA ?_ rfl rfl rfl
  refine x_m hA rfl fun ac hA => ?_
  refine x_on hb104 hA ?_ rfl rfl rfl
  refine x_v hA (r_ltI rfl (hA.ev rfl) (hA.ev rfl)) rfl fun ac hA => ?_
  refine x_pickt hb104 hA (fun ac hA => ?_) rfl rfl rfl rfl rfl rfl
  refine x_m hA rfl fun ac hA => ?_
  refine bcase (b := decide (a0.f1 < a1)) (fun hb105 => ?_) fun hb105 => ?_
  ·replace hF := ift hb105 hF
   refine x_on hb105 hA ?_ rfl rfl rfl
   refine x_fab fa44_2 hA (fun ac hA => ?_) rfl rfl rfl rfl rfl
   refine x_on hb105 hA ?_ rfl rfl rfl
   refine x_ld Tryd.underlying2 (hS.cell 0 rfl 2 _ rfl) hA (fun ac hA => ?_) rfl rfl rfl rfl rfl rfl
   refine x_on hb105 hA ?_ rfl rfl rfl
   refine x_v hA (r_geI rfl (hA.ev rfl) (hA.ev rfl)) rfl fun ac hA => ?_
   refine x_pickt hb105 hA (fun ac hA => ?_) rfl rfl rfl rfl rfl rfl
   refine x_m hA rfl fun ac hA => ?_
   refine bcase (b := decide (-1099511627776 ≤ a0.f2)) (fun hb106 => ?_) fun hb106 => ?_
   ·replace hF := ift hb106 hF
    refine x_on hb106 hA ?_ rfl rfl rfl
    refine x_fab fa44_2 hA (fun ac hA => ?_) rfl rfl rfl rfl rfl
    refine x_on hb106 hA ?_ rfl rfl rfl
    refine x_ld Tryd.underlying2 (hS.cell 0 rfl 2 _ rfl) hA (fun ac hA => ?_) rfl rfl rfl rfl rfl rfl
    refine x_on hb106 hA ?_ rfl rfl rfl
    refine x_v hA (r_leI rfl (hA.ev rfl) (hA.ev rfl)) rfl fun ac hA => ?_
    refine x_pickt hb106 hA (fun ac hA => ?_) rfl rfl rfl rfl rfl rfl
    refine x_m hA rfl fun ac hA => ?_
    refine bcase (b := decide (a0.f2 ≤ 1099511627776)) (fun hb107 => ?_) fun hb107 => ?_
    ·replace hF := ift hb107 hF
     refine x_on hb107 hA ?_ rfl rfl rfl
     refine x_fab fa44_3 hA (fun ac hA => ?_) rfl rfl rfl rfl rfl
     refine x_on hb107 hA ?_ rfl rfl rfl
     refine x_ld Tryd.underlying9 (hS.cell 0 rfl 3 _ rfl) hA (fun ac hA => ?_) rfl rfl rfl rfl rfl rfl
     refine x_on hb107 hA ?_ rfl rfl rfl
     refine x_v hA (r_lenS Tryd.underlying9 rfl (hA.ev rfl)) rfl fun ac hA => ?_
     refine x_on hb107 hA ?_ rfl rfl rfl
     refine x_v hA (r_leI rfl (hA.ev rfl) (hA.ev rfl)) rfl fun ac hA => ?_
     refine x_pickt hb107 hA (fun ac hA => ?_) rfl rfl rfl rfl rfl rfl
     refine x_m hA rfl fun ac hA => ?_
     refine bcase (b := decide ((a0.f3.length : Int) ≤ 32)) (fun hb108 => ?_) fun hb108 => ?_
     ·replace hF := ift hb108 hF
      refine x_on hb108 hA ?_ rfl rfl rfl
      refine x_fab fa44_0 hA (fun ac hA => ?_) rfl rfl rfl rfl rfl
      refine x_on hb108 hA ?_ rfl rfl rfl
      refine x_ld Tryd.underlying31 (hS.cell 0 rfl 0 _ rfl) hA (fun ac hA => ?_) rfl rfl rfl rfl rfl rfl
      refine x_on hb108 hA ?_ rfl rfl rfl
      refine x_v hA (r_ltI rfl (hA.ev rfl) (hA.ev rfl)) rfl fun ac hA => ?_
      refine x_pickt hb108 hA (fun ac hA => ?_) rfl rfl rfl rfl rfl rfl
      refine x_m hA rfl fun ac hA => ?_
      refine wn (hK103 _ _ ?_)
      refine wp_ret ?_
      replace hS := hS.drop 0
      cases hF
      refine hQ _ _ ?_
      refine lv Tryd.results31 hA rfl ?_
      exact ⟨rfl, hS⟩
     replace hF := iff' hb108 hF
     refine x_off hb108 hA (fun ac hA => ?_) rfl rfl rfl rfl rfl
     refine x_off hb108 hA (fun ac hA => ?_) rfl rfl rfl rfl rfl
     refine x_off hb108 hA (fun ac hA => ?_) rfl rfl rfl rfl rfl
     refine x_pickf hb108 hA (fun ac hA => ?_) rfl rfl rfl rfl rfl rfl
     refine x_m hA rfl fun ac hA => ?_
     refine wn (hK103 _ _ ?_)
     refine wp_ret ?_
     replace hS := hS.drop 0
     cases hF
     refine hQ _ _ ?_
     refine lv Tryd.results31 hA rfl ?_
     exact ⟨rfl, hS⟩
    replace hF := iff' hb107 hF
    refine x_off hb107 hA (fun ac hA => ?_) rfl rfl rfl rfl rfl
    refine x_off hb107 hA (fun ac hA => ?_) rfl rfl rfl rfl rfl
    refine x_off hb107 hA (fun ac hA => ?_) rfl rfl rfl rfl rfl
    refine x_off hb107 hA (fun ac hA => ?_) rfl rfl rfl rfl rfl
    refine x_pickf hb107 hA (fun ac hA => ?_) rfl rfl rfl rfl rfl rfl
    refine x_m hA rfl fun ac hA => ?_
    refine x_off rfl hA (fun ac hA => ?_) rfl rfl rfl rfl rfl
    refine x_off rfl hA (fun ac hA => ?_) rfl rfl rfl rfl rfl
    refine x_off rfl hA (fun ac hA => ?_) rfl rfl rfl rfl rfl
    refine x_pickf rfl hA (fun ac hA => ?_) rfl rfl rfl rfl rfl rfl
    refine x_m hA rfl fun ac hA => ?_
    refine wn (hK103 _ _ ?_)
    refine wp_ret ?_
    replace hS := hS.drop 0
    cases hF
    refine hQ _ _ ?_
    refine lv Tryd.results31 hA rfl ?_
    exact ⟨rfl, hS⟩
   replace hF := iff' hb106 hF
   refine x_off hb106 hA (fun ac hA => ?_) rfl rfl rfl rfl rfl
   refine x_off hb106 hA (fun ac hA => ?_) rfl rfl rfl rfl rfl
   refine x_off hb106 hA (fun ac hA => ?_) rfl rfl rfl rfl rfl
   refine x_pickf hb106 hA (fun ac hA => ?_) rfl rfl rfl rfl rfl rfl
   refine x_m hA rfl fun ac hA => ?_
   refine x_off rfl hA (fun ac hA => ?_) rfl rfl rfl rfl rfl
   refine x_off rfl hA (fun ac hA => ?_) rfl rfl rfl rfl rfl
   refine x_off rfl hA (fun ac hA => ?_) rfl rfl rfl rfl rfl
   refine x_off rfl hA (fun ac hA => ?_) rfl rfl rfl rfl rfl
   refine x_pickf rfl hA (fun ac hA => ?_) rfl rfl rfl rfl rfl rfl
   refine x_m hA rfl fun ac hA => ?_
   refine x_off rfl hA (fun ac hA => ?_) rfl rfl rfl rfl rfl
   refine x_off rfl hA (fun ac hA => ?_) rfl rfl rfl rfl rfl
   refine x_off rfl hA (fun ac hA => ?_) rfl rfl rfl rfl rfl
   refine x_pickf rfl hA (fun ac hA => ?_) rfl rfl rfl rfl rfl rfl
   refine x_m hA rfl fun ac hA => ?_
   refine wn (hK103 _ _ ?_)
   refine wp_ret ?_
   replace hS := hS.drop 0
   cases hF
   refine hQ _ _ ?_
   refine lv Tryd.results31 hA rfl ?_
   exact ⟨rfl, hS⟩
  replace hF := iff' hb105 hF
  refine x_off hb105 hA (fun ac hA => ?_) rfl rfl rfl rfl rfl
  refine x_off hb105 hA (fun ac hA => ?_) rfl rfl rfl rfl rfl
  refine x_off hb105 hA (fun ac hA => ?_) rfl rfl rfl rfl rfl
  refine x_pickf hb105 hA (fun ac hA => ?_) rfl rfl rfl rfl rfl rfl
  refine x_m hA rfl fun ac hA => ?_
  refine x_off rfl hA (fun ac hA => ?_) rfl rfl rfl rfl rfl
  refine x_off rfl hA (fun ac hA => ?_) rfl rfl rfl rfl rfl
  refine x_off rfl hA (fun ac hA => ?_) rfl rfl rfl rfl rfl
  refine x_pickf rfl hA (fun ac hA => ?_) rfl rfl rfl rfl rfl rfl
  refine x_m hA rfl fun ac hA => ?_
  refine x_off rfl hA (fun ac hA => ?_) rfl rfl rfl rfl rfl
  refine x_off rfl hA (fun ac hA => ?_) rfl rfl rfl rfl rfl
  refine x_off rfl hA (fun ac hA => ?_) rfl rfl rfl rfl rfl
  refine x_off rfl hA (fun ac hA => ?_) rfl rfl rfl rfl rfl
  refine x_pickf rfl hA (fun ac hA => ?_) rfl rfl rfl rfl rfl rfl
  refine x_m hA rfl fun ac hA => ?_
  refine x_off rfl hA (fun ac hA => ?_) rfl rfl rfl rfl rfl
  refine x_off rfl hA (fun ac hA => ?_) rfl rfl rfl rfl rfl
  refine x_off rfl hA (fun ac hA => ?_) rfl rfl rfl rfl rfl
  refine x_pickf rfl hA (fun ac hA => ?_) rfl rfl rfl rfl rfl rfl
  refine x_m hA rfl fun ac hA => ?_
  refine wn (hK103 _ _ ?_)
  refine wp_ret ?_
  replace hS := hS.drop 0
  cases hF
  refine hQ _ _ ?_
  refine lv Tryd.results31 hA rfl ?_
  exact ⟨rfl, hS⟩
 replace hF := iff' hb104 hF
 refine x_off hb104 hA (fun ac hA => ?_) rfl rfl rfl rfl rfl
 refine x_off hb104 hA (fun ac hA => ?_) rfl rfl rfl rfl rfl
 refine x_off hb104 hA (fun ac hA => ?_) rfl rfl rfl rfl rfl
 refine x_off hb104 hA (fun ac hA => ?_) rfl rfl rfl rfl rfl
 refine x_pickf hb104 hA (fun ac hA => ?_) rfl rfl rfl rfl rfl rfl
 refine x_m hA rfl fun ac hA => ?_
 refine x_off rfl hA (fun ac hA => ?_) rfl rfl rfl rfl rfl
 refine x_off rfl hA (fun ac hA => ?_) rfl rfl rfl rfl rfl
 refine x_off rfl hA (fun ac hA => ?_) rfl rfl rfl rfl rfl
 refine x_pickf rfl hA (fun ac hA => ?_) rfl rfl rfl rfl rfl rfl
 refine x_m hA rfl fun ac hA => ?_
 refine x_off rfl hA (fun ac hA => ?_) rfl rfl rfl rfl rfl
 refine x_off rfl hA (fun ac hA => ?_) rfl rfl rfl rfl rfl
 refine x_off rfl hA (fun ac hA => ?_) rfl rfl rfl rfl rfl
 refine x_pickf rfl hA (fun ac hA => ?_) rfl rfl rfl rfl rfl rfl
 refine x_m hA rfl fun ac hA => ?_
 refine x_off rfl hA (fun ac hA => ?_) rfl rfl rfl rfl rfl
 refine x_off rfl hA (fun ac hA => ?_) rfl rfl rfl rfl rfl
 refine x_off rfl hA (fun ac hA => ?_) rfl rfl rfl rfl rfl
 refine x_off rfl hA (fun ac hA => ?_) rfl rfl rfl rfl rfl
 refine x_pickf rfl hA (fun ac hA => ?_) rfl rfl rfl rfl rfl rfl
 refine x_m hA rfl fun ac hA => ?_
 refine x_off rfl hA (fun ac hA => ?_) rfl rfl rfl rfl rfl
 refine x_off rfl hA (fun ac hA => ?_) rfl rfl rfl rfl rfl
 refine x_off rfl hA (fun ac hA => ?_) rfl rfl rfl rfl rfl
 refine x_pickf rfl hA (fun ac hA => ?_) rfl rfl rfl rfl rfl rfl
 refine x_m hA rfl fun ac hA => ?_
 refine wn (hK103 _ _ ?_)
 refine wp_ret ?_
 replace hS := hS.drop 0
 cases hF
 refine hQ _ _ ?_
 refine lv Tryd.results31 hA rfl ?_
 exact ⟨rfl, hS⟩
end Go.Proofs.YteodeedejjcmgaaDoor.M
namespace Go.Proofs.YteodeedejjcmgaaDoor.M
open Go Go.RowKit Go.Proofs.YteodeedejjcmgaaDoor.E
set_option linter.unusedVariables false
set_option linter.unusedSimpArgs false
noncomputable def event_Lay_b2 (a0 : (List Int)) (l16840 : (List Int)) : Option ((List Int)) :=
  (page_Lay a0 101 l16840).bind fun y16845 => (some y16845)
noncomputable def event_Lay_x1_2 (a0 : (List Int)) (l16913 : (List Int)) : Option ((List Int)) :=
  event_Lay_b2 a0 l16913
noncomputable def event_Lay_l1 (y16695 : ((List Int))) (y16700 : ((List Int))) (y16705 : ((List Int))) (y16710 : ((List Int))) (y16715 : ((List Int))) (l16883 : (List Int)) (x16887 : Int) : Option (((List Int) × Int) ⊕ (((List Int)))) :=
  if (decide (x16887 < ([y16695, y16700, y16705, y16710, y16715].length : Int))) = true then ((at_ [y16695, y16700, y16705, y16710, y16715] x16887).bind fun x16924 => ((column_Text l16883 (bts x16924)).bind fun y16931 => (ltt (IntKind.i64.wrap (x16887 + 1)) fun x16936 => (some (.inl (y16931, x16936)))))) else (some (.inr (l16883)))
noncomputable def event_Lay_b1 (a0 : (List Int)) (l16433 : (List Int)) (l16437 : (List Int)) (l16441 : (List Int)) (l16445 : (List (List UInt8))) (l16449 : (List Nat)) : Option ((List Int)) :=
  (column_Ints l16433).bind fun y16695 => ((column_Ints l16437).bind fun y16700 => ((column_Ints l16441).bind fun y16705 => ((column_Texts l16445).bind fun y16710 => ((column_Reals l16449).bind fun y16715 => ((loop (fun s => event_Lay_l1 y16695 y16700 y16705 y16710 y16715 s.1 s.2) ([], 0)).bind fun t => event_Lay_x1_2 a0 t)))))
noncomputable def event_Lay_x2_0 (a0 : (List Int)) (l20581 : (List Int)) (l20585 : (List Int)) (l20589 : (List Int)) (l20593 : (List (List UInt8))) (l20597 : (List Nat)) : Option ((List Int)) :=
  event_Lay_b1 a0 l20581 l20585 l20589 l20593 l20597
noncomputable def event_Lay_b3 (x18789 : Int) (l21919 : (List Int)) (l21923 : (List Int)) (l21927 : (List Int)) (l21931 : (List (List UInt8))) (l21935 : (List Nat)) : Option (((List Int) × (List Int) × (List Int) × (List (List UInt8)) × (List Nat) × Int) ⊕ (((List Int) × (List Int) × (List Int) × (List (List UInt8)) × (List Nat)))) :=
  ltt (IntKind.i64.wrap (x18789 + 1)) fun x21939 => (some (.inl (l21919, l21923, l21927, l21931, l21935, x21939)))
noncomputable def event_Lay_j1 (l18773 : (List Int)) (l18777 : (List Int)) (l18781 : (List (List UInt8))) (l18785 : (List Nat)) (x18789 : Int) (x21942 : S44) (l22139 : (List Int)) : Option (((List Int) × (List Int) × (List Int) × (List (List UInt8)) × (List Nat) × Int) ⊕ (((List Int) × (List Int) × (List Int) × (List (List UInt8)) × (List Nat)))) :=
  chk (l18781.length + [x21942.f3].length ≤ 140737488355328 / 16) (chk (l18785.length + [x21942.f4].length ≤ 140737488355328 / 8) (event_Lay_b3 x18789 l22139 (l18773 ++ [x21942.f1]) (l18777 ++ [x21942.f2]) (l18781 ++ [x21942.f3]) (l18785 ++ [x21942.f4])))
noncomputable def event_Lay_l2 (a1 : (List S44)) (l18769 : (List Int)) (l18773 : (List Int)) (l18777 : (List Int)) (l18781 : (List (List UInt8))) (l18785 : (List Nat)) (x18789 : Int) : Option (((List Int) × (List Int) × (List Int) × (List (List UInt8)) × (List Nat) × Int) ⊕ (((List Int) × (List Int) × (List Int) × (List (List UInt8)) × (List Nat)))) :=
  if (decide (x18789 < (a1.length : Int))) = true then ((at_ a1 x18789).bind fun x21942 => (ltt (IntKind.i64.wrap x21942.f0) fun x22178 => (chk (l18769.length + [x22178].length ≤ 140737488355328 / 8) (chk (l18773.length + [x21942.f1].length ≤ 140737488355328 / 8) (chk (l18777.length + [x21942.f2].length ≤ 140737488355328 / 8) (event_Lay_j1 l18773 l18777 l18781 l18785 x18789 x21942 (l18769 ++ [x22178]))))))) else (some (.inr (l18769, l18773, l18777, l18781, l18785)))
noncomputable def event_Lay (a0 : (List Int)) (a1 : (List S44)) : Option ((List Int)) :=
  (loop (fun s => event_Lay_l2 a1 s.1 s.2.1 s.2.2.1 s.2.2.2.1 s.2.2.2.2.1 s.2.2.2.2.2) ([], [], [], [], [], 0)).bind fun t => event_Lay_x2_0 a0 t.1 t.2.1 t.2.2.1 t.2.2.2.1 t.2.2.2.2
end Go.Proofs.YteodeedejjcmgaaDoor.M
namespace Go.Proofs.YteodeedejjcmgaaDoor.M
open Go Go.RowKit Go.Proofs.YteodeedejjcmgaaDoor.E
set_option linter.unusedVariables false
set_option maxRecDepth 100000
set_option maxHeartbeats 4000000
set_option linter.unusedSimpArgs false
theorem F_event_Lay {r : World} {L : List HP} {w : World} {Z : Nat → Prop} {wz : World} (a0 : (List Int)) (a1 : (List S44)) (A0 : Option Addr) (n0 : Nat) (c0 : Nat) (A1 : Option Addr) (n1 : Nat) (c1 : Nat) {y : ((List Int))} (hF : event_Lay a0 a1 = some y) (ha1 : Imm Z wz k44 A1 n1 c1 a1) (hG0 : Imm Z wz (kI .u32) (some ⟨0, 0, none⟩) 16 16 gl_page_table) (hS : SH r (own (kI .u8) 5 A0 n0 c0 a0 :: zone Z wz :: L) w) :
  Ret Tryd.prog 26 #[.slice A0 n0 c0, .slice A1 n1 c1] w fun v w' => ∃ (Z' : Nat → Prop) (wz' : World) (B0 : Option Addr) (m0 : Nat) (d0 : Nat), v = .slice B0 m0 d0 ∧ Sub Z wz Z' wz' ∧ SH r (own (kI .u8) 5 B0 m0 d0 y :: zone Z' wz' :: L) w' := by
 refine enter Tryd.func26 rfl Tryd.ntmps26 [(0, .slice A0 n0 c0), (1, .slice A1 n1 c1)] rfl (by simp) ?_
 intro ac hA Qf hQ hQn
 unfold event_Lay at hF
 refine ws fun K101 hK101 => ?_
 refine x_m hA rfl fun ac hA => ?_
 refine wn (hK101 _ _ ?_)
 refine ws fun K102 hK102 => ?_
 refine x_m hA rfl fun ac hA => ?_
 refine x_m hA rfl fun ac hA => ?_
 refine x_m hA rfl fun ac hA => ?_
 refine wn (hK102 _ _ ?_)
 refine ws fun K103 hK103 => ?_
 refine x_m hA rfl fun ac hA => ?_
 refine wn (hK103 _ _ ?_)
 refine ws fun K104 hK104 => ?_
 refine x_m hA rfl fun ac hA => ?_
 refine wn (hK104 _ _ ?_)
 refine wp_seq_k fun K105 hK105 => ?_
 refine ws fun K10997 hK10997 => ?_
 refine x_m hA rfl fun ac hA => ?_
 refine x_len Tryd.underlying22 (hS.imm 1 ha1 rfl).2.1 hA (fun ac hA => ?_) rfl rfl rfl rfl rfl
 refine x_m hA rfl fun ac hA => ?_
 refine wn (hK10997 _ _ ?_)
 refine wp_block_k fun Kx10998 hKx10998 => ?_
 have hb1 : ∀ (l16433 : (List Int)) (l16437 : (List Int)) (l16441 : (List Int)) (l16445 : (List (List UInt8))) (l16449 : (List Nat)), event_Lay_b1 a0 l16433 l16437 l16441 l16445 l16449 = some y → ∀ (A16434 : Option Addr) (n16435 : Nat) (c16436 : Nat) (A16438 : Option Addr) (n16439 : Nat) (c16440 : Nat) (A16442 : Option Addr) (n16443 : Nat) (c16444 : Nat) (A16446 : Option Addr) (n16447 : Nat) (c16448 : Nat) (A16450 : Option Addr) (n16451 : Nat) (c16452 : Nat) (ac : Act) (w : World), FR 72 [] ac [(0, .slice A0 n0 c0), (5, .slice A16434 n16435 c16436), (6, .slice A16438 n16439 c16440), (7, .slice A16442 n16443 c16444), (8, .slice A16446 n16447 c16448), (9, .slice A16450 n16451 c16452)] → SH r (own (kI .u8) 5 A0 n0 c0 a0 :: own (kI .i64) 2 A16434 n16435 c16436 l16433 :: own (kI .i64) 2 A16438 n16439 c16440 l16437 :: own (kI .i64) 2 A16442 n16443 c16444 l16441 :: own kS 9 A16446 n16447 c16448 l16445 :: own kF 42 A16450 n16451 c16452 l16449 :: zone Z wz :: L) w → Kx10998 ac w := by
  intro l16433 l16437 l16441 l16445 l16449 hF A16434 n16435 c16436 A16438 n16439 c16440 A16442 n16443 c16444 A16446 n16447 c16448 A16450 n16451 c16452 ac w hA hS
  unfold event_Lay_b1 at hF
  refine hKx10998 _ _ ?_
  refine hK105 _ _ ?_
  refine ws fun K16453 hK16453 => ?_
  refine x_m hA rfl fun ac hA => ?_
  refine wn (hK16453 _ _ ?_)
  refine wp_seq_k fun K16454 hK16454 => ?_
  refine ws fun K16694 hK16694 => ?_
  refine x_m hA rfl fun ac hA => ?_
  obtain ⟨y16695, h16696, hF⟩ := bnd hF
  refine x_call en45 hA (F_column_Ints (L := own (kI .u8) 5 A0 n0 c0 a0 :: own (kI .i64) 2 A16434 n16435 c16436 l16433 :: own (kI .i64) 2 A16438 n16439 c16440 l16437 :: own (kI .i64) 2 A16442 n16443 c16444 l16441 :: own kS 9 A16446 n16447 c16448 l16445 :: own kF 42 A16450 n16451 c16452 l16449 :: zone Z wz :: L) l16433 A16434 n16435 c16436 h16696 (RdL.own 1 rfl (hS.dropN 0)) hS) (fun v ac w hR hA => ?_) rfl rfl rfl rfl rfl
  obtain ⟨B16697, m16698, d16699, rfl, hS⟩ := hR
  refine x_m hA rfl fun ac hA => ?_
  obtain ⟨y16700, h16701, hF⟩ := bnd hF
  refine x_call en45 hA (F_column_Ints (L := own (kI .u8) 5 B16697 m16698 d16699 y16695 :: own (kI .u8) 5 A0 n0 c0 a0 :: own (kI .i64) 2 A16434 n16435 c16436 l16433 :: own (kI .i64) 2 A16438 n16439 c16440 l16437 :: own (kI .i64) 2 A16442 n16443 c16444 l16441 :: own kS 9 A16446 n16447 c16448 l16445 :: own kF 42 A16450 n16451 c16452 l16449 :: zone Z wz :: L) l16437 A16438 n16439 c16440 h16701 (RdL.own 3 rfl (hS.dropN 0)) hS) (fun v ac w hR hA => ?_) rfl rfl rfl rfl rfl
  obtain ⟨B16702, m16703, d16704, rfl, hS⟩ := hR
  refine x_m hA rfl fun ac hA => ?_
  obtain ⟨y16705, h16706, hF⟩ := bnd hF
  refine x_call en45 hA (F_column_Ints (L := own (kI .u8) 5 B16702 m16703 d16704 y16700 :: own (kI .u8) 5 B16697 m16698 d16699 y16695 :: own (kI .u8) 5 A0 n0 c0 a0 :: own (kI .i64) 2 A16434 n16435 c16436 l16433 :: own (kI .i64) 2 A16438 n16439 c16440 l16437 :: own (kI .i64) 2 A16442 n16443 c16444 l16441 :: own kS 9 A16446 n16447 c16448 l16445 :: own kF 42 A16450 n16451 c16452 l16449 :: zone Z wz :: L) l16441 A16442 n16443 c16444 h16706 (RdL.own 5 rfl (hS.dropN 0)) hS) (fun v ac w hR hA => ?_) rfl rfl rfl rfl rfl
  obtain ⟨B16707, m16708, d16709, rfl, hS⟩ := hR
  refine x_m hA rfl fun ac hA => ?_
  obtain ⟨y16710, h16711, hF⟩ := bnd hF
  refine x_call en46 hA (F_column_Texts (L := own (kI .u8) 5 B16707 m16708 d16709 y16705 :: own (kI .u8) 5 B16702 m16703 d16704 y16700 :: own (kI .u8) 5 B16697 m16698 d16699 y16695 :: own (kI .u8) 5 A0 n0 c0 a0 :: own (kI .i64) 2 A16434 n16435 c16436 l16433 :: own (kI .i64) 2 A16438 n16439 c16440 l16437 :: own (kI .i64) 2 A16442 n16443 c16444 l16441 :: own kS 9 A16446 n16447 c16448 l16445 :: own kF 42 A16450 n16451 c16452 l16449 :: zone Z wz :: L) l16445 A16446 n16447 c16448 h16711 (RdL.own 7 rfl (hS.dropN 0)) hS) (fun v ac w hR hA => ?_) rfl rfl rfl rfl rfl
  obtain ⟨B16712, m16713, d16714, rfl, hS⟩ := hR
  refine x_m hA rfl fun ac hA => ?_
  obtain ⟨y16715, h16716, hF⟩ := bnd hF
  refine x_call en47 hA (F_column_Reals (L := own (kI .u8) 5 B16712 m16713 d16714 y16710 :: own (kI .u8) 5 B16707 m16708 d16709 y16705 :: own (kI .u8) 5 B16702 m16703 d16704 y16700 :: own (kI .u8) 5 B16697 m16698 d16699 y16695 :: own (kI .u8) 5 A0 n0 c0 a0 :: own (kI .i64) 2 A16434 n16435 c16436 l16433 :: own (kI .i64) 2 A16438 n16439 c16440 l16437 :: own (kI .i64) 2 A16442 n16443 c16444 l16441 :: own kS 9 A16446 n16447 c16448 l16445 :: own kF 42 A16450 n16451 c16452 l16449 :: zone Z wz :: L) l16449 A16450 n16451 c16452 h16716 (RdL.own 9 rfl (hS.dropN 0)) hS) (fun v ac w hR hA => ?_) rfl rfl rfl rfl rfl
  obtain ⟨B16717, m16718, d16719, rfl, hS⟩ := hR
  replace hS := hS.pk 11
  replace hS := hS.pk 5
  obtain ⟨Z16720, wz16721, hS, h16722, sb16723⟩ := SH.freeze (n := m16698) (c := d16699) (A := B16697) hS
  replace hS := hS.pk 0
  replace hS := hS.pk 4
  obtain ⟨Z16724, wz16725, hS, h16726, sb16727⟩ := SH.freeze (n := m16703) (c := d16704) (A := B16702) hS
  have h16728 := Imm.sub h16722 sb16727
  replace hS := hS.pk 0
  replace hS := hS.pk 3
  obtain ⟨Z16729, wz16730, hS, h16731, sb16732⟩ := SH.freeze (n := m16708) (c := d16709) (A := B16707) hS
  have h16733 := Imm.sub h16728 sb16732
  have h16734 := Imm.sub h16726 sb16732
  replace hS := hS.pk 0
  replace hS := hS.pk 2
  obtain ⟨Z16735, wz16736, hS, h16737, sb16738⟩ := SH.freeze (n := m16713) (c := d16714) (A := B16712) hS
  have h16739 := Imm.sub h16733 sb16738
  have h16740 := Imm.sub h16734 sb16738
  have h16741 := Imm.sub h16731 sb16738
  replace hS := hS.pk 0
  replace hS := hS.pk 1
  obtain ⟨Z16742, wz16743, hS, h16744, sb16745⟩ := SH.freeze (n := m16718) (c := d16719) (A := B16717) hS
  have h16746 := Imm.sub h16739 sb16745
  have h16747 := Imm.sub h16740 sb16745
  have h16748 := Imm.sub h16741 sb16745
  have h16749 := Imm.sub h16737 sb16745
  refine x_bsl (d := (kM Z16742 wz16743 (kI .u8))) (e := 24) (ps := #[(0, .slice B16697 m16698 d16699), (1, .slice B16702 m16703 d16704), (2, .slice B16707 m16708 d16709), (3, .slice B16712 m16713 d16714), (4, .slice B16717 m16718 d16719)]) (cells := [.slice B16697 m16698 d16699, .slice B16702 m16703 d16704, .slice B16707 m16708 d16709, .slice B16712 m16713 d16714, .slice B16717 m16718 d16719]) (xs := [y16695, y16700, y16705, y16710, y16715]) (fun w => by kernel_rfl) rfl ⟨[.slice B16697 m16698 d16699], _, rfl, ⟨_, _, _, rfl, h16746⟩, ⟨[.slice B16702 m16703 d16704], _, rfl, ⟨_, _, _, rfl, h16747⟩, ⟨[.slice B16707 m16708 d16709], _, rfl, ⟨_, _, _, rfl, h16748⟩, ⟨[.slice B16712 m16713 d16714], _, rfl, ⟨_, _, _, rfl, h16749⟩, ⟨[.slice B16717 m16718 d16719], _, rfl, ⟨_, _, _, rfl, h16744⟩, rfl⟩⟩⟩⟩⟩ hA hS (fun g16750 ac w hS hA => ?_) rfl rfl rfl rfl rfl rfl
  refine x_len Tryd.underlying96 (hS.rd 0 rfl).2.1 hA (fun ac hA => ?_) rfl rfl rfl rfl rfl
  refine x_m hA rfl fun ac hA => ?_
  refine wn (hK16694 _ _ ?_)
  refine wp_block_k fun Kx16751 hKx16751 => ?_
  have hb2 : ∀ (l16840 : (List Int)), event_Lay_b2 a0 l16840 = some y → ∀ (A16841 : Option Addr) (n16842 : Nat) (c16843 : Nat) (ac : Act) (w : World), FR 72 [] ac [(0, .slice A0 n0 c0), (12, .slice A16841 n16842 c16843)] → SH r (own (kI .u8) 5 A0 n0 c0 a0 :: own (kI .u8) 5 A16841 n16842 c16843 l16840 :: zone Z16742 wz16743 :: L) w → Kx16751 ac w := by
   intro l16840 hF A16841 n16842 c16843 ac w hA hS
   unfold event_Lay_b2 at hF
   refine hKx16751 _ _ ?_
   refine hK16454 _ _ ?_
   refine ws fun K16844 hK16844 => ?_
   refine x_m hA rfl fun ac hA => ?_
   refine x_m hA rfl fun ac hA => ?_
   obtain ⟨y16845, h16846, hF⟩ := bnd hF
   refine x_call en30 hA (F_page_Lay (L := own (kI .u8) 5 A16841 n16842 c16843 l16840 :: zone Z16742 wz16743 :: L) a0 101 l16840 A0 n0 c0 A16841 n16842 c16843 h16846 1 rfl (RdL.own 0 rfl (hS.dropN 1)) (Imm.sub hG0 (Sub.trans (Sub.trans (Sub.trans (Sub.trans sb16723 sb16727) sb16732) sb16738) sb16745)) hS) (fun v ac w hR hA => ?_) rfl rfl rfl rfl rfl
   obtain ⟨B16847, m16848, d16849, rfl, hS⟩ := hR
   refine x_m hA rfl fun ac hA => ?_
   refine wn (hK16844 _ _ ?_)
   refine wp_ret ?_
   replace hS := hS.drop 1
   replace hS := hS.pk 1
   replace hS := hS.pk 1
   cases hF
   refine hQ _ _ ?_
   refine lv Tryd.results26 hA rfl ?_
   exact ⟨Z16742, wz16743, B16847, m16848, d16849, rfl, (Sub.trans (Sub.trans (Sub.trans (Sub.trans sb16723 sb16727) sb16732) sb16738) sb16745), hS⟩
  obtain ⟨t16916, hl16916, hF⟩ := bnd hF
  have hx16916_2 : ∀ (l16913 : (List Int)), (l16913) = t16916 → ∀ (A16914 : Option Addr) (n16915 : Nat) (c16916 : Nat) (ac : Act) (w : World), FR 72 [] ac [(0, .slice A0 n0 c0), (12, .slice A16914 n16915 c16916)] → SH r (own (kI .u8) 5 A0 n0 c0 a0 :: own (kI .u8) 5 A16914 n16915 c16916 l16913 :: zone Z16742 wz16743 :: L) w → Kx16751 ac w := by
   intro l16913 ht A16914 n16915 c16916 ac w hA hS
   subst ht
   replace hF : event_Lay_x1_2 a0 l16913 = some y := hF
   unfold event_Lay_x1_2 at hF
   exact hb2 l16913 hF A16914 n16915 c16916 ac w (hA.sub _ rfl) hS
  replace hS := SH.nil_own (d := (kI .u8)) (e := 5) hS
  replace hS := hS.drop 4
  replace hS := hS.drop 4
  replace hS := hS.drop 4
  replace hS := hS.drop 4
  replace hS := hS.drop 4
  replace hS := hS.pk 2
  replace hS := hS.pk 2
  replace hS := hS.pk 2
  replace hS := hS.pk 3
  refine wp_loop_fn hl16916 (fun s ac w => ∃ (A16884 : Option Addr) (n16885 : Nat) (c16886 : Nat), FR 72 [] ac [(0, .slice A0 n0 c0), (12, .slice A16884 n16885 c16886), (58, .slice (some ⟨g16750, 0, none⟩) 5 5), (59, .int .i64 ([y16695, y16700, y16705, y16710, y16715].length : Int)), (60, .int .i64 s.2)] ∧ SH r (own (kI .u8) 5 A0 n0 c0 a0 :: own (kI .u8) 5 A16884 n16885 c16886 s.1 :: own (kM Z16742 wz16743 (kI .u8)) 24 (some ⟨g16750, 0, none⟩) 5 5 [y16695, y16700, y16705, y16710, y16715] :: zone Z16742 wz16743 :: L) w) ⟨none, 0, 0, hA.sub _ rfl, hS⟩ ?_
  intro N16916 s16916 o16916 hF N16916_ T16916_ ac w hLab
  obtain ⟨l16883, x16887⟩ := s16916
  replace hF : event_Lay_l1 y16695 y16700 y16705 y16710 y16715 l16883 x16887 = some o16916 := hF
  unfold event_Lay_l1 at hF
  try dsimp only at hLab
  obtain ⟨A16884, n16885, c16886, hA, hS⟩ := hLab
  refine ws fun K16918 hK16918 => ?_
  refine x_v hA (r_ltI rfl (hA.ev rfl) (hA.ev rfl)) rfl fun ac hA => ?_
  refine wn (hK16918 _ _ ?_)
  refine wp_seq_k fun K16919 hK16919 => ?_
  refine c_if hA rfl (fun hb16920 => ?_) fun hb16920 => ?_
  ·replace hF := ift hb16920 hF
   refine wp_skip ?_
   refine hK16919 _ _ ?_
   refine wp_seq_k fun K16921 hK16921 => ?_
   refine wp_block_k fun Kx16922 hKx16922 => ?_
   refine ws fun K16923 hK16923 => ?_
   obtain ⟨x16924, h16925, hF⟩ := bnd hF
   refine x_ia Tryd.underlying96 sz24 (hS.rd 2 rfl) h16925 hA (fun ac hA => ?_) rfl rfl rfl rfl rfl rfl
   obtain ⟨cs, hV, hc16926⟩ := el (hS.rd 2 rfl) h16925
   obtain ⟨A16927, n16928, c16929, rfl, h16930⟩ := hV
   refine x_ld Tryd.underlying24 (hc16926 0 _ rfl) hA (fun ac hA => ?_) rfl rfl rfl rfl rfl rfl
   refine x_m hA rfl fun ac hA => ?_
   refine wn (hK16923 _ _ ?_)
   refine wp_reg ?_
   refine x_m hA rfl fun ac hA => ?_
   refine x_m hA rfl fun ac hA => ?_
   refine x_b2s Tryd.underlying24 Tryd.underlying5 Tryd.underlying9 (hS.imm 3 h16930 rfl) hA (fun ac hA => ?_) rfl rfl rfl rfl rfl
   replace hS := hS.pk 1
   obtain ⟨y16931, h16932, hF⟩ := bnd hF
   refine x_call en29 hA (F_column_Text (L := own (kI .u8) 5 A0 n0 c0 a0 :: own (kM Z16742 wz16743 (kI .u8)) 24 (some ⟨g16750, 0, none⟩) 5 5 [y16695, y16700, y16705, y16710, y16715] :: zone Z16742 wz16743 :: L) l16883 (bts x16924) A16884 n16885 c16886 h16932 hS) (fun v ac w hR hA => ?_) rfl rfl rfl rfl rfl
   obtain ⟨B16933, m16934, d16935, rfl, hS⟩ := hR
   refine x_m hA rfl fun ac hA => ?_
   refine wpList_nil ?_
   refine hKx16922 _ _ ?_
   refine hK16921 _ _ ?_
   refine wp_reg ?_
   obtain ⟨x16936, h16937, hF⟩ := ltt_ hF
   refine x_v (v := .int .i64 x16936) hA (rv_i h16937 (r_add rfl (hA.ev rfl) (hA.ev rfl))) rfl fun ac hA => ?_
   refine x_m hA rfl fun ac hA => ?_
   refine wpList_nil ?_
   replace hS := hS.pk 3
   replace hS := hS.pk 3
   replace hS := hS.pk 2
   replace hS := hS.pk 3
   cases hF
   exact ⟨_, N16916_ _ rfl, B16933, m16934, d16935, hA.sub _ rfl, hS⟩
  replace hF := iff' hb16920 hF
  refine wp_exit ?_
  replace hS := hS.drop 2
  cases hF
  exact hx16916_2 l16883 (T16916_ _ rfl) A16884 n16885 c16886 ac w (hA.sub _ rfl) hS
 obtain ⟨t20600, hl20600, hF⟩ := bnd hF
 have hx20600_0 : ∀ (l20581 : (List Int)) (l20585 : (List Int)) (l20589 : (List Int)) (l20593 : (List (List UInt8))) (l20597 : (List Nat)), (l20581, l20585, l20589, l20593, l20597) = t20600 → ∀ (A20582 : Option Addr) (n20583 : Nat) (c20584 : Nat) (A20586 : Option Addr) (n20587 : Nat) (c20588 : Nat) (A20590 : Option Addr) (n20591 : Nat) (c20592 : Nat) (A20594 : Option Addr) (n20595 : Nat) (c20596 : Nat) (A20598 : Option Addr) (n20599 : Nat) (c20600 : Nat) (ac : Act) (w : World), FR 72 [] ac [(0, .slice A0 n0 c0), (5, .slice A20582 n20583 c20584), (6, .slice A20586 n20587 c20588), (7, .slice A20590 n20591 c20592), (8, .slice A20594 n20595 c20596), (9, .slice A20598 n20599 c20600)] → SH r (own (kI .u8) 5 A0 n0 c0 a0 :: own (kI .i64) 2 A20582 n20583 c20584 l20581 :: own (kI .i64) 2 A20586 n20587 c20588 l20585 :: own (kI .i64) 2 A20590 n20591 c20592 l20589 :: own kS 9 A20594 n20595 c20596 l20593 :: own kF 42 A20598 n20599 c20600 l20597 :: zone Z wz :: L) w → Kx10998 ac w := by
  intro l20581 l20585 l20589 l20593 l20597 ht A20582 n20583 c20584 A20586 n20587 c20588 A20590 n20591 c20592 A20594 n20595 c20596 A20598 n20599 c20600 ac w hA hS
  subst ht
  replace hF : event_Lay_x2_0 a0 l20581 l20585 l20589 l20593 l20597 = some y := hF
  unfold event_Lay_x2_0 at hF
  exact hb1 l20581 l20585 l20589 l20593 l20597 hF A20582 n20583 c20584 A20586 n20587 c20588 A20590 n20591 c20592 A20594 n20595 c20596 A20598 n20599 c20600 ac w (hA.sub _ rfl) hS
 replace hS := SH.nil_own (d := (kI .i64)) (e := 2) hS
 replace hS := SH.nil_own (d := (kI .i64)) (e := 2) hS
 replace hS := SH.nil_own (d := (kI .i64)) (e := 2) hS
 replace hS := SH.nil_own (d := kS) (e := 9) hS
 replace hS := SH.nil_own (d := kF) (e := 42) hS
 replace hS := hS.pk 6
 replace hS := hS.pk 1
 replace hS := hS.pk 2
 replace hS := hS.pk 3
 replace hS := hS.pk 4
 replace hS := hS.pk 5
 replace hS := hS.pk 6
 refine wp_loop_fn hl20600 (fun s ac w => ∃ (A18770 : Option Addr) (n18771 : Nat) (c18772 : Nat) (A18774 : Option Addr) (n18775 : Nat) (c18776 : Nat) (A18778 : Option Addr) (n18779 : Nat) (c18780 : Nat) (A18782 : Option Addr) (n18783 : Nat) (c18784 : Nat) (A18786 : Option Addr) (n18787 : Nat) (c18788 : Nat), FR 72 [] ac [(0, .slice A0 n0 c0), (5, .slice A18770 n18771 c18772), (6, .slice A18774 n18775 c18776), (7, .slice A18778 n18779 c18780), (8, .slice A18782 n18783 c18784), (9, .slice A18786 n18787 c18788), (15, .slice A1 n1 c1), (16, .int .i64 (a1.length : Int)), (17, .int .i64 s.2.2.2.2.2)] ∧ SH r (own (kI .u8) 5 A0 n0 c0 a0 :: own (kI .i64) 2 A18770 n18771 c18772 s.1 :: own (kI .i64) 2 A18774 n18775 c18776 s.2.1 :: own (kI .i64) 2 A18778 n18779 c18780 s.2.2.1 :: own kS 9 A18782 n18783 c18784 s.2.2.2.1 :: own kF 42 A18786 n18787 c18788 s.2.2.2.2.1 :: zone Z wz :: L) w) ⟨none, 0, 0, none, 0, 0, none, 0, 0, none, 0, 0, none, 0, 0, hA.sub _ rfl, hS⟩ ?_
 intro N20600 s20600 o20600 hF N20600_ T20600_ ac w hLab
 obtain ⟨l18769, l18773, l18777, l18781, l18785, x18789⟩ := s20600
 replace hF : event_Lay_l2 a1 l18769 l18773 l18777 l18781 l18785 x18789 = some o20600 := hF
 unfold event_Lay_l2 at hF
 try dsimp only at hLab
 obtain ⟨A18770, n18771, c18772, A18774, n18775, c18776, A18778, n18779, c18780, A18782, n18783, c18784, A18786, n18787, c18788, hA, hS⟩ := hLab
 refine ws fun K20602 hK20602 => ?_
 refine x_v hA (r_ltI rfl (hA.ev rfl) (hA.ev rfl)) rfl fun ac hA => ?_
 refine wn (hK20602 _ _ ?_)
 refine wp_seq_k fun K20603 hK20603 => ?_
 refine c_if hA rfl (fun hb20604 => ?_) fun hb20604 => ?_
 ·replace hF := ift hb20604 hF
  refine wp_skip ?_
  refine hK20603 _ _ ?_
  refine wp_seq_k fun K20605 hK20605 => ?_
  refine wp_block_k fun Kx21488 hKx21488 => ?_
  have hb3 : ∀ (l21919 : (List Int)) (l21923 : (List Int)) (l21927 : (List Int)) (l21931 : (List (List UInt8))) (l21935 : (List Nat)), event_Lay_b3 x18789 l21919 l21923 l21927 l21931 l21935 = some o20600 → ∀ (A21920 : Option Addr) (n21921 : Nat) (c21922 : Nat) (A21924 : Option Addr) (n21925 : Nat) (c21926 : Nat) (A21928 : Option Addr) (n21929 : Nat) (c21930 : Nat) (A21932 : Option Addr) (n21933 : Nat) (c21934 : Nat) (A21936 : Option Addr) (n21937 : Nat) (c21938 : Nat) (ac : Act) (w : World), FR 72 [] ac [(0, .slice A0 n0 c0), (5, .slice A21920 n21921 c21922), (6, .slice A21924 n21925 c21926), (7, .slice A21928 n21929 c21930), (8, .slice A21932 n21933 c21934), (9, .slice A21936 n21937 c21938), (15, .slice A1 n1 c1), (16, .int .i64 (a1.length : Int)), (17, .int .i64 x18789)] → SH r (own (kI .u8) 5 A0 n0 c0 a0 :: own (kI .i64) 2 A21920 n21921 c21922 l21919 :: own (kI .i64) 2 A21924 n21925 c21926 l21923 :: own (kI .i64) 2 A21928 n21929 c21930 l21927 :: own kS 9 A21932 n21933 c21934 l21931 :: own kF 42 A21936 n21937 c21938 l21935 :: zone Z wz :: L) w → Kx21488 ac w := by
   intro l21919 l21923 l21927 l21931 l21935 hF A21920 n21921 c21922 A21924 n21925 c21926 A21928 n21929 c21930 A21932 n21933 c21934 A21936 n21937 c21938 ac w hA hS
   unfold event_Lay_b3 at hF
   refine hKx21488 _ _ ?_
   refine hK20605 _ _ ?_
   refine wp_reg ?_
   obtain ⟨x21939, h21940, hF⟩ := ltt_ hF
   refine x_v (v := .int .i64 x21939) hA (rv_i h21940 (r_add rfl (hA.ev rfl) (hA.ev rfl))) rfl fun ac hA => ?_
   refine x_m hA rfl fun ac hA => ?_
   refine wpList_nil ?_
   cases hF
   exact ⟨_, N20600_ _ rfl, A21920, n21921, c21922, A21924, n21925, c21926, A21928, n21929, c21930, A21932, n21933, c21934, A21936, n21937, c21938, hA.sub _ rfl, hS⟩
  refine ws fun K21941 hK21941 => ?_
  obtain ⟨x21942, h21943, hF⟩ := bnd hF
  refine x_ia Tryd.underlying22 sz44 (hS.imm 6 ha1 rfl) h21943 hA (fun ac hA => ?_) rfl rfl rfl rfl rfl rfl
  obtain ⟨cs, hV, hc21944⟩ := el (hS.imm 6 ha1 rfl) h21943
  obtain rfl := hV
  refine x_lda (cs := [.int .u64 x21942.f0, .int .i64 x21942.f1, .int .i64 x21942.f2, str x21942.f3, .float .f64 x21942.f4]) Tryd.underlying44 sz44 (fun j u h => by rw [ea_add]; exact hc21944 _ _ h) hA (fun ac hA => ?_) rfl rfl rfl rfl rfl rfl
  refine x_alloc (cs := [.int .u64 0, .int .i64 0, .int .i64 0, str [], .float .f64 0]) zr44 hA hS (fun g21945 ac w hS hA => ?_) rfl rfl rfl rfl rfl
  refine x_stb 0 sz44 hA hS rfl (fun  ac w hS hA => ?_) rfl rfl rfl rfl rfl rfl rfl rfl
  refine wn (hK21941 _ _ ?_)
  refine wp_seq_k fun K21946 hK21946 => ?_
  have hj1 : ∀ (l22139 : (List Int)), event_Lay_j1 l18773 l18777 l18781 l18785 x18789 x21942 l22139 = some o20600 → ∀ (A22140 : Option Addr) (n22141 : Nat) (c22142 : Nat) (A22143 : Option Addr) (n22144 : Nat) (c22145 : Nat) (A22146 : Option Addr) (n22147 : Nat) (c22148 : Nat) (ac : Act) (w : World), FR 72 [] ac [(0, .slice A0 n0 c0), (5, .slice A22140 n22141 c22142), (6, .slice A22143 n22144 c22145), (7, .slice A22146 n22147 c22148), (8, .slice A18782 n18783 c18784), (9, .slice A18786 n18787 c18788), (11, .pointer (some ⟨g21945, 0, none⟩)), (15, .slice A1 n1 c1), (16, .int .i64 (a1.length : Int)), (17, .int .i64 x18789)] → SH r (blk g21945 44 [.int .u64 x21942.f0, .int .i64 x21942.f1, .int .i64 x21942.f2, str x21942.f3, .float .f64 x21942.f4] :: own (kI .u8) 5 A0 n0 c0 a0 :: own (kI .i64) 2 A22140 n22141 c22142 l22139 :: own (kI .i64) 2 A22143 n22144 c22145 (l18773 ++ [x21942.f1]) :: own (kI .i64) 2 A22146 n22147 c22148 (l18777 ++ [x21942.f2]) :: own kS 9 A18782 n18783 c18784 l18781 :: own kF 42 A18786 n18787 c18788 l18785 :: zone Z wz :: L) w → K21946 ac w := by
   intro l22139 hF A22140 n22141 c22142 A22143 n22144 c22145 A22146 n22147 c22148 ac w hA hS
   unfold event_Lay_j1 at hF
   refine hK21946 _ _ ?_
   refine wp_draw [0, 0, 2, 6, 15, 0, 0, 64, 192, 511, 1023, 2047] [3, 4, 8, 9] rfl hA hS (by kernel_rfl) (by kernel_rfl) (by kernel_rfl) (by kernel_rfl) fun w hS => ?_
   refine ⟨[(0, .slice A18782 n18783 c18784), (1, .pointer (some ⟨g21945, 3, none⟩)), (2, str x21942.f3), (5, .slice A18786 n18787 c18788), (6, .pointer (some ⟨g21945, 4, none⟩)), (7, .float .f64 x21942.f4)], ?_⟩
   refine dEff [0, 1, 2, 5, 6, 7] [3, 8] (by kernel_rfl) ⟨pu rfl rfl [(8, .slice A18782 n18783 c18784)] (fun ac hA => y_move hA rfl rfl) rfl rfl, pu rfl rfl [(11, .pointer (some ⟨g21945, 0, none⟩))] (fun ac hA => y_fab fa44_3 hA rfl rfl) rfl rfl, pu rfl rfl [(38, .pointer (some ⟨g21945, 3, none⟩))] (fun ac hA => y_ld Tryd.underlying9 (hS.cell 0 rfl 3 _ rfl) hA rfl rfl rfl) rfl rfl, pu rfl rfl [(9, .slice A18786 n18787 c18788)] (fun ac hA => y_move hA rfl rfl) rfl rfl, pu rfl rfl [(11, .pointer (some ⟨g21945, 0, none⟩))] (fun ac hA => y_fab fa44_4 hA rfl rfl) rfl rfl, pu rfl rfl [(43, .pointer (some ⟨g21945, 4, none⟩))] (fun ac hA => y_ld Tryd.underlying42 (hS.cell 0 rfl 4 _ rfl) hA rfl rfl rfl) rfl rfl, trivial⟩ (by kernel_rfl) (by kernel_rfl) ⟨?_, ?_, trivial⟩
   ·refine ef rfl [(39, str x21942.f3)] (fun ac hA K hK => ?_) rfl rfl
    refine z_bsl (d := kS) (e := 9) (ps := #[(0, str x21942.f3)]) (cells := [str x21942.f3]) (xs := [x21942.f3]) (fun w => by kernel_rfl) rfl ⟨[str x21942.f3], _, rfl, rfl, rfl⟩ hA hS (fun g22149 w hS => ?_) rfl rfl rfl
    refine hK _ [] _ rfl ?_
    refine dEff [0, 5, 6, 7] [4, 8] (by kernel_rfl) ⟨pu rfl rfl [(8, .slice A18782 n18783 c18784)] (fun ac hA => y_move hA rfl rfl) rfl rfl, pu rfl rfl [(9, .slice A18786 n18787 c18788)] (fun ac hA => y_move hA rfl rfl) rfl rfl, pu rfl rfl [(11, .pointer (some ⟨g21945, 0, none⟩))] (fun ac hA => y_fab fa44_4 hA rfl rfl) rfl rfl, pu rfl rfl [(43, .pointer (some ⟨g21945, 4, none⟩))] (fun ac hA => y_ld Tryd.underlying42 (hS.cell 1 rfl 4 _ rfl) hA rfl rfl rfl) rfl rfl, trivial⟩ (by kernel_rfl) (by kernel_rfl) ⟨?_, ?_, trivial⟩
    ·refine ef rfl [(37, .slice A18782 n18783 c18784), (40, .slice (some ⟨g22149, 0, none⟩) 1 1)] (fun ac hA K hK => ?_) rfl rfl
     obtain ⟨h22150, hF⟩ := chk_some hF
     have hr := hS.rd 0 rfl
     refine z_app 6 inf9 Tryd.underlying91 hA hS hr.1 hr.2.1 h22150 rfl (fun A22151 n22152 c22153 w hS => ?_) rfl rfl rfl rfl rfl rfl
     refine hK _ [] _ rfl ?_
     refine dEff [5, 6, 7] [8] (by kernel_rfl) ⟨pu rfl rfl [(9, .slice A18786 n18787 c18788)] (fun ac hA => y_move hA rfl rfl) rfl rfl, pu rfl rfl [(11, .pointer (some ⟨g21945, 0, none⟩))] (fun ac hA => y_fab fa44_4 hA rfl rfl) rfl rfl, pu rfl rfl [(43, .pointer (some ⟨g21945, 4, none⟩))] (fun ac hA => y_ld Tryd.underlying42 (hS.cell 2 rfl 4 _ rfl) hA rfl rfl rfl) rfl rfl, trivial⟩ (by kernel_rfl) (by kernel_rfl) ⟨ef rfl [(44, .float .f64 x21942.f4)] (fun ac hA K hK => ?_) rfl rfl, trivial⟩
     refine z_bsl (d := kF) (e := 42) (ps := #[(0, .float .f64 x21942.f4)]) (cells := [.float .f64 x21942.f4]) (xs := [x21942.f4]) (fun w => by kernel_rfl) rfl ⟨[.float .f64 x21942.f4], _, rfl, rfl, rfl⟩ hA hS (fun g22154 w hS => ?_) rfl rfl rfl
     refine hK _ [] _ rfl ?_
     refine dEff [5] [9] (by kernel_rfl) ⟨pu rfl rfl [(9, .slice A18786 n18787 c18788)] (fun ac hA => y_move hA rfl rfl) rfl rfl, trivial⟩ (by kernel_rfl) (by kernel_rfl) ⟨ef rfl [(42, .slice A18786 n18787 c18788), (45, .slice (some ⟨g22154, 0, none⟩) 1 1)] (fun ac hA K hK => ?_) rfl rfl, trivial⟩
     obtain ⟨h22155, hF⟩ := chk_some hF
     have hr := hS.rd 0 rfl
     refine z_app 8 inf42 Tryd.underlying92 hA hS hr.1 hr.2.1 h22155 rfl (fun A22156 n22157 c22158 w hS => ?_) rfl rfl rfl rfl rfl rfl
     refine hK _ [(10, .slice A22151 n22152 c22153), (11, .slice A22156 n22157 c22158)] _ rfl ?_
     refine dEnd [10, 11] (by kernel_rfl) ⟨pu rfl rfl [(41, .slice A22151 n22152 c22153)] (fun ac hA => y_assign hA rfl rfl) rfl rfl, pu rfl rfl [(46, .slice A22156 n22157 c22158)] (fun ac hA => y_assign hA rfl rfl) rfl rfl, trivial⟩ ⟨by kernel_rfl, by kernel_rfl⟩ [(0, .slice A0 n0 c0), (5, .slice A22140 n22141 c22142), (6, .slice A22143 n22144 c22145), (7, .slice A22146 n22147 c22148), (8, .slice A22151 n22152 c22153), (9, .slice A22156 n22157 c22158), (15, .slice A1 n1 c1), (16, .int .i64 (a1.length : Int)), (17, .int .i64 x18789)] rfl (fun ac hA => ?_)
     replace hS := hS.drop 1
     replace hS := hS.drop 2
     replace hS := hS.drop 2
     replace hS := hS.pk 6
     replace hS := hS.pk 1
     replace hS := hS.pk 2
     replace hS := hS.pk 6
     replace hS := hS.pk 6
     replace hS := hS.pk 6
     replace hS := hS.pk 6
     exact hb3 l22139 (l18773 ++ [x21942.f1]) (l18777 ++ [x21942.f2]) (l18781 ++ [x21942.f3]) (l18785 ++ [x21942.f4]) hF A22140 n22141 c22142 A22143 n22144 c22145 A22146 n22147 c22148 A22151 n22152 c22153 A22156 n22157 c22158 ac w (hA.sub _ rfl) hS
    ·refine ef rfl [(44, .float .f64 x21942.f4)] (fun ac hA K hK => ?_) rfl rfl
     refine z_bsl (d := kF) (e := 42) (ps := #[(0, .float .f64 x21942.f4)]) (cells := [.float .f64 x21942.f4]) (xs := [x21942.f4]) (fun w => by kernel_rfl) rfl ⟨[.float .f64 x21942.f4], _, rfl, rfl, rfl⟩ hA hS (fun g22159 w hS => ?_) rfl rfl rfl
     refine hK _ [] _ rfl ?_
     refine dEff [0, 5] [4] (by kernel_rfl) ⟨pu rfl rfl [(8, .slice A18782 n18783 c18784)] (fun ac hA => y_move hA rfl rfl) rfl rfl, pu rfl rfl [(9, .slice A18786 n18787 c18788)] (fun ac hA => y_move hA rfl rfl) rfl rfl, trivial⟩ (by kernel_rfl) (by kernel_rfl) ⟨ef rfl [(37, .slice A18782 n18783 c18784), (40, .slice (some ⟨g22149, 0, none⟩) 1 1)] (fun ac hA K hK => ?_) rfl rfl, trivial⟩
     obtain ⟨h22160, hF⟩ := chk_some hF
     have hr := hS.rd 1 rfl
     refine z_app 7 inf9 Tryd.underlying91 hA hS hr.1 hr.2.1 h22160 rfl (fun A22161 n22162 c22163 w hS => ?_) rfl rfl rfl rfl rfl rfl
     refine hK _ [] _ rfl ?_
     refine dEff [5] [9] (by kernel_rfl) ⟨pu rfl rfl [(9, .slice A18786 n18787 c18788)] (fun ac hA => y_move hA rfl rfl) rfl rfl, trivial⟩ (by kernel_rfl) (by kernel_rfl) ⟨ef rfl [(42, .slice A18786 n18787 c18788), (45, .slice (some ⟨g22159, 0, none⟩) 1 1)] (fun ac hA K hK => ?_) rfl rfl, trivial⟩
     obtain ⟨h22164, hF⟩ := chk_some hF
     have hr := hS.rd 1 rfl
     refine z_app 8 inf42 Tryd.underlying92 hA hS hr.1 hr.2.1 h22164 rfl (fun A22165 n22166 c22167 w hS => ?_) rfl rfl rfl rfl rfl rfl
     refine hK _ [(10, .slice A22161 n22162 c22163), (11, .slice A22165 n22166 c22167)] _ rfl ?_
     refine dEnd [10, 11] (by kernel_rfl) ⟨pu rfl rfl [(41, .slice A22161 n22162 c22163)] (fun ac hA => y_assign hA rfl rfl) rfl rfl, pu rfl rfl [(46, .slice A22165 n22166 c22167)] (fun ac hA => y_assign hA rfl rfl) rfl rfl, trivial⟩ ⟨by kernel_rfl, by kernel_rfl⟩ [(0, .slice A0 n0 c0), (5, .slice A22140 n22141 c22142), (6, .slice A22143 n22144 c22145), (7, .slice A22146 n22147 c22148), (8, .slice A22161 n22162 c22163), (9, .slice A22165 n22166 c22167), (15, .slice A1 n1 c1), (16, .int .i64 (a1.length : Int)), (17, .int .i64 x18789)] rfl (fun ac hA => ?_)
     replace hS := hS.drop 2
     replace hS := hS.drop 2
     replace hS := hS.drop 2
     replace hS := hS.pk 6
     replace hS := hS.pk 1
     replace hS := hS.pk 2
     replace hS := hS.pk 6
     replace hS := hS.pk 6
     replace hS := hS.pk 6
     replace hS := hS.pk 6
     exact hb3 l22139 (l18773 ++ [x21942.f1]) (l18777 ++ [x21942.f2]) (l18781 ++ [x21942.f3]) (l18785 ++ [x21942.f4]) hF A22140 n22141 c22142 A22143 n22144 c22145 A22146 n22147 c22148 A22161 n22162 c22163 A22165 n22166 c22167 ac w (hA.sub _ rfl) hS
   ·refine ef rfl [(44, .float .f64 x21942.f4)] (fun ac hA K hK => ?_) rfl rfl
    refine z_bsl (d := kF) (e := 42) (ps := #[(0, .float .f64 x21942.f4)]) (cells := [.float .f64 x21942.f4]) (xs := [x21942.f4]) (fun w => by kernel_rfl) rfl ⟨[.float .f64 x21942.f4], _, rfl, rfl, rfl⟩ hA hS (fun g22168 w hS => ?_) rfl rfl rfl
    refine hK _ [] _ rfl ?_
    refine dEff [0, 1, 2, 5] [3] (by kernel_rfl) ⟨pu rfl rfl [(8, .slice A18782 n18783 c18784)] (fun ac hA => y_move hA rfl rfl) rfl rfl, pu rfl rfl [(11, .pointer (some ⟨g21945, 0, none⟩))] (fun ac hA => y_fab fa44_3 hA rfl rfl) rfl rfl, pu rfl rfl [(38, .pointer (some ⟨g21945, 3, none⟩))] (fun ac hA => y_ld Tryd.underlying9 (hS.cell 1 rfl 3 _ rfl) hA rfl rfl rfl) rfl rfl, pu rfl rfl [(9, .slice A18786 n18787 c18788)] (fun ac hA => y_move hA rfl rfl) rfl rfl, trivial⟩ (by kernel_rfl) (by kernel_rfl) ⟨ef rfl [(39, str x21942.f3)] (fun ac hA K hK => ?_) rfl rfl, trivial⟩
    refine z_bsl (d := kS) (e := 9) (ps := #[(0, str x21942.f3)]) (cells := [str x21942.f3]) (xs := [x21942.f3]) (fun w => by kernel_rfl) rfl ⟨[str x21942.f3], _, rfl, rfl, rfl⟩ hA hS (fun g22169 w hS => ?_) rfl rfl rfl
    refine hK _ [] _ rfl ?_
    refine dEff [0, 5] [4] (by kernel_rfl) ⟨pu rfl rfl [(8, .slice A18782 n18783 c18784)] (fun ac hA => y_move hA rfl rfl) rfl rfl, pu rfl rfl [(9, .slice A18786 n18787 c18788)] (fun ac hA => y_move hA rfl rfl) rfl rfl, trivial⟩ (by kernel_rfl) (by kernel_rfl) ⟨ef rfl [(37, .slice A18782 n18783 c18784), (40, .slice (some ⟨g22169, 0, none⟩) 1 1)] (fun ac hA K hK => ?_) rfl rfl, trivial⟩
    obtain ⟨h22170, hF⟩ := chk_some hF
    have hr := hS.rd 0 rfl
    refine z_app 7 inf9 Tryd.underlying91 hA hS hr.1 hr.2.1 h22170 rfl (fun A22171 n22172 c22173 w hS => ?_) rfl rfl rfl rfl rfl rfl
    refine hK _ [] _ rfl ?_
    refine dEff [5] [9] (by kernel_rfl) ⟨pu rfl rfl [(9, .slice A18786 n18787 c18788)] (fun ac hA => y_move hA rfl rfl) rfl rfl, trivial⟩ (by kernel_rfl) (by kernel_rfl) ⟨ef rfl [(42, .slice A18786 n18787 c18788), (45, .slice (some ⟨g22168, 0, none⟩) 1 1)] (fun ac hA K hK => ?_) rfl rfl, trivial⟩
    obtain ⟨h22174, hF⟩ := chk_some hF
    have hr := hS.rd 2 rfl
    refine z_app 8 inf42 Tryd.underlying92 hA hS hr.1 hr.2.1 h22174 rfl (fun A22175 n22176 c22177 w hS => ?_) rfl rfl rfl rfl rfl rfl
    refine hK _ [(10, .slice A22171 n22172 c22173), (11, .slice A22175 n22176 c22177)] _ rfl ?_
    refine dEnd [10, 11] (by kernel_rfl) ⟨pu rfl rfl [(41, .slice A22171 n22172 c22173)] (fun ac hA => y_assign hA rfl rfl) rfl rfl, pu rfl rfl [(46, .slice A22175 n22176 c22177)] (fun ac hA => y_assign hA rfl rfl) rfl rfl, trivial⟩ ⟨by kernel_rfl, by kernel_rfl⟩ [(0, .slice A0 n0 c0), (5, .slice A22140 n22141 c22142), (6, .slice A22143 n22144 c22145), (7, .slice A22146 n22147 c22148), (8, .slice A22171 n22172 c22173), (9, .slice A22175 n22176 c22177), (15, .slice A1 n1 c1), (16, .int .i64 (a1.length : Int)), (17, .int .i64 x18789)] rfl (fun ac hA => ?_)
    replace hS := hS.drop 2
    replace hS := hS.drop 2
    replace hS := hS.drop 2
    replace hS := hS.pk 6
    replace hS := hS.pk 1
    replace hS := hS.pk 2
    replace hS := hS.pk 6
    replace hS := hS.pk 6
    replace hS := hS.pk 6
    replace hS := hS.pk 6
    exact hb3 l22139 (l18773 ++ [x21942.f1]) (l18777 ++ [x21942.f2]) (l18781 ++ [x21942.f3]) (l18785 ++ [x21942.f4]) hF A22140 n22141 c22142 A22143 n22144 c22145 A22146 n22147 c22148 A22171 n22172 c22173 A22175 n22176 c22177 ac w (hA.sub _ rfl) hS
  refine wp_draw [0, 0, 2, 6, 14, 31, 0, 0, 128, 384, 1023, 0, 0, 4096, 12288, 32767, 65535, 131071, 262143] [4, 5, 9, 10, 14, 15] rfl hA hS (by kernel_rfl) (by kernel_rfl) (by kernel_rfl) (by kernel_rfl) fun w hS => ?_
  obtain ⟨x22178, h22179, hF⟩ := ltt_ hF
  refine ⟨[(0, .slice A18770 n18771 c18772), (1, .pointer (some ⟨g21945, 0, none⟩)), (2, .int .u64 x21942.f0), (3, .int .i64 x22178), (6, .slice A18774 n18775 c18776), (7, .pointer (some ⟨g21945, 1, none⟩)), (8, .int .i64 x21942.f1), (11, .slice A18778 n18779 c18780), (12, .pointer (some ⟨g21945, 2, none⟩)), (13, .int .i64 x21942.f2)], ?_⟩
  refine dEff [0, 1, 2, 3, 6, 7, 8, 11, 12, 13] [4, 9, 14] (by kernel_rfl) ⟨pu rfl rfl [(5, .slice A18770 n18771 c18772)] (fun ac hA => y_move hA rfl rfl) rfl rfl, pu rfl rfl [(11, .pointer (some ⟨g21945, 0, none⟩))] (fun ac hA => y_fab fa44_0 hA rfl rfl) rfl rfl, pu rfl rfl [(22, .pointer (some ⟨g21945, 0, none⟩))] (fun ac hA => y_ld Tryd.underlying31 (hS.cell 0 rfl 0 _ rfl) hA rfl rfl rfl) rfl rfl, pu rfl rfl [(23, .int .u64 x21942.f0)] (fun ac hA => (rv_i h22179 (r_convI Tryd.underlying31 Tryd.underlying2 rfl (hA.ev rfl)) : RunV _ _ _ _ (.int .i64 x22178))) rfl rfl, pu rfl rfl [(6, .slice A18774 n18775 c18776)] (fun ac hA => y_move hA rfl rfl) rfl rfl, pu rfl rfl [(11, .pointer (some ⟨g21945, 0, none⟩))] (fun ac hA => y_fab fa44_1 hA rfl rfl) rfl rfl, pu rfl rfl [(28, .pointer (some ⟨g21945, 1, none⟩))] (fun ac hA => y_ld Tryd.underlying3 (hS.cell 0 rfl 1 _ rfl) hA rfl rfl rfl) rfl rfl, pu rfl rfl [(7, .slice A18778 n18779 c18780)] (fun ac hA => y_move hA rfl rfl) rfl rfl, pu rfl rfl [(11, .pointer (some ⟨g21945, 0, none⟩))] (fun ac hA => y_fab fa44_2 hA rfl rfl) rfl rfl, pu rfl rfl [(33, .pointer (some ⟨g21945, 2, none⟩))] (fun ac hA => y_ld Tryd.underlying2 (hS.cell 0 rfl 2 _ rfl) hA rfl rfl rfl) rfl rfl, trivial⟩ (by kernel_rfl) (by kernel_rfl) ⟨?_, ?_, ?_, trivial⟩
  ·refine ef rfl [(24, .int .i64 x22178)] (fun ac hA K hK => ?_) rfl rfl
   refine z_bsl (d := (kI .i64)) (e := 2) (ps := #[(0, .int .i64 x22178)]) (cells := [.int .i64 x22178]) (xs := [x22178]) (fun w => by kernel_rfl) rfl ⟨[.int .i64 x22178], _, rfl, rfl, rfl⟩ hA hS (fun g22180 w hS => ?_) rfl rfl rfl
   refine hK _ [] _ rfl ?_
   refine dEff [0, 6, 7, 8, 11, 12, 13] [5, 9, 14] (by kernel_rfl) ⟨pu rfl rfl [(5, .slice A18770 n18771 c18772)] (fun ac hA => y_move hA rfl rfl) rfl rfl, pu rfl rfl [(6, .slice A18774 n18775 c18776)] (fun ac hA => y_move hA rfl rfl) rfl rfl, pu rfl rfl [(11, .pointer (some ⟨g21945, 0, none⟩))] (fun ac hA => y_fab fa44_1 hA rfl rfl) rfl rfl, pu rfl rfl [(28, .pointer (some ⟨g21945, 1, none⟩))] (fun ac hA => y_ld Tryd.underlying3 (hS.cell 1 rfl 1 _ rfl) hA rfl rfl rfl) rfl rfl, pu rfl rfl [(7, .slice A18778 n18779 c18780)] (fun ac hA => y_move hA rfl rfl) rfl rfl, pu rfl rfl [(11, .pointer (some ⟨g21945, 0, none⟩))] (fun ac hA => y_fab fa44_2 hA rfl rfl) rfl rfl, pu rfl rfl [(33, .pointer (some ⟨g21945, 2, none⟩))] (fun ac hA => y_ld Tryd.underlying2 (hS.cell 1 rfl 2 _ rfl) hA rfl rfl rfl) rfl rfl, trivial⟩ (by kernel_rfl) (by kernel_rfl) ⟨?_, ?_, ?_, trivial⟩
   ·refine ef rfl [(21, .slice A18770 n18771 c18772), (25, .slice (some ⟨g22180, 0, none⟩) 1 1)] (fun ac hA K hK => ?_) rfl rfl
    obtain ⟨h22181, hF⟩ := chk_some hF
    have hr := hS.rd 0 rfl
    refine z_app 3 inf2 Tryd.underlying90 hA hS hr.1 hr.2.1 h22181 rfl (fun A22182 n22183 c22184 w hS => ?_) rfl rfl rfl rfl rfl rfl
    refine hK _ [] _ rfl ?_
    refine dEff [6, 7, 8, 11, 12, 13] [9, 14] (by kernel_rfl) ⟨pu rfl rfl [(6, .slice A18774 n18775 c18776)] (fun ac hA => y_move hA rfl rfl) rfl rfl, pu rfl rfl [(11, .pointer (some ⟨g21945, 0, none⟩))] (fun ac hA => y_fab fa44_1 hA rfl rfl) rfl rfl, pu rfl rfl [(28, .pointer (some ⟨g21945, 1, none⟩))] (fun ac hA => y_ld Tryd.underlying3 (hS.cell 2 rfl 1 _ rfl) hA rfl rfl rfl) rfl rfl, pu rfl rfl [(7, .slice A18778 n18779 c18780)] (fun ac hA => y_move hA rfl rfl) rfl rfl, pu rfl rfl [(11, .pointer (some ⟨g21945, 0, none⟩))] (fun ac hA => y_fab fa44_2 hA rfl rfl) rfl rfl, pu rfl rfl [(33, .pointer (some ⟨g21945, 2, none⟩))] (fun ac hA => y_ld Tryd.underlying2 (hS.cell 2 rfl 2 _ rfl) hA rfl rfl rfl) rfl rfl, trivial⟩ (by kernel_rfl) (by kernel_rfl) ⟨?_, ?_, trivial⟩
    ·refine ef rfl [(29, .int .i64 x21942.f1)] (fun ac hA K hK => ?_) rfl rfl
     refine z_bsl (d := (kI .i64)) (e := 2) (ps := #[(0, .int .i64 x21942.f1)]) (cells := [.int .i64 x21942.f1]) (xs := [x21942.f1]) (fun w => by kernel_rfl) rfl ⟨[.int .i64 x21942.f1], _, rfl, rfl, rfl⟩ hA hS (fun g22185 w hS => ?_) rfl rfl rfl
     refine hK _ [] _ rfl ?_
     refine dEff [6, 11, 12, 13] [10, 14] (by kernel_rfl) ⟨pu rfl rfl [(6, .slice A18774 n18775 c18776)] (fun ac hA => y_move hA rfl rfl) rfl rfl, pu rfl rfl [(7, .slice A18778 n18779 c18780)] (fun ac hA => y_move hA rfl rfl) rfl rfl, pu rfl rfl [(11, .pointer (some ⟨g21945, 0, none⟩))] (fun ac hA => y_fab fa44_2 hA rfl rfl) rfl rfl, pu rfl rfl [(33, .pointer (some ⟨g21945, 2, none⟩))] (fun ac hA => y_ld Tryd.underlying2 (hS.cell 3 rfl 2 _ rfl) hA rfl rfl rfl) rfl rfl, trivial⟩ (by kernel_rfl) (by kernel_rfl) ⟨?_, ?_, trivial⟩
     ·refine ef rfl [(27, .slice A18774 n18775 c18776), (30, .slice (some ⟨g22185, 0, none⟩) 1 1)] (fun ac hA K hK => ?_) rfl rfl
      obtain ⟨h22186, hF⟩ := chk_some hF
      have hr := hS.rd 0 rfl
      refine z_app 5 inf2 Tryd.underlying90 hA hS hr.1 hr.2.1 h22186 rfl (fun A22187 n22188 c22189 w hS => ?_) rfl rfl rfl rfl rfl rfl
      refine hK _ [] _ rfl ?_
      refine dEff [11, 12, 13] [14] (by kernel_rfl) ⟨pu rfl rfl [(7, .slice A18778 n18779 c18780)] (fun ac hA => y_move hA rfl rfl) rfl rfl, pu rfl rfl [(11, .pointer (some ⟨g21945, 0, none⟩))] (fun ac hA => y_fab fa44_2 hA rfl rfl) rfl rfl, pu rfl rfl [(33, .pointer (some ⟨g21945, 2, none⟩))] (fun ac hA => y_ld Tryd.underlying2 (hS.cell 4 rfl 2 _ rfl) hA rfl rfl rfl) rfl rfl, trivial⟩ (by kernel_rfl) (by kernel_rfl) ⟨ef rfl [(34, .int .i64 x21942.f2)] (fun ac hA K hK => ?_) rfl rfl, trivial⟩
      refine z_bsl (d := (kI .i64)) (e := 2) (ps := #[(0, .int .i64 x21942.f2)]) (cells := [.int .i64 x21942.f2]) (xs := [x21942.f2]) (fun w => by kernel_rfl) rfl ⟨[.int .i64 x21942.f2], _, rfl, rfl, rfl⟩ hA hS (fun g22190 w hS => ?_) rfl rfl rfl
      refine hK _ [] _ rfl ?_
      refine dEff [11] [15] (by kernel_rfl) ⟨pu rfl rfl [(7, .slice A18778 n18779 c18780)] (fun ac hA => y_move hA rfl rfl) rfl rfl, trivial⟩ (by kernel_rfl) (by kernel_rfl) ⟨ef rfl [(32, .slice A18778 n18779 c18780), (35, .slice (some ⟨g22190, 0, none⟩) 1 1)] (fun ac hA K hK => ?_) rfl rfl, trivial⟩
      obtain ⟨h22191, hF⟩ := chk_some hF
      have hr := hS.rd 0 rfl
      refine z_app 7 inf2 Tryd.underlying90 hA hS hr.1 hr.2.1 h22191 rfl (fun A22192 n22193 c22194 w hS => ?_) rfl rfl rfl rfl rfl rfl
      refine hK _ [(16, .slice A22182 n22183 c22184), (17, .slice A22187 n22188 c22189), (18, .slice A22192 n22193 c22194)] _ rfl ?_
      refine dEnd [16, 17, 18] (by kernel_rfl) ⟨pu rfl rfl [(26, .slice A22182 n22183 c22184)] (fun ac hA => y_assign hA rfl rfl) rfl rfl, pu rfl rfl [(31, .slice A22187 n22188 c22189)] (fun ac hA => y_assign hA rfl rfl) rfl rfl, pu rfl rfl [(36, .slice A22192 n22193 c22194)] (fun ac hA => y_assign hA rfl rfl) rfl rfl, trivial⟩ ⟨by kernel_rfl, by kernel_rfl⟩ [(0, .slice A0 n0 c0), (5, .slice A22182 n22183 c22184), (6, .slice A22187 n22188 c22189), (7, .slice A22192 n22193 c22194), (8, .slice A18782 n18783 c18784), (9, .slice A18786 n18787 c18788), (11, .pointer (some ⟨g21945, 0, none⟩)), (15, .slice A1 n1 c1), (16, .int .i64 (a1.length : Int)), (17, .int .i64 x18789)] rfl (fun ac hA => ?_)
      replace hS := hS.drop 1
      replace hS := hS.drop 2
      replace hS := hS.drop 3
      replace hS := hS.pk 7
      replace hS := hS.pk 7
      replace hS := hS.pk 7
      replace hS := hS.pk 3
      replace hS := hS.pk 4
      replace hS := hS.pk 5
      replace hS := hS.pk 7
      replace hS := hS.pk 7
      exact hj1 (l18769 ++ [x22178]) hF A22182 n22183 c22184 A22187 n22188 c22189 A22192 n22193 c22194 ac w (hA.sub _ rfl) hS
     ·refine ef rfl [(34, .int .i64 x21942.f2)] (fun ac hA K hK => ?_) rfl rfl
      refine z_bsl (d := (kI .i64)) (e := 2) (ps := #[(0, .int .i64 x21942.f2)]) (cells := [.int .i64 x21942.f2]) (xs := [x21942.f2]) (fun w => by kernel_rfl) rfl ⟨[.int .i64 x21942.f2], _, rfl, rfl, rfl⟩ hA hS (fun g22195 w hS => ?_) rfl rfl rfl
      refine hK _ [] _ rfl ?_
      refine dEff [6, 11] [10] (by kernel_rfl) ⟨pu rfl rfl [(6, .slice A18774 n18775 c18776)] (fun ac hA => y_move hA rfl rfl) rfl rfl, pu rfl rfl [(7, .slice A18778 n18779 c18780)] (fun ac hA => y_move hA rfl rfl) rfl rfl, trivial⟩ (by kernel_rfl) (by kernel_rfl) ⟨ef rfl [(27, .slice A18774 n18775 c18776), (30, .slice (some ⟨g22185, 0, none⟩) 1 1)] (fun ac hA K hK => ?_) rfl rfl, trivial⟩
      obtain ⟨h22196, hF⟩ := chk_some hF
      have hr := hS.rd 1 rfl
      refine z_app 6 inf2 Tryd.underlying90 hA hS hr.1 hr.2.1 h22196 rfl (fun A22197 n22198 c22199 w hS => ?_) rfl rfl rfl rfl rfl rfl
      refine hK _ [] _ rfl ?_
      refine dEff [11] [15] (by kernel_rfl) ⟨pu rfl rfl [(7, .slice A18778 n18779 c18780)] (fun ac hA => y_move hA rfl rfl) rfl rfl, trivial⟩ (by kernel_rfl) (by kernel_rfl) ⟨ef rfl [(32, .slice A18778 n18779 c18780), (35, .slice (some ⟨g22195, 0, none⟩) 1 1)] (fun ac hA K hK => ?_) rfl rfl, trivial⟩
      obtain ⟨h22200, hF⟩ := chk_some hF
      have hr := hS.rd 1 rfl
      refine z_app 7 inf2 Tryd.underlying90 hA hS hr.1 hr.2.1 h22200 rfl (fun A22201 n22202 c22203 w hS => ?_) rfl rfl rfl rfl rfl rfl
      refine hK _ [(16, .slice A22182 n22183 c22184), (17, .slice A22197 n22198 c22199), (18, .slice A22201 n22202 c22203)] _ rfl ?_
      refine dEnd [16, 17, 18] (by kernel_rfl) ⟨pu rfl rfl [(26, .slice A22182 n22183 c22184)] (fun ac hA => y_assign hA rfl rfl) rfl rfl, pu rfl rfl [(31, .slice A22197 n22198 c22199)] (fun ac hA => y_assign hA rfl rfl) rfl rfl, pu rfl rfl [(36, .slice A22201 n22202 c22203)] (fun ac hA => y_assign hA rfl rfl) rfl rfl, trivial⟩ ⟨by kernel_rfl, by kernel_rfl⟩ [(0, .slice A0 n0 c0), (5, .slice A22182 n22183 c22184), (6, .slice A22197 n22198 c22199), (7, .slice A22201 n22202 c22203), (8, .slice A18782 n18783 c18784), (9, .slice A18786 n18787 c18788), (11, .pointer (some ⟨g21945, 0, none⟩)), (15, .slice A1 n1 c1), (16, .int .i64 (a1.length : Int)), (17, .int .i64 x18789)] rfl (fun ac hA => ?_)
      replace hS := hS.drop 2
      replace hS := hS.drop 2
      replace hS := hS.drop 3
      replace hS := hS.pk 7
      replace hS := hS.pk 7
      replace hS := hS.pk 7
      replace hS := hS.pk 3
      replace hS := hS.pk 4
      replace hS := hS.pk 5
      replace hS := hS.pk 7
      replace hS := hS.pk 7
      exact hj1 (l18769 ++ [x22178]) hF A22182 n22183 c22184 A22197 n22198 c22199 A22201 n22202 c22203 ac w (hA.sub _ rfl) hS
    ·refine ef rfl [(34, .int .i64 x21942.f2)] (fun ac hA K hK => ?_) rfl rfl
     refine z_bsl (d := (kI .i64)) (e := 2) (ps := #[(0, .int .i64 x21942.f2)]) (cells := [.int .i64 x21942.f2]) (xs := [x21942.f2]) (fun w => by kernel_rfl) rfl ⟨[.int .i64 x21942.f2], _, rfl, rfl, rfl⟩ hA hS (fun g22204 w hS => ?_) rfl rfl rfl
     refine hK _ [] _ rfl ?_
     refine dEff [6, 7, 8, 11] [9] (by kernel_rfl) ⟨pu rfl rfl [(6, .slice A18774 n18775 c18776)] (fun ac hA => y_move hA rfl rfl) rfl rfl, pu rfl rfl [(11, .pointer (some ⟨g21945, 0, none⟩))] (fun ac hA => y_fab fa44_1 hA rfl rfl) rfl rfl, pu rfl rfl [(28, .pointer (some ⟨g21945, 1, none⟩))] (fun ac hA => y_ld Tryd.underlying3 (hS.cell 3 rfl 1 _ rfl) hA rfl rfl rfl) rfl rfl, pu rfl rfl [(7, .slice A18778 n18779 c18780)] (fun ac hA => y_move hA rfl rfl) rfl rfl, trivial⟩ (by kernel_rfl) (by kernel_rfl) ⟨ef rfl [(29, .int .i64 x21942.f1)] (fun ac hA K hK => ?_) rfl rfl, trivial⟩
     refine z_bsl (d := (kI .i64)) (e := 2) (ps := #[(0, .int .i64 x21942.f1)]) (cells := [.int .i64 x21942.f1]) (xs := [x21942.f1]) (fun w => by kernel_rfl) rfl ⟨[.int .i64 x21942.f1], _, rfl, rfl, rfl⟩ hA hS (fun g22205 w hS => ?_) rfl rfl rfl
     refine hK _ [] _ rfl ?_
     refine dEff [6, 11] [10] (by kernel_rfl) ⟨pu rfl rfl [(6, .slice A18774 n18775 c18776)] (fun ac hA => y_move hA rfl rfl) rfl rfl, pu rfl rfl [(7, .slice A18778 n18779 c18780)] (fun ac hA => y_move hA rfl rfl) rfl rfl, trivial⟩ (by kernel_rfl) (by kernel_rfl) ⟨ef rfl [(27, .slice A18774 n18775 c18776), (30, .slice (some ⟨g22205, 0, none⟩) 1 1)] (fun ac hA K hK => ?_) rfl rfl, trivial⟩
     obtain ⟨h22206, hF⟩ := chk_some hF
     have hr := hS.rd 0 rfl
     refine z_app 6 inf2 Tryd.underlying90 hA hS hr.1 hr.2.1 h22206 rfl (fun A22207 n22208 c22209 w hS => ?_) rfl rfl rfl rfl rfl rfl
     refine hK _ [] _ rfl ?_
     refine dEff [11] [15] (by kernel_rfl) ⟨pu rfl rfl [(7, .slice A18778 n18779 c18780)] (fun ac hA => y_move hA rfl rfl) rfl rfl, trivial⟩ (by kernel_rfl) (by kernel_rfl) ⟨ef rfl [(32, .slice A18778 n18779 c18780), (35, .slice (some ⟨g22204, 0, none⟩) 1 1)] (fun ac hA K hK => ?_) rfl rfl, trivial⟩
     obtain ⟨h22210, hF⟩ := chk_some hF
     have hr := hS.rd 2 rfl
     refine z_app 7 inf2 Tryd.underlying90 hA hS hr.1 hr.2.1 h22210 rfl (fun A22211 n22212 c22213 w hS => ?_) rfl rfl rfl rfl rfl rfl
     refine hK _ [(16, .slice A22182 n22183 c22184), (17, .slice A22207 n22208 c22209), (18, .slice A22211 n22212 c22213)] _ rfl ?_
     refine dEnd [16, 17, 18] (by kernel_rfl) ⟨pu rfl rfl [(26, .slice A22182 n22183 c22184)] (fun ac hA => y_assign hA rfl rfl) rfl rfl, pu rfl rfl [(31, .slice A22207 n22208 c22209)] (fun ac hA => y_assign hA rfl rfl) rfl rfl, pu rfl rfl [(36, .slice A22211 n22212 c22213)] (fun ac hA => y_assign hA rfl rfl) rfl rfl, trivial⟩ ⟨by kernel_rfl, by kernel_rfl⟩ [(0, .slice A0 n0 c0), (5, .slice A22182 n22183 c22184), (6, .slice A22207 n22208 c22209), (7, .slice A22211 n22212 c22213), (8, .slice A18782 n18783 c18784), (9, .slice A18786 n18787 c18788), (11, .pointer (some ⟨g21945, 0, none⟩)), (15, .slice A1 n1 c1), (16, .int .i64 (a1.length : Int)), (17, .int .i64 x18789)] rfl (fun ac hA => ?_)
     replace hS := hS.drop 2
     replace hS := hS.drop 2
     replace hS := hS.drop 3
     replace hS := hS.pk 7
     replace hS := hS.pk 7
     replace hS := hS.pk 7
     replace hS := hS.pk 3
     replace hS := hS.pk 4
     replace hS := hS.pk 5
     replace hS := hS.pk 7
     replace hS := hS.pk 7
     exact hj1 (l18769 ++ [x22178]) hF A22182 n22183 c22184 A22207 n22208 c22209 A22211 n22212 c22213 ac w (hA.sub _ rfl) hS
   ·refine ef rfl [(29, .int .i64 x21942.f1)] (fun ac hA K hK => ?_) rfl rfl
    refine z_bsl (d := (kI .i64)) (e := 2) (ps := #[(0, .int .i64 x21942.f1)]) (cells := [.int .i64 x21942.f1]) (xs := [x21942.f1]) (fun w => by kernel_rfl) rfl ⟨[.int .i64 x21942.f1], _, rfl, rfl, rfl⟩ hA hS (fun g22214 w hS => ?_) rfl rfl rfl
    refine hK _ [] _ rfl ?_
    refine dEff [0, 6, 11, 12, 13] [5, 14] (by kernel_rfl) ⟨pu rfl rfl [(5, .slice A18770 n18771 c18772)] (fun ac hA => y_move hA rfl rfl) rfl rfl, pu rfl rfl [(6, .slice A18774 n18775 c18776)] (fun ac hA => y_move hA rfl rfl) rfl rfl, pu rfl rfl [(7, .slice A18778 n18779 c18780)] (fun ac hA => y_move hA rfl rfl) rfl rfl, pu rfl rfl [(11, .pointer (some ⟨g21945, 0, none⟩))] (fun ac hA => y_fab fa44_2 hA rfl rfl) rfl rfl, pu rfl rfl [(33, .pointer (some ⟨g21945, 2, none⟩))] (fun ac hA => y_ld Tryd.underlying2 (hS.cell 2 rfl 2 _ rfl) hA rfl rfl rfl) rfl rfl, trivial⟩ (by kernel_rfl) (by kernel_rfl) ⟨?_, ?_, trivial⟩
    ·refine ef rfl [(21, .slice A18770 n18771 c18772), (25, .slice (some ⟨g22180, 0, none⟩) 1 1)] (fun ac hA K hK => ?_) rfl rfl
     obtain ⟨h22215, hF⟩ := chk_some hF
     have hr := hS.rd 1 rfl
     refine z_app 4 inf2 Tryd.underlying90 hA hS hr.1 hr.2.1 h22215 rfl (fun A22216 n22217 c22218 w hS => ?_) rfl rfl rfl rfl rfl rfl
     refine hK _ [] _ rfl ?_
     refine dEff [6, 11, 12, 13] [10, 14] (by kernel_rfl) ⟨pu rfl rfl [(6, .slice A18774 n18775 c18776)] (fun ac hA => y_move hA rfl rfl) rfl rfl, pu rfl rfl [(7, .slice A18778 n18779 c18780)] (fun ac hA => y_move hA rfl rfl) rfl rfl, pu rfl rfl [(11, .pointer (some ⟨g21945, 0, none⟩))] (fun ac hA => y_fab fa44_2 hA rfl rfl) rfl rfl, pu rfl rfl [(33, .pointer (some ⟨g21945, 2, none⟩))] (fun ac hA => y_ld Tryd.underlying2 (hS.cell 3 rfl 2 _ rfl) hA rfl rfl rfl) rfl rfl, trivial⟩ (by kernel_rfl) (by kernel_rfl) ⟨?_, ?_, trivial⟩
     ·refine ef rfl [(27, .slice A18774 n18775 c18776), (30, .slice (some ⟨g22214, 0, none⟩) 1 1)] (fun ac hA K hK => ?_) rfl rfl
      obtain ⟨h22219, hF⟩ := chk_some hF
      have hr := hS.rd 1 rfl
      refine z_app 5 inf2 Tryd.underlying90 hA hS hr.1 hr.2.1 h22219 rfl (fun A22220 n22221 c22222 w hS => ?_) rfl rfl rfl rfl rfl rfl
      refine hK _ [] _ rfl ?_
      refine dEff [11, 12, 13] [14] (by kernel_rfl) ⟨pu rfl rfl [(7, .slice A18778 n18779 c18780)] (fun ac hA => y_move hA rfl rfl) rfl rfl, pu rfl rfl [(11, .pointer (some ⟨g21945, 0, none⟩))] (fun ac hA => y_fab fa44_2 hA rfl rfl) rfl rfl, pu rfl rfl [(33, .pointer (some ⟨g21945, 2, none⟩))] (fun ac hA => y_ld Tryd.underlying2 (hS.cell 4 rfl 2 _ rfl) hA rfl rfl rfl) rfl rfl, trivial⟩ (by kernel_rfl) (by kernel_rfl) ⟨ef rfl [(34, .int .i64 x21942.f2)] (fun ac hA K hK => ?_) rfl rfl, trivial⟩
      refine z_bsl (d := (kI .i64)) (e := 2) (ps := #[(0, .int .i64 x21942.f2)]) (cells := [.int .i64 x21942.f2]) (xs := [x21942.f2]) (fun w => by kernel_rfl) rfl ⟨[.int .i64 x21942.f2], _, rfl, rfl, rfl⟩ hA hS (fun g22223 w hS => ?_) rfl rfl rfl
      refine hK _ [] _ rfl ?_
      refine dEff [11] [15] (by kernel_rfl) ⟨pu rfl rfl [(7, .slice A18778 n18779 c18780)] (fun ac hA => y_move hA rfl rfl) rfl rfl, trivial⟩ (by kernel_rfl) (by kernel_rfl) ⟨ef rfl [(32, .slice A18778 n18779 c18780), (35, .slice (some ⟨g22223, 0, none⟩) 1 1)] (fun ac hA K hK => ?_) rfl rfl, trivial⟩
      obtain ⟨h22224, hF⟩ := chk_some hF
      have hr := hS.rd 0 rfl
      refine z_app 7 inf2 Tryd.underlying90 hA hS hr.1 hr.2.1 h22224 rfl (fun A22225 n22226 c22227 w hS => ?_) rfl rfl rfl rfl rfl rfl
      refine hK _ [(16, .slice A22216 n22217 c22218), (17, .slice A22220 n22221 c22222), (18, .slice A22225 n22226 c22227)] _ rfl ?_
      refine dEnd [16, 17, 18] (by kernel_rfl) ⟨pu rfl rfl [(26, .slice A22216 n22217 c22218)] (fun ac hA => y_assign hA rfl rfl) rfl rfl, pu rfl rfl [(31, .slice A22220 n22221 c22222)] (fun ac hA => y_assign hA rfl rfl) rfl rfl, pu rfl rfl [(36, .slice A22225 n22226 c22227)] (fun ac hA => y_assign hA rfl rfl) rfl rfl, trivial⟩ ⟨by kernel_rfl, by kernel_rfl⟩ [(0, .slice A0 n0 c0), (5, .slice A22216 n22217 c22218), (6, .slice A22220 n22221 c22222), (7, .slice A22225 n22226 c22227), (8, .slice A18782 n18783 c18784), (9, .slice A18786 n18787 c18788), (11, .pointer (some ⟨g21945, 0, none⟩)), (15, .slice A1 n1 c1), (16, .int .i64 (a1.length : Int)), (17, .int .i64 x18789)] rfl (fun ac hA => ?_)
      replace hS := hS.drop 1
      replace hS := hS.drop 3
      replace hS := hS.drop 3
      replace hS := hS.pk 7
      replace hS := hS.pk 7
      replace hS := hS.pk 7
      replace hS := hS.pk 3
      replace hS := hS.pk 4
      replace hS := hS.pk 5
      replace hS := hS.pk 7
      replace hS := hS.pk 7
      exact hj1 (l18769 ++ [x22178]) hF A22216 n22217 c22218 A22220 n22221 c22222 A22225 n22226 c22227 ac w (hA.sub _ rfl) hS
     ·refine ef rfl [(34, .int .i64 x21942.f2)] (fun ac hA K hK => ?_) rfl rfl
      refine z_bsl (d := (kI .i64)) (e := 2) (ps := #[(0, .int .i64 x21942.f2)]) (cells := [.int .i64 x21942.f2]) (xs := [x21942.f2]) (fun w => by kernel_rfl) rfl ⟨[.int .i64 x21942.f2], _, rfl, rfl, rfl⟩ hA hS (fun g22228 w hS => ?_) rfl rfl rfl
      refine hK _ [] _ rfl ?_
      refine dEff [6, 11] [10] (by kernel_rfl) ⟨pu rfl rfl [(6, .slice A18774 n18775 c18776)] (fun ac hA => y_move hA rfl rfl) rfl rfl, pu rfl rfl [(7, .slice A18778 n18779 c18780)] (fun ac hA => y_move hA rfl rfl) rfl rfl, trivial⟩ (by kernel_rfl) (by kernel_rfl) ⟨ef rfl [(27, .slice A18774 n18775 c18776), (30, .slice (some ⟨g22214, 0, none⟩) 1 1)] (fun ac hA K hK => ?_) rfl rfl, trivial⟩
      obtain ⟨h22229, hF⟩ := chk_some hF
      have hr := hS.rd 2 rfl
      refine z_app 6 inf2 Tryd.underlying90 hA hS hr.1 hr.2.1 h22229 rfl (fun A22230 n22231 c22232 w hS => ?_) rfl rfl rfl rfl rfl rfl
      refine hK _ [] _ rfl ?_
      refine dEff [11] [15] (by kernel_rfl) ⟨pu rfl rfl [(7, .slice A18778 n18779 c18780)] (fun ac hA => y_move hA rfl rfl) rfl rfl, trivial⟩ (by kernel_rfl) (by kernel_rfl) ⟨ef rfl [(32, .slice A18778 n18779 c18780), (35, .slice (some ⟨g22228, 0, none⟩) 1 1)] (fun ac hA K hK => ?_) rfl rfl, trivial⟩
      obtain ⟨h22233, hF⟩ := chk_some hF
      have hr := hS.rd 1 rfl
      refine z_app 7 inf2 Tryd.underlying90 hA hS hr.1 hr.2.1 h22233 rfl (fun A22234 n22235 c22236 w hS => ?_) rfl rfl rfl rfl rfl rfl
      refine hK _ [(16, .slice A22216 n22217 c22218), (17, .slice A22230 n22231 c22232), (18, .slice A22234 n22235 c22236)] _ rfl ?_
      refine dEnd [16, 17, 18] (by kernel_rfl) ⟨pu rfl rfl [(26, .slice A22216 n22217 c22218)] (fun ac hA => y_assign hA rfl rfl) rfl rfl, pu rfl rfl [(31, .slice A22230 n22231 c22232)] (fun ac hA => y_assign hA rfl rfl) rfl rfl, pu rfl rfl [(36, .slice A22234 n22235 c22236)] (fun ac hA => y_assign hA rfl rfl) rfl rfl, trivial⟩ ⟨by kernel_rfl, by kernel_rfl⟩ [(0, .slice A0 n0 c0), (5, .slice A22216 n22217 c22218), (6, .slice A22230 n22231 c22232), (7, .slice A22234 n22235 c22236), (8, .slice A18782 n18783 c18784), (9, .slice A18786 n18787 c18788), (11, .pointer (some ⟨g21945, 0, none⟩)), (15, .slice A1 n1 c1), (16, .int .i64 (a1.length : Int)), (17, .int .i64 x18789)] rfl (fun ac hA => ?_)
      replace hS := hS.drop 2
      replace hS := hS.drop 3
      replace hS := hS.drop 3
      replace hS := hS.pk 7
      replace hS := hS.pk 7
      replace hS := hS.pk 7
      replace hS := hS.pk 3
      replace hS := hS.pk 4
      replace hS := hS.pk 5
      replace hS := hS.pk 7
      replace hS := hS.pk 7
      exact hj1 (l18769 ++ [x22178]) hF A22216 n22217 c22218 A22230 n22231 c22232 A22234 n22235 c22236 ac w (hA.sub _ rfl) hS
    ·refine ef rfl [(34, .int .i64 x21942.f2)] (fun ac hA K hK => ?_) rfl rfl
     refine z_bsl (d := (kI .i64)) (e := 2) (ps := #[(0, .int .i64 x21942.f2)]) (cells := [.int .i64 x21942.f2]) (xs := [x21942.f2]) (fun w => by kernel_rfl) rfl ⟨[.int .i64 x21942.f2], _, rfl, rfl, rfl⟩ hA hS (fun g22237 w hS => ?_) rfl rfl rfl
     refine hK _ [] _ rfl ?_
     refine dEff [0, 6, 11] [5] (by kernel_rfl) ⟨pu rfl rfl [(5, .slice A18770 n18771 c18772)] (fun ac hA => y_move hA rfl rfl) rfl rfl, pu rfl rfl [(6, .slice A18774 n18775 c18776)] (fun ac hA => y_move hA rfl rfl) rfl rfl, pu rfl rfl [(7, .slice A18778 n18779 c18780)] (fun ac hA => y_move hA rfl rfl) rfl rfl, trivial⟩ (by kernel_rfl) (by kernel_rfl) ⟨ef rfl [(21, .slice A18770 n18771 c18772), (25, .slice (some ⟨g22180, 0, none⟩) 1 1)] (fun ac hA K hK => ?_) rfl rfl, trivial⟩
     obtain ⟨h22238, hF⟩ := chk_some hF
     have hr := hS.rd 2 rfl
     refine z_app 5 inf2 Tryd.underlying90 hA hS hr.1 hr.2.1 h22238 rfl (fun A22239 n22240 c22241 w hS => ?_) rfl rfl rfl rfl rfl rfl
     refine hK _ [] _ rfl ?_
     refine dEff [6, 11] [10] (by kernel_rfl) ⟨pu rfl rfl [(6, .slice A18774 n18775 c18776)] (fun ac hA => y_move hA rfl rfl) rfl rfl, pu rfl rfl [(7, .slice A18778 n18779 c18780)] (fun ac hA => y_move hA rfl rfl) rfl rfl, trivial⟩ (by kernel_rfl) (by kernel_rfl) ⟨ef rfl [(27, .slice A18774 n18775 c18776), (30, .slice (some ⟨g22214, 0, none⟩) 1 1)] (fun ac hA K hK => ?_) rfl rfl, trivial⟩
     obtain ⟨h22242, hF⟩ := chk_some hF
     have hr := hS.rd 2 rfl
     refine z_app 6 inf2 Tryd.underlying90 hA hS hr.1 hr.2.1 h22242 rfl (fun A22243 n22244 c22245 w hS => ?_) rfl rfl rfl rfl rfl rfl
     refine hK _ [] _ rfl ?_
     refine dEff [11] [15] (by kernel_rfl) ⟨pu rfl rfl [(7, .slice A18778 n18779 c18780)] (fun ac hA => y_move hA rfl rfl) rfl rfl, trivial⟩ (by kernel_rfl) (by kernel_rfl) ⟨ef rfl [(32, .slice A18778 n18779 c18780), (35, .slice (some ⟨g22237, 0, none⟩) 1 1)] (fun ac hA K hK => ?_) rfl rfl, trivial⟩
     obtain ⟨h22246, hF⟩ := chk_some hF
     have hr := hS.rd 2 rfl
     refine z_app 7 inf2 Tryd.underlying90 hA hS hr.1 hr.2.1 h22246 rfl (fun A22247 n22248 c22249 w hS => ?_) rfl rfl rfl rfl rfl rfl
     refine hK _ [(16, .slice A22239 n22240 c22241), (17, .slice A22243 n22244 c22245), (18, .slice A22247 n22248 c22249)] _ rfl ?_
     refine dEnd [16, 17, 18] (by kernel_rfl) ⟨pu rfl rfl [(26, .slice A22239 n22240 c22241)] (fun ac hA => y_assign hA rfl rfl) rfl rfl, pu rfl rfl [(31, .slice A22243 n22244 c22245)] (fun ac hA => y_assign hA rfl rfl) rfl rfl, pu rfl rfl [(36, .slice A22247 n22248 c22249)] (fun ac hA => y_assign hA rfl rfl) rfl rfl, trivial⟩ ⟨by kernel_rfl, by kernel_rfl⟩ [(0, .slice A0 n0 c0), (5, .slice A22239 n22240 c22241), (6, .slice A22243 n22244 c22245), (7, .slice A22247 n22248 c22249), (8, .slice A18782 n18783 c18784), (9, .slice A18786 n18787 c18788), (11, .pointer (some ⟨g21945, 0, none⟩)), (15, .slice A1 n1 c1), (16, .int .i64 (a1.length : Int)), (17, .int .i64 x18789)] rfl (fun ac hA => ?_)
     replace hS := hS.drop 3
     replace hS := hS.drop 3
     replace hS := hS.drop 3
     replace hS := hS.pk 7
     replace hS := hS.pk 7
     replace hS := hS.pk 7
     replace hS := hS.pk 3
     replace hS := hS.pk 4
     replace hS := hS.pk 5
     replace hS := hS.pk 7
     replace hS := hS.pk 7
     exact hj1 (l18769 ++ [x22178]) hF A22239 n22240 c22241 A22243 n22244 c22245 A22247 n22248 c22249 ac w (hA.sub _ rfl) hS
   ·refine ef rfl [(34, .int .i64 x21942.f2)] (fun ac hA K hK => ?_) rfl rfl
    refine z_bsl (d := (kI .i64)) (e := 2) (ps := #[(0, .int .i64 x21942.f2)]) (cells := [.int .i64 x21942.f2]) (xs := [x21942.f2]) (fun w => by kernel_rfl) rfl ⟨[.int .i64 x21942.f2], _, rfl, rfl, rfl⟩ hA hS (fun g22250 w hS => ?_) rfl rfl rfl
    refine hK _ [] _ rfl ?_
    refine dEff [0, 6, 7, 8, 11] [5, 9] (by kernel_rfl) ⟨pu rfl rfl [(5, .slice A18770 n18771 c18772)] (fun ac hA => y_move hA rfl rfl) rfl rfl, pu rfl rfl [(6, .slice A18774 n18775 c18776)] (fun ac hA => y_move hA rfl rfl) rfl rfl, pu rfl rfl [(11, .pointer (some ⟨g21945, 0, none⟩))] (fun ac hA => y_fab fa44_1 hA rfl rfl) rfl rfl, pu rfl rfl [(28, .pointer (some ⟨g21945, 1, none⟩))] (fun ac hA => y_ld Tryd.underlying3 (hS.cell 2 rfl 1 _ rfl) hA rfl rfl rfl) rfl rfl, pu rfl rfl [(7, .slice A18778 n18779 c18780)] (fun ac hA => y_move hA rfl rfl) rfl rfl, trivial⟩ (by kernel_rfl) (by kernel_rfl) ⟨?_, ?_, trivial⟩
    ·refine ef rfl [(21, .slice A18770 n18771 c18772), (25, .slice (some ⟨g22180, 0, none⟩) 1 1)] (fun ac hA K hK => ?_) rfl rfl
     obtain ⟨h22251, hF⟩ := chk_some hF
     have hr := hS.rd 1 rfl
     refine z_app 4 inf2 Tryd.underlying90 hA hS hr.1 hr.2.1 h22251 rfl (fun A22252 n22253 c22254 w hS => ?_) rfl rfl rfl rfl rfl rfl
     refine hK _ [] _ rfl ?_
     refine dEff [6, 7, 8, 11] [9] (by kernel_rfl) ⟨pu rfl rfl [(6, .slice A18774 n18775 c18776)] (fun ac hA => y_move hA rfl rfl) rfl rfl, pu rfl rfl [(11, .pointer (some ⟨g21945, 0, none⟩))] (fun ac hA => y_fab fa44_1 hA rfl rfl) rfl rfl, pu rfl rfl [(28, .pointer (some ⟨g21945, 1, none⟩))] (fun ac hA => y_ld Tryd.underlying3 (hS.cell 3 rfl 1 _ rfl) hA rfl rfl rfl) rfl rfl, pu rfl rfl [(7, .slice A18778 n18779 c18780)] (fun ac hA => y_move hA rfl rfl) rfl rfl, trivial⟩ (by kernel_rfl) (by kernel_rfl) ⟨ef rfl [(29, .int .i64 x21942.f1)] (fun ac hA K hK => ?_) rfl rfl, trivial⟩
     refine z_bsl (d := (kI .i64)) (e := 2) (ps := #[(0, .int .i64 x21942.f1)]) (cells := [.int .i64 x21942.f1]) (xs := [x21942.f1]) (fun w => by kernel_rfl) rfl ⟨[.int .i64 x21942.f1], _, rfl, rfl, rfl⟩ hA hS (fun g22255 w hS => ?_) rfl rfl rfl
     refine hK _ [] _ rfl ?_
     refine dEff [6, 11] [10] (by kernel_rfl) ⟨pu rfl rfl [(6, .slice A18774 n18775 c18776)] (fun ac hA => y_move hA rfl rfl) rfl rfl, pu rfl rfl [(7, .slice A18778 n18779 c18780)] (fun ac hA => y_move hA rfl rfl) rfl rfl, trivial⟩ (by kernel_rfl) (by kernel_rfl) ⟨ef rfl [(27, .slice A18774 n18775 c18776), (30, .slice (some ⟨g22255, 0, none⟩) 1 1)] (fun ac hA K hK => ?_) rfl rfl, trivial⟩
     obtain ⟨h22256, hF⟩ := chk_some hF
     have hr := hS.rd 0 rfl
     refine z_app 6 inf2 Tryd.underlying90 hA hS hr.1 hr.2.1 h22256 rfl (fun A22257 n22258 c22259 w hS => ?_) rfl rfl rfl rfl rfl rfl
     refine hK _ [] _ rfl ?_
     refine dEff [11] [15] (by kernel_rfl) ⟨pu rfl rfl [(7, .slice A18778 n18779 c18780)] (fun ac hA => y_move hA rfl rfl) rfl rfl, trivial⟩ (by kernel_rfl) (by kernel_rfl) ⟨ef rfl [(32, .slice A18778 n18779 c18780), (35, .slice (some ⟨g22250, 0, none⟩) 1 1)] (fun ac hA K hK => ?_) rfl rfl, trivial⟩
     obtain ⟨h22260, hF⟩ := chk_some hF
     have hr := hS.rd 3 rfl
     refine z_app 7 inf2 Tryd.underlying90 hA hS hr.1 hr.2.1 h22260 rfl (fun A22261 n22262 c22263 w hS => ?_) rfl rfl rfl rfl rfl rfl
     refine hK _ [(16, .slice A22252 n22253 c22254), (17, .slice A22257 n22258 c22259), (18, .slice A22261 n22262 c22263)] _ rfl ?_
     refine dEnd [16, 17, 18] (by kernel_rfl) ⟨pu rfl rfl [(26, .slice A22252 n22253 c22254)] (fun ac hA => y_assign hA rfl rfl) rfl rfl, pu rfl rfl [(31, .slice A22257 n22258 c22259)] (fun ac hA => y_assign hA rfl rfl) rfl rfl, pu rfl rfl [(36, .slice A22261 n22262 c22263)] (fun ac hA => y_assign hA rfl rfl) rfl rfl, trivial⟩ ⟨by kernel_rfl, by kernel_rfl⟩ [(0, .slice A0 n0 c0), (5, .slice A22252 n22253 c22254), (6, .slice A22257 n22258 c22259), (7, .slice A22261 n22262 c22263), (8, .slice A18782 n18783 c18784), (9, .slice A18786 n18787 c18788), (11, .pointer (some ⟨g21945, 0, none⟩)), (15, .slice A1 n1 c1), (16, .int .i64 (a1.length : Int)), (17, .int .i64 x18789)] rfl (fun ac hA => ?_)
     replace hS := hS.drop 2
     replace hS := hS.drop 3
     replace hS := hS.drop 3
     replace hS := hS.pk 7
     replace hS := hS.pk 7
     replace hS := hS.pk 7
     replace hS := hS.pk 3
     replace hS := hS.pk 4
     replace hS := hS.pk 5
     replace hS := hS.pk 7
     replace hS := hS.pk 7
     exact hj1 (l18769 ++ [x22178]) hF A22252 n22253 c22254 A22257 n22258 c22259 A22261 n22262 c22263 ac w (hA.sub _ rfl) hS
    ·refine ef rfl [(29, .int .i64 x21942.f1)] (fun ac hA K hK => ?_) rfl rfl
     refine z_bsl (d := (kI .i64)) (e := 2) (ps := #[(0, .int .i64 x21942.f1)]) (cells := [.int .i64 x21942.f1]) (xs := [x21942.f1]) (fun w => by kernel_rfl) rfl ⟨[.int .i64 x21942.f1], _, rfl, rfl, rfl⟩ hA hS (fun g22264 w hS => ?_) rfl rfl rfl
     refine hK _ [] _ rfl ?_
     refine dEff [0, 6, 11] [5] (by kernel_rfl) ⟨pu rfl rfl [(5, .slice A18770 n18771 c18772)] (fun ac hA => y_move hA rfl rfl) rfl rfl, pu rfl rfl [(6, .slice A18774 n18775 c18776)] (fun ac hA => y_move hA rfl rfl) rfl rfl, pu rfl rfl [(7, .slice A18778 n18779 c18780)] (fun ac hA => y_move hA rfl rfl) rfl rfl, trivial⟩ (by kernel_rfl) (by kernel_rfl) ⟨ef rfl [(21, .slice A18770 n18771 c18772), (25, .slice (some ⟨g22180, 0, none⟩) 1 1)] (fun ac hA K hK => ?_) rfl rfl, trivial⟩
     obtain ⟨h22265, hF⟩ := chk_some hF
     have hr := hS.rd 2 rfl
     refine z_app 5 inf2 Tryd.underlying90 hA hS hr.1 hr.2.1 h22265 rfl (fun A22266 n22267 c22268 w hS => ?_) rfl rfl rfl rfl rfl rfl
     refine hK _ [] _ rfl ?_
     refine dEff [6, 11] [10] (by kernel_rfl) ⟨pu rfl rfl [(6, .slice A18774 n18775 c18776)] (fun ac hA => y_move hA rfl rfl) rfl rfl, pu rfl rfl [(7, .slice A18778 n18779 c18780)] (fun ac hA => y_move hA rfl rfl) rfl rfl, trivial⟩ (by kernel_rfl) (by kernel_rfl) ⟨ef rfl [(27, .slice A18774 n18775 c18776), (30, .slice (some ⟨g22264, 0, none⟩) 1 1)] (fun ac hA K hK => ?_) rfl rfl, trivial⟩
     obtain ⟨h22269, hF⟩ := chk_some hF
     have hr := hS.rd 1 rfl
     refine z_app 6 inf2 Tryd.underlying90 hA hS hr.1 hr.2.1 h22269 rfl (fun A22270 n22271 c22272 w hS => ?_) rfl rfl rfl rfl rfl rfl
     refine hK _ [] _ rfl ?_
     refine dEff [11] [15] (by kernel_rfl) ⟨pu rfl rfl [(7, .slice A18778 n18779 c18780)] (fun ac hA => y_move hA rfl rfl) rfl rfl, trivial⟩ (by kernel_rfl) (by kernel_rfl) ⟨ef rfl [(32, .slice A18778 n18779 c18780), (35, .slice (some ⟨g22250, 0, none⟩) 1 1)] (fun ac hA K hK => ?_) rfl rfl, trivial⟩
     obtain ⟨h22273, hF⟩ := chk_some hF
     have hr := hS.rd 3 rfl
     refine z_app 7 inf2 Tryd.underlying90 hA hS hr.1 hr.2.1 h22273 rfl (fun A22274 n22275 c22276 w hS => ?_) rfl rfl rfl rfl rfl rfl
     refine hK _ [(16, .slice A22266 n22267 c22268), (17, .slice A22270 n22271 c22272), (18, .slice A22274 n22275 c22276)] _ rfl ?_
     refine dEnd [16, 17, 18] (by kernel_rfl) ⟨pu rfl rfl [(26, .slice A22266 n22267 c22268)] (fun ac hA => y_assign hA rfl rfl) rfl rfl, pu rfl rfl [(31, .slice A22270 n22271 c22272)] (fun ac hA => y_assign hA rfl rfl) rfl rfl, pu rfl rfl [(36, .slice A22274 n22275 c22276)] (fun ac hA => y_assign hA rfl rfl) rfl rfl, trivial⟩ ⟨by kernel_rfl, by kernel_rfl⟩ [(0, .slice A0 n0 c0), (5, .slice A22266 n22267 c22268), (6, .slice A22270 n22271 c22272), (7, .slice A22274 n22275 c22276), (8, .slice A18782 n18783 c18784), (9, .slice A18786 n18787 c18788), (11, .pointer (some ⟨g21945, 0, none⟩)), (15, .slice A1 n1 c1), (16, .int .i64 (a1.length : Int)), (17, .int .i64 x18789)] rfl (fun ac hA => ?_)
     replace hS := hS.drop 3
     replace hS := hS.drop 3
     replace hS := hS.drop 3
     replace hS := hS.pk 7
     replace hS := hS.pk 7
     replace hS := hS.pk 7
     replace hS := hS.pk 3
     replace hS := hS.pk 4
     replace hS := hS.pk 5
     replace hS := hS.pk 7
     replace hS := hS.pk 7
     exact hj1 (l18769 ++ [x22178]) hF A22266 n22267 c22268 A22270 n22271 c22272 A22274 n22275 c22276 ac w (hA.sub _ rfl) hS
  ·refine ef rfl [(29, .int .i64 x21942.f1)] (fun ac hA K hK => ?_) rfl rfl
   refine z_bsl (d := (kI .i64)) (e := 2) (ps := #[(0, .int .i64 x21942.f1)]) (cells := [.int .i64 x21942.f1]) (xs := [x21942.f1]) (fun w => by kernel_rfl) rfl ⟨[.int .i64 x21942.f1], _, rfl, rfl, rfl⟩ hA hS (fun g22277 w hS => ?_) rfl rfl rfl
   refine hK _ [] _ rfl ?_
   refine dEff [0, 1, 2, 3, 6, 11, 12, 13] [4, 14] (by kernel_rfl) ⟨pu rfl rfl [(5, .slice A18770 n18771 c18772)] (fun ac hA => y_move hA rfl rfl) rfl rfl, pu rfl rfl [(11, .pointer (some ⟨g21945, 0, none⟩))] (fun ac hA => y_fab fa44_0 hA rfl rfl) rfl rfl, pu rfl rfl [(22, .pointer (some ⟨g21945, 0, none⟩))] (fun ac hA => y_ld Tryd.underlying31 (hS.cell 1 rfl 0 _ rfl) hA rfl rfl rfl) rfl rfl, pu rfl rfl [(23, .int .u64 x21942.f0)] (fun ac hA => (rv_i h22179 (r_convI Tryd.underlying31 Tryd.underlying2 rfl (hA.ev rfl)) : RunV _ _ _ _ (.int .i64 x22178))) rfl rfl, pu rfl rfl [(6, .slice A18774 n18775 c18776)] (fun ac hA => y_move hA rfl rfl) rfl rfl, pu rfl rfl [(7, .slice A18778 n18779 c18780)] (fun ac hA => y_move hA rfl rfl) rfl rfl, pu rfl rfl [(11, .pointer (some ⟨g21945, 0, none⟩))] (fun ac hA => y_fab fa44_2 hA rfl rfl) rfl rfl, pu rfl rfl [(33, .pointer (some ⟨g21945, 2, none⟩))] (fun ac hA => y_ld Tryd.underlying2 (hS.cell 1 rfl 2 _ rfl) hA rfl rfl rfl) rfl rfl, trivial⟩ (by kernel_rfl) (by kernel_rfl) ⟨?_, ?_, trivial⟩
   ·refine ef rfl [(24, .int .i64 x22178)] (fun ac hA K hK => ?_) rfl rfl
    refine z_bsl (d := (kI .i64)) (e := 2) (ps := #[(0, .int .i64 x22178)]) (cells := [.int .i64 x22178]) (xs := [x22178]) (fun w => by kernel_rfl) rfl ⟨[.int .i64 x22178], _, rfl, rfl, rfl⟩ hA hS (fun g22278 w hS => ?_) rfl rfl rfl
    refine hK _ [] _ rfl ?_
    refine dEff [0, 6, 11, 12, 13] [5, 14] (by kernel_rfl) ⟨pu rfl rfl [(5, .slice A18770 n18771 c18772)] (fun ac hA => y_move hA rfl rfl) rfl rfl, pu rfl rfl [(6, .slice A18774 n18775 c18776)] (fun ac hA => y_move hA rfl rfl) rfl rfl, pu rfl rfl [(7, .slice A18778 n18779 c18780)] (fun ac hA => y_move hA rfl rfl) rfl rfl, pu rfl rfl [(11, .pointer (some ⟨g21945, 0, none⟩))] (fun ac hA => y_fab fa44_2 hA rfl rfl) rfl rfl, pu rfl rfl [(33, .pointer (some ⟨g21945, 2, none⟩))] (fun ac hA => y_ld Tryd.underlying2 (hS.cell 2 rfl 2 _ rfl) hA rfl rfl rfl) rfl rfl, trivial⟩ (by kernel_rfl) (by kernel_rfl) ⟨?_, ?_, trivial⟩
    ·refine ef rfl [(21, .slice A18770 n18771 c18772), (25, .slice (some ⟨g22278, 0, none⟩) 1 1)] (fun ac hA K hK => ?_) rfl rfl
     obtain ⟨h22279, hF⟩ := chk_some hF
     have hr := hS.rd 0 rfl
     refine z_app 4 inf2 Tryd.underlying90 hA hS hr.1 hr.2.1 h22279 rfl (fun A22280 n22281 c22282 w hS => ?_) rfl rfl rfl rfl rfl rfl
     refine hK _ [] _ rfl ?_
     refine dEff [6, 11, 12, 13] [10, 14] (by kernel_rfl) ⟨pu rfl rfl [(6, .slice A18774 n18775 c18776)] (fun ac hA => y_move hA rfl rfl) rfl rfl, pu rfl rfl [(7, .slice A18778 n18779 c18780)] (fun ac hA => y_move hA rfl rfl) rfl rfl, pu rfl rfl [(11, .pointer (some ⟨g21945, 0, none⟩))] (fun ac hA => y_fab fa44_2 hA rfl rfl) rfl rfl, pu rfl rfl [(33, .pointer (some ⟨g21945, 2, none⟩))] (fun ac hA => y_ld Tryd.underlying2 (hS.cell 3 rfl 2 _ rfl) hA rfl rfl rfl) rfl rfl, trivial⟩ (by kernel_rfl) (by kernel_rfl) ⟨?_, ?_, trivial⟩
     ·refine ef rfl [(27, .slice A18774 n18775 c18776), (30, .slice (some ⟨g22277, 0, none⟩) 1 1)] (fun ac hA K hK => ?_) rfl rfl
      obtain ⟨h22283, hF⟩ := chk_some hF
      have hr := hS.rd 2 rfl
      refine z_app 5 inf2 Tryd.underlying90 hA hS hr.1 hr.2.1 h22283 rfl (fun A22284 n22285 c22286 w hS => ?_) rfl rfl rfl rfl rfl rfl
      refine hK _ [] _ rfl ?_
      refine dEff [11, 12, 13] [14] (by kernel_rfl) ⟨pu rfl rfl [(7, .slice A18778 n18779 c18780)] (fun ac hA => y_move hA rfl rfl) rfl rfl, pu rfl rfl [(11, .pointer (some ⟨g21945, 0, none⟩))] (fun ac hA => y_fab fa44_2 hA rfl rfl) rfl rfl, pu rfl rfl [(33, .pointer (some ⟨g21945, 2, none⟩))] (fun ac hA => y_ld Tryd.underlying2 (hS.cell 4 rfl 2 _ rfl) hA rfl rfl rfl) rfl rfl, trivial⟩ (by kernel_rfl) (by kernel_rfl) ⟨ef rfl [(34, .int .i64 x21942.f2)] (fun ac hA K hK => ?_) rfl rfl, trivial⟩
      refine z_bsl (d := (kI .i64)) (e := 2) (ps := #[(0, .int .i64 x21942.f2)]) (cells := [.int .i64 x21942.f2]) (xs := [x21942.f2]) (fun w => by kernel_rfl) rfl ⟨[.int .i64 x21942.f2], _, rfl, rfl, rfl⟩ hA hS (fun g22287 w hS => ?_) rfl rfl rfl
      refine hK _ [] _ rfl ?_
      refine dEff [11] [15] (by kernel_rfl) ⟨pu rfl rfl [(7, .slice A18778 n18779 c18780)] (fun ac hA => y_move hA rfl rfl) rfl rfl, trivial⟩ (by kernel_rfl) (by kernel_rfl) ⟨ef rfl [(32, .slice A18778 n18779 c18780), (35, .slice (some ⟨g22287, 0, none⟩) 1 1)] (fun ac hA K hK => ?_) rfl rfl, trivial⟩
      obtain ⟨h22288, hF⟩ := chk_some hF
      have hr := hS.rd 0 rfl
      refine z_app 7 inf2 Tryd.underlying90 hA hS hr.1 hr.2.1 h22288 rfl (fun A22289 n22290 c22291 w hS => ?_) rfl rfl rfl rfl rfl rfl
      refine hK _ [(16, .slice A22280 n22281 c22282), (17, .slice A22284 n22285 c22286), (18, .slice A22289 n22290 c22291)] _ rfl ?_
      refine dEnd [16, 17, 18] (by kernel_rfl) ⟨pu rfl rfl [(26, .slice A22280 n22281 c22282)] (fun ac hA => y_assign hA rfl rfl) rfl rfl, pu rfl rfl [(31, .slice A22284 n22285 c22286)] (fun ac hA => y_assign hA rfl rfl) rfl rfl, pu rfl rfl [(36, .slice A22289 n22290 c22291)] (fun ac hA => y_assign hA rfl rfl) rfl rfl, trivial⟩ ⟨by kernel_rfl, by kernel_rfl⟩ [(0, .slice A0 n0 c0), (5, .slice A22280 n22281 c22282), (6, .slice A22284 n22285 c22286), (7, .slice A22289 n22290 c22291), (8, .slice A18782 n18783 c18784), (9, .slice A18786 n18787 c18788), (11, .pointer (some ⟨g21945, 0, none⟩)), (15, .slice A1 n1 c1), (16, .int .i64 (a1.length : Int)), (17, .int .i64 x18789)] rfl (fun ac hA => ?_)
      replace hS := hS.drop 1
      replace hS := hS.drop 3
      replace hS := hS.drop 3
      replace hS := hS.pk 7
      replace hS := hS.pk 7
      replace hS := hS.pk 7
      replace hS := hS.pk 3
      replace hS := hS.pk 4
      replace hS := hS.pk 5
      replace hS := hS.pk 7
      replace hS := hS.pk 7
      exact hj1 (l18769 ++ [x22178]) hF A22280 n22281 c22282 A22284 n22285 c22286 A22289 n22290 c22291 ac w (hA.sub _ rfl) hS
     ·refine ef rfl [(34, .int .i64 x21942.f2)] (fun ac hA K hK => ?_) rfl rfl
      refine z_bsl (d := (kI .i64)) (e := 2) (ps := #[(0, .int .i64 x21942.f2)]) (cells := [.int .i64 x21942.f2]) (xs := [x21942.f2]) (fun w => by kernel_rfl) rfl ⟨[.int .i64 x21942.f2], _, rfl, rfl, rfl⟩ hA hS (fun g22292 w hS => ?_) rfl rfl rfl
      refine hK _ [] _ rfl ?_
      refine dEff [6, 11] [10] (by kernel_rfl) ⟨pu rfl rfl [(6, .slice A18774 n18775 c18776)] (fun ac hA => y_move hA rfl rfl) rfl rfl, pu rfl rfl [(7, .slice A18778 n18779 c18780)] (fun ac hA => y_move hA rfl rfl) rfl rfl, trivial⟩ (by kernel_rfl) (by kernel_rfl) ⟨ef rfl [(27, .slice A18774 n18775 c18776), (30, .slice (some ⟨g22277, 0, none⟩) 1 1)] (fun ac hA K hK => ?_) rfl rfl, trivial⟩
      obtain ⟨h22293, hF⟩ := chk_some hF
      have hr := hS.rd 3 rfl
      refine z_app 6 inf2 Tryd.underlying90 hA hS hr.1 hr.2.1 h22293 rfl (fun A22294 n22295 c22296 w hS => ?_) rfl rfl rfl rfl rfl rfl
      refine hK _ [] _ rfl ?_
      refine dEff [11] [15] (by kernel_rfl) ⟨pu rfl rfl [(7, .slice A18778 n18779 c18780)] (fun ac hA => y_move hA rfl rfl) rfl rfl, trivial⟩ (by kernel_rfl) (by kernel_rfl) ⟨ef rfl [(32, .slice A18778 n18779 c18780), (35, .slice (some ⟨g22292, 0, none⟩) 1 1)] (fun ac hA K hK => ?_) rfl rfl, trivial⟩
      obtain ⟨h22297, hF⟩ := chk_some hF
      have hr := hS.rd 1 rfl
      refine z_app 7 inf2 Tryd.underlying90 hA hS hr.1 hr.2.1 h22297 rfl (fun A22298 n22299 c22300 w hS => ?_) rfl rfl rfl rfl rfl rfl
      refine hK _ [(16, .slice A22280 n22281 c22282), (17, .slice A22294 n22295 c22296), (18, .slice A22298 n22299 c22300)] _ rfl ?_
      refine dEnd [16, 17, 18] (by kernel_rfl) ⟨pu rfl rfl [(26, .slice A22280 n22281 c22282)] (fun ac hA => y_assign hA rfl rfl) rfl rfl, pu rfl rfl [(31, .slice A22294 n22295 c22296)] (fun ac hA => y_assign hA rfl rfl) rfl rfl, pu rfl rfl [(36, .slice A22298 n22299 c22300)] (fun ac hA => y_assign hA rfl rfl) rfl rfl, trivial⟩ ⟨by kernel_rfl, by kernel_rfl⟩ [(0, .slice A0 n0 c0), (5, .slice A22280 n22281 c22282), (6, .slice A22294 n22295 c22296), (7, .slice A22298 n22299 c22300), (8, .slice A18782 n18783 c18784), (9, .slice A18786 n18787 c18788), (11, .pointer (some ⟨g21945, 0, none⟩)), (15, .slice A1 n1 c1), (16, .int .i64 (a1.length : Int)), (17, .int .i64 x18789)] rfl (fun ac hA => ?_)
      replace hS := hS.drop 2
      replace hS := hS.drop 3
      replace hS := hS.drop 3
      replace hS := hS.pk 7
      replace hS := hS.pk 7
      replace hS := hS.pk 7
      replace hS := hS.pk 3
      replace hS := hS.pk 4
      replace hS := hS.pk 5
      replace hS := hS.pk 7
      replace hS := hS.pk 7
      exact hj1 (l18769 ++ [x22178]) hF A22280 n22281 c22282 A22294 n22295 c22296 A22298 n22299 c22300 ac w (hA.sub _ rfl) hS
    ·refine ef rfl [(34, .int .i64 x21942.f2)] (fun ac hA K hK => ?_) rfl rfl
     refine z_bsl (d := (kI .i64)) (e := 2) (ps := #[(0, .int .i64 x21942.f2)]) (cells := [.int .i64 x21942.f2]) (xs := [x21942.f2]) (fun w => by kernel_rfl) rfl ⟨[.int .i64 x21942.f2], _, rfl, rfl, rfl⟩ hA hS (fun g22301 w hS => ?_) rfl rfl rfl
     refine hK _ [] _ rfl ?_
     refine dEff [0, 6, 11] [5] (by kernel_rfl) ⟨pu rfl rfl [(5, .slice A18770 n18771 c18772)] (fun ac hA => y_move hA rfl rfl) rfl rfl, pu rfl rfl [(6, .slice A18774 n18775 c18776)] (fun ac hA => y_move hA rfl rfl) rfl rfl, pu rfl rfl [(7, .slice A18778 n18779 c18780)] (fun ac hA => y_move hA rfl rfl) rfl rfl, trivial⟩ (by kernel_rfl) (by kernel_rfl) ⟨ef rfl [(21, .slice A18770 n18771 c18772), (25, .slice (some ⟨g22278, 0, none⟩) 1 1)] (fun ac hA K hK => ?_) rfl rfl, trivial⟩
     obtain ⟨h22302, hF⟩ := chk_some hF
     have hr := hS.rd 1 rfl
     refine z_app 5 inf2 Tryd.underlying90 hA hS hr.1 hr.2.1 h22302 rfl (fun A22303 n22304 c22305 w hS => ?_) rfl rfl rfl rfl rfl rfl
     refine hK _ [] _ rfl ?_
     refine dEff [6, 11] [10] (by kernel_rfl) ⟨pu rfl rfl [(6, .slice A18774 n18775 c18776)] (fun ac hA => y_move hA rfl rfl) rfl rfl, pu rfl rfl [(7, .slice A18778 n18779 c18780)] (fun ac hA => y_move hA rfl rfl) rfl rfl, trivial⟩ (by kernel_rfl) (by kernel_rfl) ⟨ef rfl [(27, .slice A18774 n18775 c18776), (30, .slice (some ⟨g22277, 0, none⟩) 1 1)] (fun ac hA K hK => ?_) rfl rfl, trivial⟩
     obtain ⟨h22306, hF⟩ := chk_some hF
     have hr := hS.rd 3 rfl
     refine z_app 6 inf2 Tryd.underlying90 hA hS hr.1 hr.2.1 h22306 rfl (fun A22307 n22308 c22309 w hS => ?_) rfl rfl rfl rfl rfl rfl
     refine hK _ [] _ rfl ?_
     refine dEff [11] [15] (by kernel_rfl) ⟨pu rfl rfl [(7, .slice A18778 n18779 c18780)] (fun ac hA => y_move hA rfl rfl) rfl rfl, trivial⟩ (by kernel_rfl) (by kernel_rfl) ⟨ef rfl [(32, .slice A18778 n18779 c18780), (35, .slice (some ⟨g22301, 0, none⟩) 1 1)] (fun ac hA K hK => ?_) rfl rfl, trivial⟩
     obtain ⟨h22310, hF⟩ := chk_some hF
     have hr := hS.rd 2 rfl
     refine z_app 7 inf2 Tryd.underlying90 hA hS hr.1 hr.2.1 h22310 rfl (fun A22311 n22312 c22313 w hS => ?_) rfl rfl rfl rfl rfl rfl
     refine hK _ [(16, .slice A22303 n22304 c22305), (17, .slice A22307 n22308 c22309), (18, .slice A22311 n22312 c22313)] _ rfl ?_
     refine dEnd [16, 17, 18] (by kernel_rfl) ⟨pu rfl rfl [(26, .slice A22303 n22304 c22305)] (fun ac hA => y_assign hA rfl rfl) rfl rfl, pu rfl rfl [(31, .slice A22307 n22308 c22309)] (fun ac hA => y_assign hA rfl rfl) rfl rfl, pu rfl rfl [(36, .slice A22311 n22312 c22313)] (fun ac hA => y_assign hA rfl rfl) rfl rfl, trivial⟩ ⟨by kernel_rfl, by kernel_rfl⟩ [(0, .slice A0 n0 c0), (5, .slice A22303 n22304 c22305), (6, .slice A22307 n22308 c22309), (7, .slice A22311 n22312 c22313), (8, .slice A18782 n18783 c18784), (9, .slice A18786 n18787 c18788), (11, .pointer (some ⟨g21945, 0, none⟩)), (15, .slice A1 n1 c1), (16, .int .i64 (a1.length : Int)), (17, .int .i64 x18789)] rfl (fun ac hA => ?_)
     replace hS := hS.drop 3
     replace hS := hS.drop 3
     replace hS := hS.drop 3
     replace hS := hS.pk 7
     replace hS := hS.pk 7
     replace hS := hS.pk 7
     replace hS := hS.pk 3
     replace hS := hS.pk 4
     replace hS := hS.pk 5
     replace hS := hS.pk 7
     replace hS := hS.pk 7
     exact hj1 (l18769 ++ [x22178]) hF A22303 n22304 c22305 A22307 n22308 c22309 A22311 n22312 c22313 ac w (hA.sub _ rfl) hS
   ·refine ef rfl [(34, .int .i64 x21942.f2)] (fun ac hA K hK => ?_) rfl rfl
    refine z_bsl (d := (kI .i64)) (e := 2) (ps := #[(0, .int .i64 x21942.f2)]) (cells := [.int .i64 x21942.f2]) (xs := [x21942.f2]) (fun w => by kernel_rfl) rfl ⟨[.int .i64 x21942.f2], _, rfl, rfl, rfl⟩ hA hS (fun g22314 w hS => ?_) rfl rfl rfl
    refine hK _ [] _ rfl ?_
    refine dEff [0, 1, 2, 3, 6, 11] [4] (by kernel_rfl) ⟨pu rfl rfl [(5, .slice A18770 n18771 c18772)] (fun ac hA => y_move hA rfl rfl) rfl rfl, pu rfl rfl [(11, .pointer (some ⟨g21945, 0, none⟩))] (fun ac hA => y_fab fa44_0 hA rfl rfl) rfl rfl, pu rfl rfl [(22, .pointer (some ⟨g21945, 0, none⟩))] (fun ac hA => y_ld Tryd.underlying31 (hS.cell 2 rfl 0 _ rfl) hA rfl rfl rfl) rfl rfl, pu rfl rfl [(23, .int .u64 x21942.f0)] (fun ac hA => (rv_i h22179 (r_convI Tryd.underlying31 Tryd.underlying2 rfl (hA.ev rfl)) : RunV _ _ _ _ (.int .i64 x22178))) rfl rfl, pu rfl rfl [(6, .slice A18774 n18775 c18776)] (fun ac hA => y_move hA rfl rfl) rfl rfl, pu rfl rfl [(7, .slice A18778 n18779 c18780)] (fun ac hA => y_move hA rfl rfl) rfl rfl, trivial⟩ (by kernel_rfl) (by kernel_rfl) ⟨ef rfl [(24, .int .i64 x22178)] (fun ac hA K hK => ?_) rfl rfl, trivial⟩
    refine z_bsl (d := (kI .i64)) (e := 2) (ps := #[(0, .int .i64 x22178)]) (cells := [.int .i64 x22178]) (xs := [x22178]) (fun w => by kernel_rfl) rfl ⟨[.int .i64 x22178], _, rfl, rfl, rfl⟩ hA hS (fun g22315 w hS => ?_) rfl rfl rfl
    refine hK _ [] _ rfl ?_
    refine dEff [0, 6, 11] [5] (by kernel_rfl) ⟨pu rfl rfl [(5, .slice A18770 n18771 c18772)] (fun ac hA => y_move hA rfl rfl) rfl rfl, pu rfl rfl [(6, .slice A18774 n18775 c18776)] (fun ac hA => y_move hA rfl rfl) rfl rfl, pu rfl rfl [(7, .slice A18778 n18779 c18780)] (fun ac hA => y_move hA rfl rfl) rfl rfl, trivial⟩ (by kernel_rfl) (by kernel_rfl) ⟨ef rfl [(21, .slice A18770 n18771 c18772), (25, .slice (some ⟨g22315, 0, none⟩) 1 1)] (fun ac hA K hK => ?_) rfl rfl, trivial⟩
    obtain ⟨h22316, hF⟩ := chk_some hF
    have hr := hS.rd 0 rfl
    refine z_app 5 inf2 Tryd.underlying90 hA hS hr.1 hr.2.1 h22316 rfl (fun A22317 n22318 c22319 w hS => ?_) rfl rfl rfl rfl rfl rfl
    refine hK _ [] _ rfl ?_
    refine dEff [6, 11] [10] (by kernel_rfl) ⟨pu rfl rfl [(6, .slice A18774 n18775 c18776)] (fun ac hA => y_move hA rfl rfl) rfl rfl, pu rfl rfl [(7, .slice A18778 n18779 c18780)] (fun ac hA => y_move hA rfl rfl) rfl rfl, trivial⟩ (by kernel_rfl) (by kernel_rfl) ⟨ef rfl [(27, .slice A18774 n18775 c18776), (30, .slice (some ⟨g22277, 0, none⟩) 1 1)] (fun ac hA K hK => ?_) rfl rfl, trivial⟩
    obtain ⟨h22320, hF⟩ := chk_some hF
    have hr := hS.rd 3 rfl
    refine z_app 6 inf2 Tryd.underlying90 hA hS hr.1 hr.2.1 h22320 rfl (fun A22321 n22322 c22323 w hS => ?_) rfl rfl rfl rfl rfl rfl
    refine hK _ [] _ rfl ?_
    refine dEff [11] [15] (by kernel_rfl) ⟨pu rfl rfl [(7, .slice A18778 n18779 c18780)] (fun ac hA => y_move hA rfl rfl) rfl rfl, trivial⟩ (by kernel_rfl) (by kernel_rfl) ⟨ef rfl [(32, .slice A18778 n18779 c18780), (35, .slice (some ⟨g22314, 0, none⟩) 1 1)] (fun ac hA K hK => ?_) rfl rfl, trivial⟩
    obtain ⟨h22324, hF⟩ := chk_some hF
    have hr := hS.rd 3 rfl
    refine z_app 7 inf2 Tryd.underlying90 hA hS hr.1 hr.2.1 h22324 rfl (fun A22325 n22326 c22327 w hS => ?_) rfl rfl rfl rfl rfl rfl
    refine hK _ [(16, .slice A22317 n22318 c22319), (17, .slice A22321 n22322 c22323), (18, .slice A22325 n22326 c22327)] _ rfl ?_
    refine dEnd [16, 17, 18] (by kernel_rfl) ⟨pu rfl rfl [(26, .slice A22317 n22318 c22319)] (fun ac hA => y_assign hA rfl rfl) rfl rfl, pu rfl rfl [(31, .slice A22321 n22322 c22323)] (fun ac hA => y_assign hA rfl rfl) rfl rfl, pu rfl rfl [(36, .slice A22325 n22326 c22327)] (fun ac hA => y_assign hA rfl rfl) rfl rfl, trivial⟩ ⟨by kernel_rfl, by kernel_rfl⟩ [(0, .slice A0 n0 c0), (5, .slice A22317 n22318 c22319), (6, .slice A22321 n22322 c22323), (7, .slice A22325 n22326 c22327), (8, .slice A18782 n18783 c18784), (9, .slice A18786 n18787 c18788), (11, .pointer (some ⟨g21945, 0, none⟩)), (15, .slice A1 n1 c1), (16, .int .i64 (a1.length : Int)), (17, .int .i64 x18789)] rfl (fun ac hA => ?_)
    replace hS := hS.drop 3
    replace hS := hS.drop 3
    replace hS := hS.drop 3
    replace hS := hS.pk 7
    replace hS := hS.pk 7
    replace hS := hS.pk 7
    replace hS := hS.pk 3
    replace hS := hS.pk 4
    replace hS := hS.pk 5
    replace hS := hS.pk 7
    replace hS := hS.pk 7
    exact hj1 (l18769 ++ [x22178]) hF A22317 n22318 c22319 A22321 n22322 c22323 A22325 n22326 c22327 ac w (hA.sub _ rfl) hS
  ·refine ef rfl [(34, .int .i64 x21942.f2)] (fun ac hA K hK => ?_) rfl rfl
   refine z_bsl (d := (kI .i64)) (e := 2) (ps := #[(0, .int .i64 x21942.f2)]) (cells := [.int .i64 x21942.f2]) (xs := [x21942.f2]) (fun w => by kernel_rfl) rfl ⟨[.int .i64 x21942.f2], _, rfl, rfl, rfl⟩ hA hS (fun g22328 w hS => ?_) rfl rfl rfl
   refine hK _ [] _ rfl ?_
   refine dEff [0, 1, 2, 3, 6, 7, 8, 11] [4, 9] (by kernel_rfl) ⟨pu rfl rfl [(5, .slice A18770 n18771 c18772)] (fun ac hA => y_move hA rfl rfl) rfl rfl, pu rfl rfl [(11, .pointer (some ⟨g21945, 0, none⟩))] (fun ac hA => y_fab fa44_0 hA rfl rfl) rfl rfl, pu rfl rfl [(22, .pointer (some ⟨g21945, 0, none⟩))] (fun ac hA => y_ld Tryd.underlying31 (hS.cell 1 rfl 0 _ rfl) hA rfl rfl rfl) rfl rfl, pu rfl rfl [(23, .int .u64 x21942.f0)] (fun ac hA => (rv_i h22179 (r_convI Tryd.underlying31 Tryd.underlying2 rfl (hA.ev rfl)) : RunV _ _ _ _ (.int .i64 x22178))) rfl rfl, pu rfl rfl [(6, .slice A18774 n18775 c18776)] (fun ac hA => y_move hA rfl rfl) rfl rfl, pu rfl rfl [(11, .pointer (some ⟨g21945, 0, none⟩))] (fun ac hA => y_fab fa44_1 hA rfl rfl) rfl rfl, pu rfl rfl [(28, .pointer (some ⟨g21945, 1, none⟩))] (fun ac hA => y_ld Tryd.underlying3 (hS.cell 1 rfl 1 _ rfl) hA rfl rfl rfl) rfl rfl, pu rfl rfl [(7, .slice A18778 n18779 c18780)] (fun ac hA => y_move hA rfl rfl) rfl rfl, trivial⟩ (by kernel_rfl) (by kernel_rfl) ⟨?_, ?_, trivial⟩
   ·refine ef rfl [(24, .int .i64 x22178)] (fun ac hA K hK => ?_) rfl rfl
    refine z_bsl (d := (kI .i64)) (e := 2) (ps := #[(0, .int .i64 x22178)]) (cells := [.int .i64 x22178]) (xs := [x22178]) (fun w => by kernel_rfl) rfl ⟨[.int .i64 x22178], _, rfl, rfl, rfl⟩ hA hS (fun g22329 w hS => ?_) rfl rfl rfl
    refine hK _ [] _ rfl ?_
    refine dEff [0, 6, 7, 8, 11] [5, 9] (by kernel_rfl) ⟨pu rfl rfl [(5, .slice A18770 n18771 c18772)] (fun ac hA => y_move hA rfl rfl) rfl rfl, pu rfl rfl [(6, .slice A18774 n18775 c18776)] (fun ac hA => y_move hA rfl rfl) rfl rfl, pu rfl rfl [(11, .pointer (some ⟨g21945, 0, none⟩))] (fun ac hA => y_fab fa44_1 hA rfl rfl) rfl rfl, pu rfl rfl [(28, .pointer (some ⟨g21945, 1, none⟩))] (fun ac hA => y_ld Tryd.underlying3 (hS.cell 2 rfl 1 _ rfl) hA rfl rfl rfl) rfl rfl, pu rfl rfl [(7, .slice A18778 n18779 c18780)] (fun ac hA => y_move hA rfl rfl) rfl rfl, trivial⟩ (by kernel_rfl) (by kernel_rfl) ⟨?_, ?_, trivial⟩
    ·refine ef rfl [(21, .slice A18770 n18771 c18772), (25, .slice (some ⟨g22329, 0, none⟩) 1 1)] (fun ac hA K hK => ?_) rfl rfl
     obtain ⟨h22330, hF⟩ := chk_some hF
     have hr := hS.rd 0 rfl
     refine z_app 4 inf2 Tryd.underlying90 hA hS hr.1 hr.2.1 h22330 rfl (fun A22331 n22332 c22333 w hS => ?_) rfl rfl rfl rfl rfl rfl
     refine hK _ [] _ rfl ?_
     refine dEff [6, 7, 8, 11] [9] (by kernel_rfl) ⟨pu rfl rfl [(6, .slice A18774 n18775 c18776)] (fun ac hA => y_move hA rfl rfl) rfl rfl, pu rfl rfl [(11, .pointer (some ⟨g21945, 0, none⟩))] (fun ac hA => y_fab fa44_1 hA rfl rfl) rfl rfl, pu rfl rfl [(28, .pointer (some ⟨g21945, 1, none⟩))] (fun ac hA => y_ld Tryd.underlying3 (hS.cell 3 rfl 1 _ rfl) hA rfl rfl rfl) rfl rfl, pu rfl rfl [(7, .slice A18778 n18779 c18780)] (fun ac hA => y_move hA rfl rfl) rfl rfl, trivial⟩ (by kernel_rfl) (by kernel_rfl) ⟨ef rfl [(29, .int .i64 x21942.f1)] (fun ac hA K hK => ?_) rfl rfl, trivial⟩
     refine z_bsl (d := (kI .i64)) (e := 2) (ps := #[(0, .int .i64 x21942.f1)]) (cells := [.int .i64 x21942.f1]) (xs := [x21942.f1]) (fun w => by kernel_rfl) rfl ⟨[.int .i64 x21942.f1], _, rfl, rfl, rfl⟩ hA hS (fun g22334 w hS => ?_) rfl rfl rfl
     refine hK _ [] _ rfl ?_
     refine dEff [6, 11] [10] (by kernel_rfl) ⟨pu rfl rfl [(6, .slice A18774 n18775 c18776)] (fun ac hA => y_move hA rfl rfl) rfl rfl, pu rfl rfl [(7, .slice A18778 n18779 c18780)] (fun ac hA => y_move hA rfl rfl) rfl rfl, trivial⟩ (by kernel_rfl) (by kernel_rfl) ⟨ef rfl [(27, .slice A18774 n18775 c18776), (30, .slice (some ⟨g22334, 0, none⟩) 1 1)] (fun ac hA K hK => ?_) rfl rfl, trivial⟩
     obtain ⟨h22335, hF⟩ := chk_some hF
     have hr := hS.rd 0 rfl
     refine z_app 6 inf2 Tryd.underlying90 hA hS hr.1 hr.2.1 h22335 rfl (fun A22336 n22337 c22338 w hS => ?_) rfl rfl rfl rfl rfl rfl
     refine hK _ [] _ rfl ?_
     refine dEff [11] [15] (by kernel_rfl) ⟨pu rfl rfl [(7, .slice A18778 n18779 c18780)] (fun ac hA => y_move hA rfl rfl) rfl rfl, trivial⟩ (by kernel_rfl) (by kernel_rfl) ⟨ef rfl [(32, .slice A18778 n18779 c18780), (35, .slice (some ⟨g22328, 0, none⟩) 1 1)] (fun ac hA K hK => ?_) rfl rfl, trivial⟩
     obtain ⟨h22339, hF⟩ := chk_some hF
     have hr := hS.rd 4 rfl
     refine z_app 7 inf2 Tryd.underlying90 hA hS hr.1 hr.2.1 h22339 rfl (fun A22340 n22341 c22342 w hS => ?_) rfl rfl rfl rfl rfl rfl
     refine hK _ [(16, .slice A22331 n22332 c22333), (17, .slice A22336 n22337 c22338), (18, .slice A22340 n22341 c22342)] _ rfl ?_
     refine dEnd [16, 17, 18] (by kernel_rfl) ⟨pu rfl rfl [(26, .slice A22331 n22332 c22333)] (fun ac hA => y_assign hA rfl rfl) rfl rfl, pu rfl rfl [(31, .slice A22336 n22337 c22338)] (fun ac hA => y_assign hA rfl rfl) rfl rfl, pu rfl rfl [(36, .slice A22340 n22341 c22342)] (fun ac hA => y_assign hA rfl rfl) rfl rfl, trivial⟩ ⟨by kernel_rfl, by kernel_rfl⟩ [(0, .slice A0 n0 c0), (5, .slice A22331 n22332 c22333), (6, .slice A22336 n22337 c22338), (7, .slice A22340 n22341 c22342), (8, .slice A18782 n18783 c18784), (9, .slice A18786 n18787 c18788), (11, .pointer (some ⟨g21945, 0, none⟩)), (15, .slice A1 n1 c1), (16, .int .i64 (a1.length : Int)), (17, .int .i64 x18789)] rfl (fun ac hA => ?_)
     replace hS := hS.drop 2
     replace hS := hS.drop 3
     replace hS := hS.drop 3
     replace hS := hS.pk 7
     replace hS := hS.pk 7
     replace hS := hS.pk 7
     replace hS := hS.pk 3
     replace hS := hS.pk 4
     replace hS := hS.pk 5
     replace hS := hS.pk 7
     replace hS := hS.pk 7
     exact hj1 (l18769 ++ [x22178]) hF A22331 n22332 c22333 A22336 n22337 c22338 A22340 n22341 c22342 ac w (hA.sub _ rfl) hS
    ·refine ef rfl [(29, .int .i64 x21942.f1)] (fun ac hA K hK => ?_) rfl rfl
     refine z_bsl (d := (kI .i64)) (e := 2) (ps := #[(0, .int .i64 x21942.f1)]) (cells := [.int .i64 x21942.f1]) (xs := [x21942.f1]) (fun w => by kernel_rfl) rfl ⟨[.int .i64 x21942.f1], _, rfl, rfl, rfl⟩ hA hS (fun g22343 w hS => ?_) rfl rfl rfl
     refine hK _ [] _ rfl ?_
     refine dEff [0, 6, 11] [5] (by kernel_rfl) ⟨pu rfl rfl [(5, .slice A18770 n18771 c18772)] (fun ac hA => y_move hA rfl rfl) rfl rfl, pu rfl rfl [(6, .slice A18774 n18775 c18776)] (fun ac hA => y_move hA rfl rfl) rfl rfl, pu rfl rfl [(7, .slice A18778 n18779 c18780)] (fun ac hA => y_move hA rfl rfl) rfl rfl, trivial⟩ (by kernel_rfl) (by kernel_rfl) ⟨ef rfl [(21, .slice A18770 n18771 c18772), (25, .slice (some ⟨g22329, 0, none⟩) 1 1)] (fun ac hA K hK => ?_) rfl rfl, trivial⟩
     obtain ⟨h22344, hF⟩ := chk_some hF
     have hr := hS.rd 1 rfl
     refine z_app 5 inf2 Tryd.underlying90 hA hS hr.1 hr.2.1 h22344 rfl (fun A22345 n22346 c22347 w hS => ?_) rfl rfl rfl rfl rfl rfl
     refine hK _ [] _ rfl ?_
     refine dEff [6, 11] [10] (by kernel_rfl) ⟨pu rfl rfl [(6, .slice A18774 n18775 c18776)] (fun ac hA => y_move hA rfl rfl) rfl rfl, pu rfl rfl [(7, .slice A18778 n18779 c18780)] (fun ac hA => y_move hA rfl rfl) rfl rfl, trivial⟩ (by kernel_rfl) (by kernel_rfl) ⟨ef rfl [(27, .slice A18774 n18775 c18776), (30, .slice (some ⟨g22343, 0, none⟩) 1 1)] (fun ac hA K hK => ?_) rfl rfl, trivial⟩
     obtain ⟨h22348, hF⟩ := chk_some hF
     have hr := hS.rd 1 rfl
     refine z_app 6 inf2 Tryd.underlying90 hA hS hr.1 hr.2.1 h22348 rfl (fun A22349 n22350 c22351 w hS => ?_) rfl rfl rfl rfl rfl rfl
     refine hK _ [] _ rfl ?_
     refine dEff [11] [15] (by kernel_rfl) ⟨pu rfl rfl [(7, .slice A18778 n18779 c18780)] (fun ac hA => y_move hA rfl rfl) rfl rfl, trivial⟩ (by kernel_rfl) (by kernel_rfl) ⟨ef rfl [(32, .slice A18778 n18779 c18780), (35, .slice (some ⟨g22328, 0, none⟩) 1 1)] (fun ac hA K hK => ?_) rfl rfl, trivial⟩
     obtain ⟨h22352, hF⟩ := chk_some hF
     have hr := hS.rd 4 rfl
     refine z_app 7 inf2 Tryd.underlying90 hA hS hr.1 hr.2.1 h22352 rfl (fun A22353 n22354 c22355 w hS => ?_) rfl rfl rfl rfl rfl rfl
     refine hK _ [(16, .slice A22345 n22346 c22347), (17, .slice A22349 n22350 c22351), (18, .slice A22353 n22354 c22355)] _ rfl ?_
     refine dEnd [16, 17, 18] (by kernel_rfl) ⟨pu rfl rfl [(26, .slice A22345 n22346 c22347)] (fun ac hA => y_assign hA rfl rfl) rfl rfl, pu rfl rfl [(31, .slice A22349 n22350 c22351)] (fun ac hA => y_assign hA rfl rfl) rfl rfl, pu rfl rfl [(36, .slice A22353 n22354 c22355)] (fun ac hA => y_assign hA rfl rfl) rfl rfl, trivial⟩ ⟨by kernel_rfl, by kernel_rfl⟩ [(0, .slice A0 n0 c0), (5, .slice A22345 n22346 c22347), (6, .slice A22349 n22350 c22351), (7, .slice A22353 n22354 c22355), (8, .slice A18782 n18783 c18784), (9, .slice A18786 n18787 c18788), (11, .pointer (some ⟨g21945, 0, none⟩)), (15, .slice A1 n1 c1), (16, .int .i64 (a1.length : Int)), (17, .int .i64 x18789)] rfl (fun ac hA => ?_)
     replace hS := hS.drop 3
     replace hS := hS.drop 3
     replace hS := hS.drop 3
     replace hS := hS.pk 7
     replace hS := hS.pk 7
     replace hS := hS.pk 7
     replace hS := hS.pk 3
     replace hS := hS.pk 4
     replace hS := hS.pk 5
     replace hS := hS.pk 7
     replace hS := hS.pk 7
     exact hj1 (l18769 ++ [x22178]) hF A22345 n22346 c22347 A22349 n22350 c22351 A22353 n22354 c22355 ac w (hA.sub _ rfl) hS
   ·refine ef rfl [(29, .int .i64 x21942.f1)] (fun ac hA K hK => ?_) rfl rfl
    refine z_bsl (d := (kI .i64)) (e := 2) (ps := #[(0, .int .i64 x21942.f1)]) (cells := [.int .i64 x21942.f1]) (xs := [x21942.f1]) (fun w => by kernel_rfl) rfl ⟨[.int .i64 x21942.f1], _, rfl, rfl, rfl⟩ hA hS (fun g22356 w hS => ?_) rfl rfl rfl
    refine hK _ [] _ rfl ?_
    refine dEff [0, 1, 2, 3, 6, 11] [4] (by kernel_rfl) ⟨pu rfl rfl [(5, .slice A18770 n18771 c18772)] (fun ac hA => y_move hA rfl rfl) rfl rfl, pu rfl rfl [(11, .pointer (some ⟨g21945, 0, none⟩))] (fun ac hA => y_fab fa44_0 hA rfl rfl) rfl rfl, pu rfl rfl [(22, .pointer (some ⟨g21945, 0, none⟩))] (fun ac hA => y_ld Tryd.underlying31 (hS.cell 2 rfl 0 _ rfl) hA rfl rfl rfl) rfl rfl, pu rfl rfl [(23, .int .u64 x21942.f0)] (fun ac hA => (rv_i h22179 (r_convI Tryd.underlying31 Tryd.underlying2 rfl (hA.ev rfl)) : RunV _ _ _ _ (.int .i64 x22178))) rfl rfl, pu rfl rfl [(6, .slice A18774 n18775 c18776)] (fun ac hA => y_move hA rfl rfl) rfl rfl, pu rfl rfl [(7, .slice A18778 n18779 c18780)] (fun ac hA => y_move hA rfl rfl) rfl rfl, trivial⟩ (by kernel_rfl) (by kernel_rfl) ⟨ef rfl [(24, .int .i64 x22178)] (fun ac hA K hK => ?_) rfl rfl, trivial⟩
    refine z_bsl (d := (kI .i64)) (e := 2) (ps := #[(0, .int .i64 x22178)]) (cells := [.int .i64 x22178]) (xs := [x22178]) (fun w => by kernel_rfl) rfl ⟨[.int .i64 x22178], _, rfl, rfl, rfl⟩ hA hS (fun g22357 w hS => ?_) rfl rfl rfl
    refine hK _ [] _ rfl ?_
    refine dEff [0, 6, 11] [5] (by kernel_rfl) ⟨pu rfl rfl [(5, .slice A18770 n18771 c18772)] (fun ac hA => y_move hA rfl rfl) rfl rfl, pu rfl rfl [(6, .slice A18774 n18775 c18776)] (fun ac hA => y_move hA rfl rfl) rfl rfl, pu rfl rfl [(7, .slice A18778 n18779 c18780)] (fun ac hA => y_move hA rfl rfl) rfl rfl, trivial⟩ (by kernel_rfl) (by kernel_rfl) ⟨ef rfl [(21, .slice A18770 n18771 c18772), (25, .slice (some ⟨g22357, 0, none⟩) 1 1)] (fun ac hA K hK => ?_) rfl rfl, trivial⟩
    obtain ⟨h22358, hF⟩ := chk_some hF
    have hr := hS.rd 0 rfl
    refine z_app 5 inf2 Tryd.underlying90 hA hS hr.1 hr.2.1 h22358 rfl (fun A22359 n22360 c22361 w hS => ?_) rfl rfl rfl rfl rfl rfl
    refine hK _ [] _ rfl ?_
    refine dEff [6, 11] [10] (by kernel_rfl) ⟨pu rfl rfl [(6, .slice A18774 n18775 c18776)] (fun ac hA => y_move hA rfl rfl) rfl rfl, pu rfl rfl [(7, .slice A18778 n18779 c18780)] (fun ac hA => y_move hA rfl rfl) rfl rfl, trivial⟩ (by kernel_rfl) (by kernel_rfl) ⟨ef rfl [(27, .slice A18774 n18775 c18776), (30, .slice (some ⟨g22356, 0, none⟩) 1 1)] (fun ac hA K hK => ?_) rfl rfl, trivial⟩
    obtain ⟨h22362, hF⟩ := chk_some hF
    have hr := hS.rd 2 rfl
    refine z_app 6 inf2 Tryd.underlying90 hA hS hr.1 hr.2.1 h22362 rfl (fun A22363 n22364 c22365 w hS => ?_) rfl rfl rfl rfl rfl rfl
    refine hK _ [] _ rfl ?_
    refine dEff [11] [15] (by kernel_rfl) ⟨pu rfl rfl [(7, .slice A18778 n18779 c18780)] (fun ac hA => y_move hA rfl rfl) rfl rfl, trivial⟩ (by kernel_rfl) (by kernel_rfl) ⟨ef rfl [(32, .slice A18778 n18779 c18780), (35, .slice (some ⟨g22328, 0, none⟩) 1 1)] (fun ac hA K hK => ?_) rfl rfl, trivial⟩
    obtain ⟨h22366, hF⟩ := chk_some hF
    have hr := hS.rd 4 rfl
    refine z_app 7 inf2 Tryd.underlying90 hA hS hr.1 hr.2.1 h22366 rfl (fun A22367 n22368 c22369 w hS => ?_) rfl rfl rfl rfl rfl rfl
    refine hK _ [(16, .slice A22359 n22360 c22361), (17, .slice A22363 n22364 c22365), (18, .slice A22367 n22368 c22369)] _ rfl ?_
    refine dEnd [16, 17, 18] (by kernel_rfl) ⟨pu rfl rfl [(26, .slice A22359 n22360 c22361)] (fun ac hA => y_assign hA rfl rfl) rfl rfl, pu rfl rfl [(31, .slice A22363 n22364 c22365)] (fun ac hA => y_assign hA rfl rfl) rfl rfl, pu rfl rfl [(36, .slice A22367 n22368 c22369)] (fun ac hA => y_assign hA rfl rfl) rfl rfl, trivial⟩ ⟨by kernel_rfl, by kernel_rfl⟩ [(0, .slice A0 n0 c0), (5, .slice A22359 n22360 c22361), (6, .slice A22363 n22364 c22365), (7, .slice A22367 n22368 c22369), (8, .slice A18782 n18783 c18784), (9, .slice A18786 n18787 c18788), (11, .pointer (some ⟨g21945, 0, none⟩)), (15, .slice A1 n1 c1), (16, .int .i64 (a1.length : Int)), (17, .int .i64 x18789)] rfl (fun ac hA => ?_)
    replace hS := hS.drop 3
    replace hS := hS.drop 3
    replace hS := hS.drop 3
    replace hS := hS.pk 7
    replace hS := hS.pk 7
    replace hS := hS.pk 7
    replace hS := hS.pk 3
    replace hS := hS.pk 4
    replace hS := hS.pk 5
    replace hS := hS.pk 7
    replace hS := hS.pk 7
    exact hj1 (l18769 ++ [x22178]) hF A22359 n22360 c22361 A22363 n22364 c22365 A22367 n22368 c22369 ac w (hA.sub _ rfl) hS
 replace hF := iff' hb20604 hF
 refine wp_exit ?_
 cases hF
 exact hx20600_0 l18769 l18773 l18777 l18781 l18785 (T20600_ _ rfl) A18770 n18771 c18772 A18774 n18775 c18776 A18778 n18779 c18780 A18782 n18783 c18784 A18786 n18787 c18788 ac w (hA.sub _ rfl) hS
end Go.Proofs.YteodeedejjcmgaaDoor.M
namespace Go.Proofs.YteodeedejjcmgaaDoor.M
open Go Go.RowKit Go.Proofs.YteodeedejjcmgaaDoor.E
set_option linter.unusedVariables false
set_option linter.unusedSimpArgs false
noncomputable def segment_Filter_Wants (a0 : S33) (a1 : S44) : Option (Bool) :=
  if (decide (a0.f0 ≤ a1.f0)) = true then (if (decide (a1.f0 < a0.f1)) = true then (if (decide (a0.f2 ≤ a1.f2)) = true then (some (decide (a1.f2 ≤ a0.f3))) else (some false)) else (some false)) else (some false)
noncomputable def segment_Filter_May (a0 : S33) (a1 : S41) : Option (Bool) :=
  if (decide (a0.f0 < a0.f1)) = true then (if (decide (a0.f0 ≤ a1.f3)) = true then (if (decide (a1.f2 < a0.f1)) = true then (if (decide (a0.f2 ≤ a0.f3)) = true then (if (decide (a0.f2 ≤ a1.f5)) = true then (some (decide (a1.f4 ≤ a0.f3))) else (some false)) else (some false)) else (some false)) else (some false)) else (some false)
noncomputable def segment_chunk_b1 (a0 : (List S44)) (a1 : Int) (x341 : Int) (x342 : Int) (x343 : Int) (x344 : Int) (s345 : (List UInt8)) (s346 : (List UInt8)) : Option (S41) :=
  some (⟨(a0.length : Int), a1, x341, x342, x343, x344, s345, s346⟩ : S41)
noncomputable def segment_chunk_x1_0 (a0 : (List S44)) (a1 : Int) (x397 : Int) (x398 : Int) (x399 : Int) (x400 : Int) (s401 : (List UInt8)) (s402 : (List UInt8)) : Option (S41) :=
  segment_chunk_b1 a0 a1 x397 x398 x399 x400 s401 s402
noncomputable def segment_chunk_l1 (a0 : (List S44)) (x369 : Int) (x370 : Int) (x371 : Int) (x372 : Int) (s373 : (List UInt8)) (s374 : (List UInt8)) (x375 : Int) : Option ((Int × Int × Int × Int × (List UInt8) × (List UInt8) × Int) ⊕ ((Int × Int × Int × Int × (List UInt8) × (List UInt8)))) :=
  if (decide (x375 < (a0.length : Int))) = true then ((at_ a0 x375).bind fun x410 => (ltt (IntKind.i64.wrap (x375 + 1)) fun x416 => (some (.inl (if x410.f0 < x369 then x410.f0 else x369, if x370 < x410.f0 then x410.f0 else x370, if x410.f2 < x371 then x410.f2 else x371, if x372 < x410.f2 then x410.f2 else x372, if (Op.bytesLess s373 x410.f3 || s373 == x410.f3) = true then s373 else x410.f3, if Op.bytesLess s374 x410.f3 = true then x410.f3 else s374, x416))))) else (some (.inr (x369, x370, x371, x372, s373, s374)))
noncomputable def segment_chunk (a0 : (List S44)) (a1 : Int) : Option (S41) :=
  (at_ a0 0).bind fun x104 => ((loop (fun s => segment_chunk_l1 a0 s.1 s.2.1 s.2.2.1 s.2.2.2.1 s.2.2.2.2.1 s.2.2.2.2.2.1 s.2.2.2.2.2.2) (x104.f0, x104.f0, x104.f2, x104.f2, x104.f3, x104.f3, 0)).bind fun t => segment_chunk_x1_0 a0 a1 t.1 t.2.1 t.2.2.1 t.2.2.2.1 t.2.2.2.2.1 t.2.2.2.2.2)
end Go.Proofs.YteodeedejjcmgaaDoor.M
