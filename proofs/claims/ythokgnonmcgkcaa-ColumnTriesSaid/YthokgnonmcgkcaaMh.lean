/- The calls come to the plain functions. -/
import Derived.Test.YthokgnonmcgkcaaMe
import Derived.Test.YthokgnonmcgkcaaTr
import Derived.Test.YthokgnonmcgkcaaDh
namespace Go.Proofs.Ythokgnonmcgkcaa.M
open Go Go.RowKit Go.Proofs.Ythokgnonmcgkcaa.E
set_option linter.unusedVariables false
set_option linter.unusedSimpArgs false

set_option maxHeartbeats 4000000 in
theorem F_law03_ColumnTries_1 {r : World} {L : List HP} {w : World} {Z : Nat → Prop} {wz : World} (a0 : S72) (a1 : (List Int)) (a2 : S26) (a3 : Bool) (a4 : Int) (a5 : Bool) (g0 : Nat) (g1 : Nat) (g2 : Nat) (g3 : Nat) (g4 : Nat) (g5 : Nat) {y : ((S72 × (List Int) × S26 × Bool × Int × Bool) ⊕ (S72 × (List Int) × S26 × Bool × Int × Bool))} (hF : law03_ColumnTries_1 a0 a1 a2 a3 a4 a5 = some y) (qz : Nat) (hZ : L[qz]? = some (zone Z wz)) (hS : SH r (obj72 Z wz g0 a0 :: obj22 Z wz g1 a1 :: obj24 Z wz g2 a2 :: obj4 g3 a3 :: obj3 g4 a4 :: obj4 g5 a5 :: L) w) :
    RetS Try.prog 12 #[.pointer (some ⟨g0, 0, none⟩), .pointer (some ⟨g1, 0, none⟩), .pointer (some ⟨g2, 0, none⟩), .pointer (some ⟨g3, 0, none⟩), .pointer (some ⟨g4, 0, none⟩), .pointer (some ⟨g5, 0, none⟩)] w badC y (fun y v w' => v = .tuple #[] ∧ SH r (obj72 Z wz g0 y.1 :: obj22 Z wz g1 y.2.1 :: obj24 Z wz g2 y.2.2.1 :: obj4 g3 y.2.2.2.1 :: obj3 g4 y.2.2.2.2.1 :: obj4 g5 y.2.2.2.2.2 :: L) w') (fun y w' => SH r (obj72 Z wz g0 y.1 :: obj22 Z wz g1 y.2.1 :: obj24 Z wz g2 y.2.2.1 :: obj4 g3 y.2.2.2.1 :: obj3 g4 y.2.2.2.2.1 :: obj4 g5 y.2.2.2.2.2 :: L) w') := by
  refine enterS Try.func12 rfl Try.ntmps12 [(0, .pointer (some ⟨g0, 0, none⟩)), (1, .pointer (some ⟨g1, 0, none⟩)), (2, .pointer (some ⟨g2, 0, none⟩)), (3, .pointer (some ⟨g3, 0, none⟩)), (4, .pointer (some ⟨g4, 0, none⟩)), (5, .pointer (some ⟨g5, 0, none⟩))] rfl (by simp) ?_
  intro ac hA Qf hQ hQn hQp
  unfold law03_ColumnTries_1 at hF
  obtain ⟨A101, n102, c103, hS⟩ := obj72_open hS
  replace hS := hS.pk 1
  have hQ0 := SH.unpure hS
  clear hS
  obtain ⟨h104, hS⟩ := hQ0
  replace hS := hS.pk 1
  obtain ⟨A105, n106, c107, hS⟩ := obj22_open hS
  replace hS := hS.pk 1
  have hQ0 := SH.unpure hS
  clear hS
  obtain ⟨h108, hS⟩ := hQ0
  replace hS := hS.pk 2
  obtain ⟨g109, hS⟩ := obj24_open hS
  replace hS := hS.pk 1
  obtain ⟨A110, n111, c112, hS⟩ := obj26_open hS
  replace hS := hS.pk 1
  have hQ0 := SH.unpure hS
  clear hS
  obtain ⟨h113, hS⟩ := hQ0
  replace hS := hS.pk 4
  replace hS := obj4_open hS
  replace hS := hS.pk 5
  replace hS := obj3_open hS
  replace hS := hS.pk 6
  replace hS := obj4_open hS
  refine wp_seq_k fun K114 hK114 => ?_
  refine wp_seq_k fun K2403 hK2403 => ?_
  refine wp_reg ?_
  refine x_assign hA (fun ac hA => ?_) rfl rfl rfl rfl rfl
  refine wpList_nil ?_
  refine hK2403 _ _ ?_
  refine wp_block_k fun Kx2404 hKx2404 => ?_
  have hb1 : ∀ (l3547 : (List Int)) (l3552 : (List Int)) (x3557 : Int) (b3558 : Bool) (x3559 : Int), law03_ColumnTries_1_b1 a1 a5 l3547 l3552 x3557 b3558 x3559 = some y → ∀ (A3548 : Option Addr) (n3549 : Nat) (c3550 : Nat) (A3553 : Option Addr) (n3554 : Nat) (c3555 : Nat) (h3551 : Imm Z wz (kI .u8) A3548 n3549 c3550 l3547) (h3556 : Imm Z wz (kI .u8) A3553 n3554 c3555 l3552) (ac : Act) (w : World), FR 75 [] ac [(0, .pointer (some ⟨g0, 0, none⟩)), (1, .pointer (some ⟨g1, 0, none⟩)), (2, .pointer (some ⟨g2, 0, none⟩)), (3, .pointer (some ⟨g3, 0, none⟩)), (4, .pointer (some ⟨g4, 0, none⟩)), (5, .pointer (some ⟨g5, 0, none⟩))] → SH r (blk g0 72 [.slice A3548 n3549 c3550] :: blk g1 22 [.slice A105 n106 c107] :: blk g2 24 [.pointer (some ⟨g109, 0, none⟩)] :: blk g109 26 [.slice A3553 n3554 c3555, .int .i64 x3557] :: blk g3 4 [.bool b3558] :: blk g4 3 [.int .i64 x3559] :: blk g5 4 [.bool a5] :: L) w → Kx2404 ac w := by
    intro l3547 l3552 x3557 b3558 x3559 hF A3548 n3549 c3550 A3553 n3554 c3555 h3551 h3556 ac w hA hS
    unfold law03_ColumnTries_1_b1 at hF
    refine hKx2404 _ _ ?_
    refine hK114 _ _ ?_
    refine wp_reg ?_
    refine x_move hA (fun ac hA => ?_) rfl rfl rfl rfl rfl
    refine x_ld Try.underlying4 (hS.cell 6 rfl 0 _ rfl) hA (fun ac hA => ?_) rfl rfl rfl rfl rfl rfl
    replace hS := SH.pure_ h3551 hS
    replace hS := hS.pk 1
    replace hS := obj72_mk (x := (⟨l3547⟩ : S72)) hS
    obtain ⟨y3560, h3561, hF⟩ := bnd hF
    rcases y3560 with y3560 | y3560
    rotate_left
    · replace hF := sum_r hF
      refine x_callp (vs := #[.pointer (some ⟨g0, 0, none⟩), .bool a5]) en21 hA (RetS.rf (F_column_Reader_Check (L := blk g1 22 [.slice A105 n106 c107] :: blk g2 24 [.pointer (some ⟨g109, 0, none⟩)] :: blk g109 26 [.slice A3553 n3554 c3555, .int .i64 x3557] :: blk g3 4 [.bool b3558] :: blk g4 3 [.int .i64 x3559] :: blk g5 4 [.bool a5] :: L) (⟨l3547⟩ : S72) a5 g0 h3561 (qz + 6) hZ hS)) (fun w hR => ?_) rfl rfl rfl rfl rfl
      replace hS := hR
      obtain ⟨A3562, n3563, c3564, hS⟩ := obj72_open hS
      replace hS := hS.pk 1
      have hQ0 := SH.unpure hS
      clear hS
      obtain ⟨h3565, hS⟩ := hQ0
      replace hS := SH.pure_ h3565 hS
      replace hS := hS.pk 1
      replace hS := obj72_mk (x := y3560) hS
      replace hS := SH.pure_ h108 hS
      replace hS := hS.pk 2
      replace hS := obj22_mk (x := a1) hS
      replace hS := SH.pure_ h3556 hS
      replace hS := hS.pk 4
      replace hS := obj26_mk (x := (⟨l3552, x3557⟩ : S26)) hS
      replace hS := hS.pk 3
      replace hS := obj24_mk (x := (⟨l3552, x3557⟩ : S26)) hS
      replace hS := hS.pk 3
      replace hS := obj4_mk (x := b3558) hS
      replace hS := hS.pk 4
      replace hS := obj3_mk (x := x3559) hS
      replace hS := hS.pk 5
      replace hS := obj4_mk (x := a5) hS
      replace hS := hS.pk 1
      replace hS := hS.pk 2
      replace hS := hS.pk 3
      replace hS := hS.pk 4
      replace hS := hS.pk 5
      cases hF
      exact hQp _ rfl _ _ hA.defers hS
    replace hF := sum_l hF
    refine x_callw (vs := #[.pointer (some ⟨g0, 0, none⟩), .bool a5]) en21 hA (RetS.lf (F_column_Reader_Check (L := blk g1 22 [.slice A105 n106 c107] :: blk g2 24 [.pointer (some ⟨g109, 0, none⟩)] :: blk g109 26 [.slice A3553 n3554 c3555, .int .i64 x3557] :: blk g3 4 [.bool b3558] :: blk g4 3 [.int .i64 x3559] :: blk g5 4 [.bool a5] :: L) (⟨l3547⟩ : S72) a5 g0 h3561 (qz + 6) hZ hS)) (fun v ac w hR hA => ?_) rfl rfl rfl rfl rfl rfl rfl
    obtain ⟨rfl, hS⟩ := hR
    obtain ⟨A3566, n3567, c3568, hS⟩ := obj72_open hS
    replace hS := hS.pk 1
    have hQ0 := SH.unpure hS
    clear hS
    obtain ⟨h3569, hS⟩ := hQ0
    refine wpList_nil ?_
    replace hS := SH.pure_ h3569 hS
    replace hS := hS.pk 1
    replace hS := obj72_mk (x := y3560) hS
    replace hS := SH.pure_ h108 hS
    replace hS := hS.pk 2
    replace hS := obj22_mk (x := a1) hS
    replace hS := SH.pure_ h3556 hS
    replace hS := hS.pk 4
    replace hS := obj26_mk (x := (⟨l3552, x3557⟩ : S26)) hS
    replace hS := hS.pk 3
    replace hS := obj24_mk (x := (⟨l3552, x3557⟩ : S26)) hS
    replace hS := hS.pk 3
    replace hS := obj4_mk (x := b3558) hS
    replace hS := hS.pk 4
    replace hS := obj3_mk (x := x3559) hS
    replace hS := hS.pk 5
    replace hS := obj4_mk (x := a5) hS
    replace hS := hS.pk 1
    replace hS := hS.pk 2
    replace hS := hS.pk 3
    replace hS := hS.pk 4
    replace hS := hS.pk 5
    cases hF
    refine hQn _ rfl _ _ ?_
    refine lv0n Try.results12 hA ?_
    exact ⟨rfl, hS⟩
  obtain ⟨t4348, hl4348, hF⟩ := bnd hF
  have hR4348 := hF
  have hx4348_0 : ∀ (l4336 : (List Int)) (l4341 : (List Int)) (x4346 : Int) (b4347 : Bool) (x4348 : Int), (.inl (l4336, l4341, x4346, b4347, x4348)) = t4348 → ∀ (A4337 : Option Addr) (n4338 : Nat) (c4339 : Nat) (A4342 : Option Addr) (n4343 : Nat) (c4344 : Nat) (h4340 : Imm Z wz (kI .u8) A4337 n4338 c4339 l4336) (h4345 : Imm Z wz (kI .u8) A4342 n4343 c4344 l4341) (ac : Act) (w : World), FR 75 [] ac [(0, .pointer (some ⟨g0, 0, none⟩)), (1, .pointer (some ⟨g1, 0, none⟩)), (2, .pointer (some ⟨g2, 0, none⟩)), (3, .pointer (some ⟨g3, 0, none⟩)), (4, .pointer (some ⟨g4, 0, none⟩)), (5, .pointer (some ⟨g5, 0, none⟩))] → SH r (blk g0 72 [.slice A4337 n4338 c4339] :: blk g1 22 [.slice A105 n106 c107] :: blk g2 24 [.pointer (some ⟨g109, 0, none⟩)] :: blk g109 26 [.slice A4342 n4343 c4344, .int .i64 x4346] :: blk g3 4 [.bool b4347] :: blk g4 3 [.int .i64 x4348] :: blk g5 4 [.bool a5] :: L) w → Kx2404 ac w := by
    intro l4336 l4341 x4346 b4347 x4348 ht A4337 n4338 c4339 A4342 n4343 c4344 h4340 h4345 ac w hA hS
    subst ht
    replace hF : law03_ColumnTries_1_x1_0 a1 a5 l4336 l4341 x4346 b4347 x4348 = some y := hF
    unfold law03_ColumnTries_1_x1_0 at hF
    exact hb1 l4336 l4341 x4346 b4347 x4348 hF A4337 n4338 c4339 A4342 n4343 c4344 h4340 h4345 ac w (hA.sub _ rfl) hS
  replace hS := hS.pk 1
  replace hS := hS.pk 2
  replace hS := hS.pk 3
  replace hS := hS.pk 4
  replace hS := hS.pk 5
  replace hS := hS.pk 6
  refine wp_loop_fn hl4348 (fun s ac w => ∃ (A3947 : Option Addr) (n3948 : Nat) (c3949 : Nat) (A3952 : Option Addr) (n3953 : Nat) (c3954 : Nat), Imm Z wz (kI .u8) A3947 n3948 c3949 s.1 ∧ Imm Z wz (kI .u8) A3952 n3953 c3954 s.2.1 ∧ FR 75 [] ac [(0, .pointer (some ⟨g0, 0, none⟩)), (1, .pointer (some ⟨g1, 0, none⟩)), (2, .pointer (some ⟨g2, 0, none⟩)), (3, .pointer (some ⟨g3, 0, none⟩)), (4, .pointer (some ⟨g4, 0, none⟩)), (5, .pointer (some ⟨g5, 0, none⟩)), (7, .int .i64 s.2.2.2.2.2)] ∧ SH r (blk g0 72 [.slice A3947 n3948 c3949] :: blk g1 22 [.slice A105 n106 c107] :: blk g2 24 [.pointer (some ⟨g109, 0, none⟩)] :: blk g109 26 [.slice A3952 n3953 c3954, .int .i64 s.2.2.1] :: blk g3 4 [.bool s.2.2.2.1] :: blk g4 3 [.int .i64 s.2.2.2.2.1] :: blk g5 4 [.bool a5] :: L) w) ⟨A101, n102, c103, A110, n111, c112, h104, h113, hA.sub _ rfl, hS⟩ ?_
  intro N4348 s4348 o4348 hF N4348_ T4348_ ac w hLab
  obtain ⟨l3946, l3951, x3956, b3957, x3958, x3959⟩ := s4348
  replace hF : law03_ColumnTries_1_l1 a1 a5 l3946 l3951 x3956 b3957 x3958 x3959 = some o4348 := hF
  unfold law03_ColumnTries_1_l1 at hF
  try dsimp only at hLab
  obtain ⟨A3947, n3948, c3949, A3952, n3953, c3954, h3950, h3955, hA, hS⟩ := hLab
  refine wp_seq_k fun K4350 hK4350 => ?_
  refine wp_seq_k fun K4351 hK4351 => ?_
  refine wp_reg ?_
  refine x_move hA (fun ac hA => ?_) rfl rfl rfl rfl rfl
  refine x_ld Try.underlying22 (hS.cell 1 rfl 0 _ rfl) hA (fun ac hA => ?_) rfl rfl rfl rfl rfl rfl
  refine x_len Try.underlying22 (hS.rdl 7 (h108.rdl qz hZ) rfl).2.1 hA (fun ac hA => ?_) rfl rfl rfl rfl rfl
  refine x_val hA (r_ltI rfl (hA.ev rfl) (hA.ev rfl)) (fun ac hA => ?_) rfl rfl rfl
  refine wpList_nil ?_
  refine hK4351 _ _ ?_
  refine c_if hA rfl (fun hb4352 => ?_) fun hb4352 => ?_
  · replace hF := ift hb4352 hF
    refine wp_skip ?_
    refine hK4350 _ _ ?_
    refine wp_seq_k fun K4353 hK4353 => ?_
    refine wp_block_k fun Kx4354 hKx4354 => ?_
    refine wp_seq_k fun K4355 hK4355 => ?_
    refine wp_reg ?_
    refine x_ld Try.underlying22 (hS.cell 1 rfl 0 _ rfl) hA (fun ac hA => ?_) rfl rfl rfl rfl rfl rfl
    refine x_move hA (fun ac hA => ?_) rfl rfl rfl rfl rfl
    obtain ⟨x4356, h4357, hF⟩ := bnd hF
    refine x_ia Try.underlying22 sz5 (hS.rdl 7 (h108.rdl qz hZ) rfl) h4357 hA (fun ac hA => ?_) rfl rfl rfl rfl rfl rfl
    obtain ⟨cs, hV, hc4358⟩ := el (hS.rdl 7 (h108.rdl qz hZ) rfl) h4357
    obtain rfl := hV
    refine x_ld Try.underlying5 (hc4358 0 _ rfl) hA (fun ac hA => ?_) rfl rfl rfl rfl rfl rfl
    obtain ⟨x4359, h4360, hF⟩ := ltt_ hF
    refine x_val (v := .int .u64 x4359) hA (rv_i h4360 (r_convI Try.underlying5 Try.underlying29 rfl (hA.ev rfl))) (fun ac hA => ?_) rfl rfl rfl
    refine x_assign hA (fun ac hA => ?_) rfl rfl rfl rfl rfl
    refine wpList_nil ?_
    refine hK4355 _ _ ?_
    refine wp_seq_k fun K4361 hK4361 => ?_
    refine wp_seq_k fun K4535 hK4535 => ?_
    refine wp_reg ?_
    refine x_move hA (fun ac hA => ?_) rfl rfl rfl rfl rfl
    obtain ⟨x4536, h4537, hF⟩ := ltt_ hF
    refine x_val (v := .int .u64 x4536) hA (rv_i h4537 (r_rem rfl (hA.ev rfl) (hA.ev rfl) (by decide))) (fun ac hA => ?_) rfl rfl rfl
    refine wpList_nil ?_
    refine hK4535 _ _ ?_
    refine wp_block_k fun Kx4538 hKx4538 => ?_
    have hb2 : ∀ (l4617 : (List Int)) (l4622 : (List Int)) (x4627 : Int) (b4628 : Bool), law03_ColumnTries_1_b2 x3958 x3959 l4617 l4622 x4627 b4628 = some o4348 → ∀ (A4618 : Option Addr) (n4619 : Nat) (c4620 : Nat) (A4623 : Option Addr) (n4624 : Nat) (c4625 : Nat) (h4621 : Imm Z wz (kI .u8) A4618 n4619 c4620 l4617) (h4626 : Imm Z wz (kI .u8) A4623 n4624 c4625 l4622) (ac : Act) (w : World), FR 75 [] ac [(0, .pointer (some ⟨g0, 0, none⟩)), (1, .pointer (some ⟨g1, 0, none⟩)), (2, .pointer (some ⟨g2, 0, none⟩)), (3, .pointer (some ⟨g3, 0, none⟩)), (4, .pointer (some ⟨g4, 0, none⟩)), (5, .pointer (some ⟨g5, 0, none⟩)), (7, .int .i64 x3959)] → SH r (blk g0 72 [.slice A4618 n4619 c4620] :: blk g1 22 [.slice A105 n106 c107] :: blk g2 24 [.pointer (some ⟨g109, 0, none⟩)] :: blk g109 26 [.slice A4623 n4624 c4625, .int .i64 x4627] :: blk g3 4 [.bool b4628] :: blk g4 3 [.int .i64 x3958] :: blk g5 4 [.bool a5] :: L) w → Kx4538 ac w := by
      intro l4617 l4622 x4627 b4628 hF A4618 n4619 c4620 A4623 n4624 c4625 h4621 h4626 ac w hA hS
      unfold law03_ColumnTries_1_b2 at hF
      refine hKx4538 _ _ ?_
      refine hK4361 _ _ ?_
      refine wp_reg ?_
      refine x_ld Try.underlying3 (hS.cell 5 rfl 0 _ rfl) hA (fun ac hA => ?_) rfl rfl rfl rfl rfl rfl
      obtain ⟨x4629, h4630, hF⟩ := ltt_ hF
      refine x_val (v := .int .i64 x4629) hA (rv_i h4630 (r_add rfl (hA.ev rfl) (hA.ev rfl))) (fun ac hA => ?_) rfl rfl rfl
      refine x_stb 5 sz3 hA hS rfl (fun  ac w hS hA => ?_) rfl rfl rfl rfl rfl rfl rfl rfl
      refine wpList_nil ?_
      refine hKx4354 _ _ ?_
      refine hK4353 _ _ ?_
      refine wp_reg ?_
      refine x_move hA (fun ac hA => ?_) rfl rfl rfl rfl rfl
      obtain ⟨x4631, h4632, hF⟩ := ltt_ hF
      refine x_val (v := .int .i64 x4631) hA (rv_i h4632 (r_add rfl (hA.ev rfl) (hA.ev rfl))) (fun ac hA => ?_) rfl rfl rfl
      refine x_assign hA (fun ac hA => ?_) rfl rfl rfl rfl rfl
      refine wpList_nil ?_
      replace hS := hS.pk 6
      replace hS := hS.pk 1
      replace hS := hS.pk 6
      replace hS := hS.pk 6
      replace hS := hS.pk 6
      replace hS := hS.pk 6
      replace hS := hS.pk 6
      cases hF
      exact ⟨_, N4348_ _ rfl, A4618, n4619, c4620, A4623, n4624, c4625, h4621, h4626, hA.sub _ rfl, hS⟩
    refine wp_seq_k fun K4633 hK4633 => ?_
    refine wp_reg ?_
    refine x_val hA (r_eqI rfl (hA.ev rfl) (hA.ev rfl)) (fun ac hA => ?_) rfl rfl rfl
    refine x_assign hA (fun ac hA => ?_) rfl rfl rfl rfl rfl
    refine wpList_nil ?_
    refine hK4633 _ _ ?_
    refine c_if hA rfl (fun hb4634 => ?_) fun hb4634 => ?_
    · replace hF := ift hb4634 hF
      refine wp_draw [0, 0, 0, 6, 15, 0, 0, 0, 192, 511, 1023, 2047, 4095, 8191, 16383] [4, 9, 14] rfl hA hS (by kernel_rfl) (by kernel_rfl) (by kernel_rfl) (by kernel_rfl) fun w hS => ?_
      obtain ⟨x4635, h4636, hF⟩ := ltt_ hF
      refine ⟨[(0, .pointer (some ⟨g0, 0, none⟩)), (1, .int .u64 x4359), (2, .int .u64 x4359), (3, .int .u64 x4635), (5, .pointer (some ⟨g109, 0, none⟩)), (6, .int .u64 x4359), (7, .int .u64 x4359), (8, .int .u64 x4635)], ?_⟩
      refine dEff [0, 1, 2, 3, 5, 6, 7, 8] [4] (by kernel_rfl) ⟨pu rfl rfl [(0, .pointer (some ⟨g0, 0, none⟩))] (fun ac hA => y_move hA rfl rfl) rfl rfl, pu rfl rfl [(8, .int .u64 x4359)] (fun ac hA => y_move hA rfl rfl) rfl rfl, pu rfl rfl [(8, .int .u64 x4359)] (fun ac hA => y_move hA rfl rfl) rfl rfl, pu rfl rfl [(33, .int .u64 x4359), (34, .int .u64 x4359)] (fun ac hA => (rv_i h4636 (r_mul rfl (hA.ev rfl) (hA.ev rfl)) : RunV _ _ _ _ (.int .u64 x4635))) rfl rfl, pu rfl rfl [(2, .pointer (some ⟨g2, 0, none⟩))] (fun ac hA => y_ld Try.underlying24 (hS.cell 2 rfl 0 _ rfl) hA rfl rfl rfl) rfl rfl, pu rfl rfl [(8, .int .u64 x4359)] (fun ac hA => y_move hA rfl rfl) rfl rfl, pu rfl rfl [(8, .int .u64 x4359)] (fun ac hA => y_move hA rfl rfl) rfl rfl, pu rfl rfl [(38, .int .u64 x4359), (39, .int .u64 x4359)] (fun ac hA => (rv_i h4636 (r_mul rfl (hA.ev rfl) (hA.ev rfl)) : RunV _ _ _ _ (.int .u64 x4635))) rfl rfl, trivial⟩ (by kernel_rfl) (by kernel_rfl) ⟨ef rfl [(32, .pointer (some ⟨g0, 0, none⟩)), (35, .int .u64 x4635)] (fun ac hA K hK => ?_) rfl rfl, trivial⟩
      replace hS := SH.pure_ h3950 hS
      replace hS := hS.pk 1
      replace hS := obj72_mk (x := (⟨l3946⟩ : S72)) hS
      obtain ⟨y4637, h4638, hF⟩ := bnd hF
      rcases y4637 with y4637 | y4637
      rotate_left
      · replace hF := sum_r hF
        refine z_callp (vs := #[.pointer (some ⟨g0, 0, none⟩), .int .u64 x4635]) en13 hA (RetS.rf (F_column_Reader_Uint (L := blk g1 22 [.slice A105 n106 c107] :: blk g2 24 [.pointer (some ⟨g109, 0, none⟩)] :: blk g109 26 [.slice A3952 n3953 c3954, .int .i64 x3956] :: blk g3 4 [.bool b3957] :: blk g4 3 [.int .i64 x3958] :: blk g5 4 [.bool a5] :: L) (⟨l3946⟩ : S72) x4635 g0 h4638 (qz + 6) hZ hS)) (fun w hR => ?_) rfl rfl rfl rfl
        replace hS := hR
        obtain ⟨A4639, n4640, c4641, hS⟩ := obj72_open hS
        replace hS := hS.pk 1
        have hQ0 := SH.unpure hS
        clear hS
        obtain ⟨h4642, hS⟩ := hQ0
        replace hS := SH.pure_ h4642 hS
        replace hS := hS.pk 1
        replace hS := obj72_mk (x := y4637) hS
        replace hS := SH.pure_ h108 hS
        replace hS := hS.pk 2
        replace hS := obj22_mk (x := a1) hS
        replace hS := SH.pure_ h3955 hS
        replace hS := hS.pk 4
        replace hS := obj26_mk (x := (⟨l3951, x3956⟩ : S26)) hS
        replace hS := hS.pk 3
        replace hS := obj24_mk (x := (⟨l3951, x3956⟩ : S26)) hS
        replace hS := hS.pk 3
        replace hS := obj4_mk (x := b3957) hS
        replace hS := hS.pk 4
        replace hS := obj3_mk (x := x3958) hS
        replace hS := hS.pk 5
        replace hS := obj4_mk (x := a5) hS
        replace hS := hS.pk 1
        replace hS := hS.pk 2
        replace hS := hS.pk 3
        replace hS := hS.pk 4
        replace hS := hS.pk 5
        cases hF
        have ht := T4348_ _ rfl
        subst ht
        replace hF := hR4348
        replace hF : some (.inr (y4637, a1, (⟨l3951, x3956⟩ : S26), b3957, x3958, a5)) = some y := hF
        cases hF
        exact hQp _ rfl _ _ hA.defers hS
      replace hF := sum_l hF
      refine z_callw (vs := #[.pointer (some ⟨g0, 0, none⟩), .int .u64 x4635]) en13 hA (RetS.lf (F_column_Reader_Uint (L := blk g1 22 [.slice A105 n106 c107] :: blk g2 24 [.pointer (some ⟨g109, 0, none⟩)] :: blk g109 26 [.slice A3952 n3953 c3954, .int .i64 x3956] :: blk g3 4 [.bool b3957] :: blk g4 3 [.int .i64 x3958] :: blk g5 4 [.bool a5] :: L) (⟨l3946⟩ : S72) x4635 g0 h4638 (qz + 6) hZ hS)) (fun v w hR => ?_) rfl rfl rfl rfl
      obtain ⟨rfl, hS⟩ := hR
      obtain ⟨A4643, n4644, c4645, hS⟩ := obj72_open hS
      replace hS := hS.pk 1
      have hQ0 := SH.unpure hS
      clear hS
      obtain ⟨h4646, hS⟩ := hQ0
      refine hK _ [] _ rfl ?_
      refine dEff [5, 6, 7, 8] [9] (by kernel_rfl) ⟨pu rfl rfl [(2, .pointer (some ⟨g2, 0, none⟩))] (fun ac hA => y_ld Try.underlying24 (hS.cell 2 rfl 0 _ rfl) hA rfl rfl rfl) rfl rfl, pu rfl rfl [(8, .int .u64 x4359)] (fun ac hA => y_move hA rfl rfl) rfl rfl, pu rfl rfl [(8, .int .u64 x4359)] (fun ac hA => y_move hA rfl rfl) rfl rfl, pu rfl rfl [(38, .int .u64 x4359), (39, .int .u64 x4359)] (fun ac hA => (rv_i h4636 (r_mul rfl (hA.ev rfl) (hA.ev rfl)) : RunV _ _ _ _ (.int .u64 x4635))) rfl rfl, trivial⟩ (by kernel_rfl) (by kernel_rfl) ⟨ef rfl [(37, .pointer (some ⟨g109, 0, none⟩)), (40, .int .u64 x4635)] (fun ac hA K hK => ?_) rfl rfl, trivial⟩
      replace hS := SH.pure_ h3955 hS
      replace hS := hS.pk 4
      replace hS := obj26_mk (x := (⟨l3951, x3956⟩ : S26)) hS
      obtain ⟨y4647, h4648, hF⟩ := bnd hF
      refine z_call en14 hA (F_r03_Reader_Uint (L := blk g0 72 [.slice A4643 n4644 c4645] :: blk g1 22 [.slice A105 n106 c107] :: blk g2 24 [.pointer (some ⟨g109, 0, none⟩)] :: blk g3 4 [.bool b3957] :: blk g4 3 [.int .i64 x3958] :: blk g5 4 [.bool a5] :: L) (⟨l3951, x3956⟩ : S26) x4635 g109 h4648 (qz + 6) hZ hS) (fun v w hR => ?_) rfl rfl
      obtain ⟨rfl, hS⟩ := hR
      obtain ⟨A4649, n4650, c4651, hS⟩ := obj26_open hS
      replace hS := hS.pk 1
      have hQ0 := SH.unpure hS
      clear hS
      obtain ⟨h4652, hS⟩ := hQ0
      refine bcase (b := y4637.1 == y4647.1) (fun hb4653 => ?_) fun hb4653 => ?_
      · replace hF := ift hb4653 hF
        refine hK _ [(10, .bool (y4637.1 == y4647.1)), (11, .bool (y4637.1 == y4647.1)), (12, .bool b3957), (13, .bool b3957)] _ rfl ?_
        refine dEff [10, 11, 12, 13] [14] (by kernel_rfl) ⟨pu rfl rfl [(36, .int .u64 y4637.1), (41, .int .u64 y4647.1)] (fun ac hA => r_eqI rfl (hA.ev rfl) (hA.ev rfl)) rfl rfl, pu rfl rfl [(42, .bool (y4637.1 == y4647.1))] (fun ac hA => y_move hA rfl rfl) rfl rfl, puOn rfl rfl rfl rfl [(3, .pointer (some ⟨g3, 0, none⟩)), (43, .bool (y4637.1 == y4647.1))] rfl hb4653 (fun ac hA => y_ld Try.underlying4 (hS.cell 4 rfl 0 _ rfl) hA rfl rfl rfl) rfl, pu rfl rfl [(43, .bool (y4637.1 == y4647.1)), (44, .bool b3957)] (fun ac hA => y_pickt hb4653 hA rfl rfl rfl) rfl rfl, trivial⟩ (by kernel_rfl) (by kernel_rfl) ⟨ef rfl [(3, .pointer (some ⟨g3, 0, none⟩)), (45, .bool b3957)] (fun ac hA K hK => ?_) rfl rfl, trivial⟩
        refine z_stb 4 sz4 hA hS rfl (fun  w hS => ?_) rfl rfl rfl rfl rfl rfl
        refine hK _ [] _ rfl ?_
        refine dEnd [] (by kernel_rfl) trivial ⟨by kernel_rfl, by kernel_rfl⟩ [(0, .pointer (some ⟨g0, 0, none⟩)), (1, .pointer (some ⟨g1, 0, none⟩)), (2, .pointer (some ⟨g2, 0, none⟩)), (3, .pointer (some ⟨g3, 0, none⟩)), (4, .pointer (some ⟨g4, 0, none⟩)), (5, .pointer (some ⟨g5, 0, none⟩)), (7, .int .i64 x3959), (44, .bool b3957)] rfl (fun ac hA => ?_)
        replace hS := hS.pk 6
        replace hS := hS.pk 6
        replace hS := hS.pk 2
        replace hS := hS.pk 3
        replace hS := hS.pk 6
        replace hS := hS.pk 6
        replace hS := hS.pk 6
        exact hb2 y4637.2.f0 y4647.2.f0 y4647.2.f1 b3957 hF A4643 n4644 c4645 A4649 n4650 c4651 h4646 h4652 ac w (hA.sub _ rfl) hS
      replace hF := iff' hb4653 hF
      refine hK _ [(10, .bool (y4637.1 == y4647.1)), (11, .bool (y4637.1 == y4647.1)), (12, undef), (13, .bool false)] _ rfl ?_
      refine dEff [10, 11, 12, 13] [14] (by kernel_rfl) ⟨pu rfl rfl [(36, .int .u64 y4637.1), (41, .int .u64 y4647.1)] (fun ac hA => r_eqI rfl (hA.ev rfl) (hA.ev rfl)) rfl rfl, pu rfl rfl [(42, .bool (y4637.1 == y4647.1))] (fun ac hA => y_move hA rfl rfl) rfl rfl, puOff rfl rfl rfl rfl [(3, .pointer (some ⟨g3, 0, none⟩)), (43, .bool (y4637.1 == y4647.1))] rfl hb4653 rfl, pu rfl rfl [(43, .bool (y4637.1 == y4647.1)), (44, undef)] (fun ac hA => y_pickf hb4653 hA rfl rfl rfl) rfl rfl, trivial⟩ (by kernel_rfl) (by kernel_rfl) ⟨ef rfl [(3, .pointer (some ⟨g3, 0, none⟩)), (45, .bool false)] (fun ac hA K hK => ?_) rfl rfl, trivial⟩
      refine z_stb 4 sz4 hA hS rfl (fun  w hS => ?_) rfl rfl rfl rfl rfl rfl
      refine hK _ [] _ rfl ?_
      refine dEnd [] (by kernel_rfl) trivial ⟨by kernel_rfl, by kernel_rfl⟩ [(0, .pointer (some ⟨g0, 0, none⟩)), (1, .pointer (some ⟨g1, 0, none⟩)), (2, .pointer (some ⟨g2, 0, none⟩)), (3, .pointer (some ⟨g3, 0, none⟩)), (4, .pointer (some ⟨g4, 0, none⟩)), (5, .pointer (some ⟨g5, 0, none⟩)), (7, .int .i64 x3959)] rfl (fun ac hA => ?_)
      replace hS := hS.pk 6
      replace hS := hS.pk 6
      replace hS := hS.pk 2
      replace hS := hS.pk 3
      replace hS := hS.pk 6
      replace hS := hS.pk 6
      replace hS := hS.pk 6
      exact hb2 y4637.2.f0 y4647.2.f0 y4647.2.f1 false hF A4643 n4644 c4645 A4649 n4650 c4651 h4646 h4652 ac w (hA.sub _ rfl) hS
    replace hF := iff' hb4634 hF
    refine wp_seq_k fun K4654 hK4654 => ?_
    refine wp_reg ?_
    refine x_val hA (r_eqI rfl (hA.ev rfl) (hA.ev rfl)) (fun ac hA => ?_) rfl rfl rfl
    refine x_assign hA (fun ac hA => ?_) rfl rfl rfl rfl rfl
    refine wpList_nil ?_
    refine hK4654 _ _ ?_
    refine c_if hA rfl (fun hb4655 => ?_) fun hb4655 => ?_
    · replace hF := ift hb4655 hF
      refine wp_draw [0, 1, 0, 7, 15, 31, 63, 127, 255] [1, 3, 8] rfl hA hS (by kernel_rfl) (by kernel_rfl) (by kernel_rfl) (by kernel_rfl) fun w hS => ?_
      refine ⟨[(0, .pointer (some ⟨g0, 0, none⟩)), (2, .pointer (some ⟨g109, 0, none⟩))], ?_⟩
      refine dEff [0, 2] [1] (by kernel_rfl) ⟨pu rfl rfl [(0, .pointer (some ⟨g0, 0, none⟩))] (fun ac hA => y_move hA rfl rfl) rfl rfl, pu rfl rfl [(2, .pointer (some ⟨g2, 0, none⟩))] (fun ac hA => y_ld Try.underlying24 (hS.cell 2 rfl 0 _ rfl) hA rfl rfl rfl) rfl rfl, trivial⟩ (by kernel_rfl) (by kernel_rfl) ⟨ef rfl [(48, .pointer (some ⟨g0, 0, none⟩))] (fun ac hA K hK => ?_) rfl rfl, trivial⟩
      replace hS := SH.pure_ h3950 hS
      replace hS := hS.pk 1
      replace hS := obj72_mk (x := (⟨l3946⟩ : S72)) hS
      obtain ⟨y4656, h4657, hF⟩ := bnd hF
      rcases y4656 with y4656 | y4656
      rotate_left
      · replace hF := sum_r hF
        refine z_callp (vs := #[.pointer (some ⟨g0, 0, none⟩)]) en15 hA (RetS.rf (F_column_Reader_Int (L := blk g1 22 [.slice A105 n106 c107] :: blk g2 24 [.pointer (some ⟨g109, 0, none⟩)] :: blk g109 26 [.slice A3952 n3953 c3954, .int .i64 x3956] :: blk g3 4 [.bool b3957] :: blk g4 3 [.int .i64 x3958] :: blk g5 4 [.bool a5] :: L) (⟨l3946⟩ : S72) g0 h4657 (qz + 6) hZ hS)) (fun w hR => ?_) rfl rfl rfl rfl
        replace hS := hR
        obtain ⟨A4658, n4659, c4660, hS⟩ := obj72_open hS
        replace hS := hS.pk 1
        have hQ0 := SH.unpure hS
        clear hS
        obtain ⟨h4661, hS⟩ := hQ0
        replace hS := SH.pure_ h4661 hS
        replace hS := hS.pk 1
        replace hS := obj72_mk (x := y4656) hS
        replace hS := SH.pure_ h108 hS
        replace hS := hS.pk 2
        replace hS := obj22_mk (x := a1) hS
        replace hS := SH.pure_ h3955 hS
        replace hS := hS.pk 4
        replace hS := obj26_mk (x := (⟨l3951, x3956⟩ : S26)) hS
        replace hS := hS.pk 3
        replace hS := obj24_mk (x := (⟨l3951, x3956⟩ : S26)) hS
        replace hS := hS.pk 3
        replace hS := obj4_mk (x := b3957) hS
        replace hS := hS.pk 4
        replace hS := obj3_mk (x := x3958) hS
        replace hS := hS.pk 5
        replace hS := obj4_mk (x := a5) hS
        replace hS := hS.pk 1
        replace hS := hS.pk 2
        replace hS := hS.pk 3
        replace hS := hS.pk 4
        replace hS := hS.pk 5
        cases hF
        have ht := T4348_ _ rfl
        subst ht
        replace hF := hR4348
        replace hF : some (.inr (y4656, a1, (⟨l3951, x3956⟩ : S26), b3957, x3958, a5)) = some y := hF
        cases hF
        exact hQp _ rfl _ _ hA.defers hS
      replace hF := sum_l hF
      refine z_callw (vs := #[.pointer (some ⟨g0, 0, none⟩)]) en15 hA (RetS.lf (F_column_Reader_Int (L := blk g1 22 [.slice A105 n106 c107] :: blk g2 24 [.pointer (some ⟨g109, 0, none⟩)] :: blk g109 26 [.slice A3952 n3953 c3954, .int .i64 x3956] :: blk g3 4 [.bool b3957] :: blk g4 3 [.int .i64 x3958] :: blk g5 4 [.bool a5] :: L) (⟨l3946⟩ : S72) g0 h4657 (qz + 6) hZ hS)) (fun v w hR => ?_) rfl rfl rfl rfl
      obtain ⟨rfl, hS⟩ := hR
      obtain ⟨A4662, n4663, c4664, hS⟩ := obj72_open hS
      replace hS := hS.pk 1
      have hQ0 := SH.unpure hS
      clear hS
      obtain ⟨h4665, hS⟩ := hQ0
      refine hK _ [] _ rfl ?_
      refine dEff [2] [3] (by kernel_rfl) ⟨pu rfl rfl [(2, .pointer (some ⟨g2, 0, none⟩))] (fun ac hA => y_ld Try.underlying24 (hS.cell 2 rfl 0 _ rfl) hA rfl rfl rfl) rfl rfl, trivial⟩ (by kernel_rfl) (by kernel_rfl) ⟨ef rfl [(50, .pointer (some ⟨g109, 0, none⟩))] (fun ac hA K hK => ?_) rfl rfl, trivial⟩
      replace hS := SH.pure_ h3955 hS
      replace hS := hS.pk 4
      replace hS := obj26_mk (x := (⟨l3951, x3956⟩ : S26)) hS
      obtain ⟨y4666, h4667, hF⟩ := bnd hF
      refine z_call en16 hA (F_r03_Reader_Int (L := blk g0 72 [.slice A4662 n4663 c4664] :: blk g1 22 [.slice A105 n106 c107] :: blk g2 24 [.pointer (some ⟨g109, 0, none⟩)] :: blk g3 4 [.bool b3957] :: blk g4 3 [.int .i64 x3958] :: blk g5 4 [.bool a5] :: L) (⟨l3951, x3956⟩ : S26) g109 h4667 (qz + 6) hZ hS) (fun v w hR => ?_) rfl rfl
      obtain ⟨rfl, hS⟩ := hR
      obtain ⟨A4668, n4669, c4670, hS⟩ := obj26_open hS
      replace hS := hS.pk 1
      have hQ0 := SH.unpure hS
      clear hS
      obtain ⟨h4671, hS⟩ := hQ0
      refine bcase (b := y4656.1 == y4666.1) (fun hb4672 => ?_) fun hb4672 => ?_
      · replace hF := ift hb4672 hF
        refine hK _ [(4, .bool (y4656.1 == y4666.1)), (5, .bool (y4656.1 == y4666.1)), (6, .bool b3957), (7, .bool b3957)] _ rfl ?_
        refine dEff [4, 5, 6, 7] [8] (by kernel_rfl) ⟨pu rfl rfl [(49, .int .i64 y4656.1), (51, .int .i64 y4666.1)] (fun ac hA => r_eqI rfl (hA.ev rfl) (hA.ev rfl)) rfl rfl, pu rfl rfl [(52, .bool (y4656.1 == y4666.1))] (fun ac hA => y_move hA rfl rfl) rfl rfl, puOn rfl rfl rfl rfl [(3, .pointer (some ⟨g3, 0, none⟩)), (53, .bool (y4656.1 == y4666.1))] rfl hb4672 (fun ac hA => y_ld Try.underlying4 (hS.cell 4 rfl 0 _ rfl) hA rfl rfl rfl) rfl, pu rfl rfl [(53, .bool (y4656.1 == y4666.1)), (54, .bool b3957)] (fun ac hA => y_pickt hb4672 hA rfl rfl rfl) rfl rfl, trivial⟩ (by kernel_rfl) (by kernel_rfl) ⟨ef rfl [(3, .pointer (some ⟨g3, 0, none⟩)), (55, .bool b3957)] (fun ac hA K hK => ?_) rfl rfl, trivial⟩
        refine z_stb 4 sz4 hA hS rfl (fun  w hS => ?_) rfl rfl rfl rfl rfl rfl
        refine hK _ [] _ rfl ?_
        refine dEnd [] (by kernel_rfl) trivial ⟨by kernel_rfl, by kernel_rfl⟩ [(0, .pointer (some ⟨g0, 0, none⟩)), (1, .pointer (some ⟨g1, 0, none⟩)), (2, .pointer (some ⟨g2, 0, none⟩)), (3, .pointer (some ⟨g3, 0, none⟩)), (4, .pointer (some ⟨g4, 0, none⟩)), (5, .pointer (some ⟨g5, 0, none⟩)), (7, .int .i64 x3959), (54, .bool b3957)] rfl (fun ac hA => ?_)
        replace hS := hS.pk 6
        replace hS := hS.pk 6
        replace hS := hS.pk 2
        replace hS := hS.pk 3
        replace hS := hS.pk 6
        replace hS := hS.pk 6
        replace hS := hS.pk 6
        exact hb2 y4656.2.f0 y4666.2.f0 y4666.2.f1 b3957 hF A4662 n4663 c4664 A4668 n4669 c4670 h4665 h4671 ac w (hA.sub _ rfl) hS
      replace hF := iff' hb4672 hF
      refine hK _ [(4, .bool (y4656.1 == y4666.1)), (5, .bool (y4656.1 == y4666.1)), (6, undef), (7, .bool false)] _ rfl ?_
      refine dEff [4, 5, 6, 7] [8] (by kernel_rfl) ⟨pu rfl rfl [(49, .int .i64 y4656.1), (51, .int .i64 y4666.1)] (fun ac hA => r_eqI rfl (hA.ev rfl) (hA.ev rfl)) rfl rfl, pu rfl rfl [(52, .bool (y4656.1 == y4666.1))] (fun ac hA => y_move hA rfl rfl) rfl rfl, puOff rfl rfl rfl rfl [(3, .pointer (some ⟨g3, 0, none⟩)), (53, .bool (y4656.1 == y4666.1))] rfl hb4672 rfl, pu rfl rfl [(53, .bool (y4656.1 == y4666.1)), (54, undef)] (fun ac hA => y_pickf hb4672 hA rfl rfl rfl) rfl rfl, trivial⟩ (by kernel_rfl) (by kernel_rfl) ⟨ef rfl [(3, .pointer (some ⟨g3, 0, none⟩)), (55, .bool false)] (fun ac hA K hK => ?_) rfl rfl, trivial⟩
      refine z_stb 4 sz4 hA hS rfl (fun  w hS => ?_) rfl rfl rfl rfl rfl rfl
      refine hK _ [] _ rfl ?_
      refine dEnd [] (by kernel_rfl) trivial ⟨by kernel_rfl, by kernel_rfl⟩ [(0, .pointer (some ⟨g0, 0, none⟩)), (1, .pointer (some ⟨g1, 0, none⟩)), (2, .pointer (some ⟨g2, 0, none⟩)), (3, .pointer (some ⟨g3, 0, none⟩)), (4, .pointer (some ⟨g4, 0, none⟩)), (5, .pointer (some ⟨g5, 0, none⟩)), (7, .int .i64 x3959)] rfl (fun ac hA => ?_)
      replace hS := hS.pk 6
      replace hS := hS.pk 6
      replace hS := hS.pk 2
      replace hS := hS.pk 3
      replace hS := hS.pk 6
      replace hS := hS.pk 6
      replace hS := hS.pk 6
      exact hb2 y4656.2.f0 y4666.2.f0 y4666.2.f1 false hF A4662 n4663 c4664 A4668 n4669 c4670 h4665 h4671 ac w (hA.sub _ rfl) hS
    replace hF := iff' hb4655 hF
    refine wp_seq_k fun K4673 hK4673 => ?_
    refine wp_reg ?_
    refine x_val hA (r_eqI rfl (hA.ev rfl) (hA.ev rfl)) (fun ac hA => ?_) rfl rfl rfl
    refine x_assign hA (fun ac hA => ?_) rfl rfl rfl rfl rfl
    refine wpList_nil ?_
    refine hK4673 _ _ ?_
    refine c_if hA rfl (fun hb4674 => ?_) fun hb4674 => ?_
    · replace hF := ift hb4674 hF
      refine wp_draw [0, 0, 2, 7, 0, 0, 32, 127, 255, 511, 1023, 2047, 4095] [3, 7, 12] rfl hA hS (by kernel_rfl) (by kernel_rfl) (by kernel_rfl) (by kernel_rfl) fun w hS => ?_
      obtain ⟨x4675, h4676, hF⟩ := ltt_ hF
      refine ⟨[(0, .pointer (some ⟨g0, 0, none⟩)), (1, .int .u64 x4359), (2, .int .i64 x4675), (4, .pointer (some ⟨g109, 0, none⟩)), (5, .int .u64 x4359), (6, .int .i64 x4675)], ?_⟩
      refine dEff [0, 1, 2, 4, 5, 6] [3] (by kernel_rfl) ⟨pu rfl rfl [(0, .pointer (some ⟨g0, 0, none⟩))] (fun ac hA => y_move hA rfl rfl) rfl rfl, pu rfl rfl [(8, .int .u64 x4359)] (fun ac hA => y_move hA rfl rfl) rfl rfl, pu rfl rfl [(59, .int .u64 x4359)] (fun ac hA => (rv_i h4676 (r_convI Try.underlying29 Try.underlying3 rfl (hA.ev rfl)) : RunV _ _ _ _ (.int .i64 x4675))) rfl rfl, pu rfl rfl [(2, .pointer (some ⟨g2, 0, none⟩))] (fun ac hA => y_ld Try.underlying24 (hS.cell 2 rfl 0 _ rfl) hA rfl rfl rfl) rfl rfl, pu rfl rfl [(8, .int .u64 x4359)] (fun ac hA => y_move hA rfl rfl) rfl rfl, pu rfl rfl [(63, .int .u64 x4359)] (fun ac hA => (rv_i h4676 (r_convI Try.underlying29 Try.underlying3 rfl (hA.ev rfl)) : RunV _ _ _ _ (.int .i64 x4675))) rfl rfl, trivial⟩ (by kernel_rfl) (by kernel_rfl) ⟨ef rfl [(58, .pointer (some ⟨g0, 0, none⟩)), (60, .int .i64 x4675)] (fun ac hA K hK => ?_) rfl rfl, trivial⟩
      replace hS := SH.pure_ h3950 hS
      replace hS := hS.pk 1
      replace hS := obj72_mk (x := (⟨l3946⟩ : S72)) hS
      obtain ⟨y4677, h4678, hF⟩ := bnd hF
      rcases y4677 with y4677 | y4677
      rotate_left
      · replace hF := sum_r hF
        refine z_callp (vs := #[.pointer (some ⟨g0, 0, none⟩), .int .i64 x4675]) en17 hA (RetS.rf (F_column_Reader_Text (L := blk g1 22 [.slice A105 n106 c107] :: blk g2 24 [.pointer (some ⟨g109, 0, none⟩)] :: blk g109 26 [.slice A3952 n3953 c3954, .int .i64 x3956] :: blk g3 4 [.bool b3957] :: blk g4 3 [.int .i64 x3958] :: blk g5 4 [.bool a5] :: L) (⟨l3946⟩ : S72) x4675 g0 h4678 (qz + 6) hZ hS)) (fun w hR => ?_) rfl rfl rfl rfl
        replace hS := hR
        obtain ⟨A4679, n4680, c4681, hS⟩ := obj72_open hS
        replace hS := hS.pk 1
        have hQ0 := SH.unpure hS
        clear hS
        obtain ⟨h4682, hS⟩ := hQ0
        replace hS := SH.pure_ h4682 hS
        replace hS := hS.pk 1
        replace hS := obj72_mk (x := y4677) hS
        replace hS := SH.pure_ h108 hS
        replace hS := hS.pk 2
        replace hS := obj22_mk (x := a1) hS
        replace hS := SH.pure_ h3955 hS
        replace hS := hS.pk 4
        replace hS := obj26_mk (x := (⟨l3951, x3956⟩ : S26)) hS
        replace hS := hS.pk 3
        replace hS := obj24_mk (x := (⟨l3951, x3956⟩ : S26)) hS
        replace hS := hS.pk 3
        replace hS := obj4_mk (x := b3957) hS
        replace hS := hS.pk 4
        replace hS := obj3_mk (x := x3958) hS
        replace hS := hS.pk 5
        replace hS := obj4_mk (x := a5) hS
        replace hS := hS.pk 1
        replace hS := hS.pk 2
        replace hS := hS.pk 3
        replace hS := hS.pk 4
        replace hS := hS.pk 5
        cases hF
        have ht := T4348_ _ rfl
        subst ht
        replace hF := hR4348
        replace hF : some (.inr (y4677, a1, (⟨l3951, x3956⟩ : S26), b3957, x3958, a5)) = some y := hF
        cases hF
        exact hQp _ rfl _ _ hA.defers hS
      replace hF := sum_l hF
      refine z_callw (vs := #[.pointer (some ⟨g0, 0, none⟩), .int .i64 x4675]) en17 hA (RetS.lf (F_column_Reader_Text (L := blk g1 22 [.slice A105 n106 c107] :: blk g2 24 [.pointer (some ⟨g109, 0, none⟩)] :: blk g109 26 [.slice A3952 n3953 c3954, .int .i64 x3956] :: blk g3 4 [.bool b3957] :: blk g4 3 [.int .i64 x3958] :: blk g5 4 [.bool a5] :: L) (⟨l3946⟩ : S72) x4675 g0 h4678 (qz + 6) hZ hS)) (fun v w hR => ?_) rfl rfl rfl rfl
      obtain ⟨rfl, hS⟩ := hR
      obtain ⟨A4683, n4684, c4685, hS⟩ := obj72_open hS
      replace hS := hS.pk 1
      have hQ0 := SH.unpure hS
      clear hS
      obtain ⟨h4686, hS⟩ := hQ0
      refine hK _ [] _ rfl ?_
      refine dEff [4, 5, 6] [7] (by kernel_rfl) ⟨pu rfl rfl [(2, .pointer (some ⟨g2, 0, none⟩))] (fun ac hA => y_ld Try.underlying24 (hS.cell 2 rfl 0 _ rfl) hA rfl rfl rfl) rfl rfl, pu rfl rfl [(8, .int .u64 x4359)] (fun ac hA => y_move hA rfl rfl) rfl rfl, pu rfl rfl [(63, .int .u64 x4359)] (fun ac hA => (rv_i h4676 (r_convI Try.underlying29 Try.underlying3 rfl (hA.ev rfl)) : RunV _ _ _ _ (.int .i64 x4675))) rfl rfl, trivial⟩ (by kernel_rfl) (by kernel_rfl) ⟨ef rfl [(62, .pointer (some ⟨g109, 0, none⟩)), (64, .int .i64 x4675)] (fun ac hA K hK => ?_) rfl rfl, trivial⟩
      replace hS := SH.pure_ h3955 hS
      replace hS := hS.pk 4
      replace hS := obj26_mk (x := (⟨l3951, x3956⟩ : S26)) hS
      obtain ⟨y4687, h4688, hF⟩ := bnd hF
      refine z_call en18 hA (F_r03_Reader_Text (L := blk g0 72 [.slice A4683 n4684 c4685] :: blk g1 22 [.slice A105 n106 c107] :: blk g2 24 [.pointer (some ⟨g109, 0, none⟩)] :: blk g3 4 [.bool b3957] :: blk g4 3 [.int .i64 x3958] :: blk g5 4 [.bool a5] :: L) (⟨l3951, x3956⟩ : S26) x4675 g109 h4688 (qz + 6) hZ hS) (fun v w hR => ?_) rfl rfl
      obtain ⟨rfl, hS⟩ := hR
      obtain ⟨A4689, n4690, c4691, hS⟩ := obj26_open hS
      replace hS := hS.pk 1
      have hQ0 := SH.unpure hS
      clear hS
      obtain ⟨h4692, hS⟩ := hQ0
      refine bcase (b := y4677.1 == y4687.1) (fun hb4693 => ?_) fun hb4693 => ?_
      · replace hF := ift hb4693 hF
        refine hK _ [(8, .bool (y4677.1 == y4687.1)), (9, .bool (y4677.1 == y4687.1)), (10, .bool b3957), (11, .bool b3957)] _ rfl ?_
        refine dEff [8, 9, 10, 11] [12] (by kernel_rfl) ⟨pu rfl rfl [(61, str y4677.1), (65, str y4687.1)] (fun ac hA => r_eqS rfl (hA.ev rfl) (hA.ev rfl)) rfl rfl, pu rfl rfl [(66, .bool (y4677.1 == y4687.1))] (fun ac hA => y_move hA rfl rfl) rfl rfl, puOn rfl rfl rfl rfl [(3, .pointer (some ⟨g3, 0, none⟩)), (67, .bool (y4677.1 == y4687.1))] rfl hb4693 (fun ac hA => y_ld Try.underlying4 (hS.cell 4 rfl 0 _ rfl) hA rfl rfl rfl) rfl, pu rfl rfl [(67, .bool (y4677.1 == y4687.1)), (68, .bool b3957)] (fun ac hA => y_pickt hb4693 hA rfl rfl rfl) rfl rfl, trivial⟩ (by kernel_rfl) (by kernel_rfl) ⟨ef rfl [(3, .pointer (some ⟨g3, 0, none⟩)), (69, .bool b3957)] (fun ac hA K hK => ?_) rfl rfl, trivial⟩
        refine z_stb 4 sz4 hA hS rfl (fun  w hS => ?_) rfl rfl rfl rfl rfl rfl
        refine hK _ [] _ rfl ?_
        refine dEnd [] (by kernel_rfl) trivial ⟨by kernel_rfl, by kernel_rfl⟩ [(0, .pointer (some ⟨g0, 0, none⟩)), (1, .pointer (some ⟨g1, 0, none⟩)), (2, .pointer (some ⟨g2, 0, none⟩)), (3, .pointer (some ⟨g3, 0, none⟩)), (4, .pointer (some ⟨g4, 0, none⟩)), (5, .pointer (some ⟨g5, 0, none⟩)), (7, .int .i64 x3959), (68, .bool b3957)] rfl (fun ac hA => ?_)
        replace hS := hS.pk 6
        replace hS := hS.pk 6
        replace hS := hS.pk 2
        replace hS := hS.pk 3
        replace hS := hS.pk 6
        replace hS := hS.pk 6
        replace hS := hS.pk 6
        exact hb2 y4677.2.f0 y4687.2.f0 y4687.2.f1 b3957 hF A4683 n4684 c4685 A4689 n4690 c4691 h4686 h4692 ac w (hA.sub _ rfl) hS
      replace hF := iff' hb4693 hF
      refine hK _ [(8, .bool (y4677.1 == y4687.1)), (9, .bool (y4677.1 == y4687.1)), (10, undef), (11, .bool false)] _ rfl ?_
      refine dEff [8, 9, 10, 11] [12] (by kernel_rfl) ⟨pu rfl rfl [(61, str y4677.1), (65, str y4687.1)] (fun ac hA => r_eqS rfl (hA.ev rfl) (hA.ev rfl)) rfl rfl, pu rfl rfl [(66, .bool (y4677.1 == y4687.1))] (fun ac hA => y_move hA rfl rfl) rfl rfl, puOff rfl rfl rfl rfl [(3, .pointer (some ⟨g3, 0, none⟩)), (67, .bool (y4677.1 == y4687.1))] rfl hb4693 rfl, pu rfl rfl [(67, .bool (y4677.1 == y4687.1)), (68, undef)] (fun ac hA => y_pickf hb4693 hA rfl rfl rfl) rfl rfl, trivial⟩ (by kernel_rfl) (by kernel_rfl) ⟨ef rfl [(3, .pointer (some ⟨g3, 0, none⟩)), (69, .bool false)] (fun ac hA K hK => ?_) rfl rfl, trivial⟩
      refine z_stb 4 sz4 hA hS rfl (fun  w hS => ?_) rfl rfl rfl rfl rfl rfl
      refine hK _ [] _ rfl ?_
      refine dEnd [] (by kernel_rfl) trivial ⟨by kernel_rfl, by kernel_rfl⟩ [(0, .pointer (some ⟨g0, 0, none⟩)), (1, .pointer (some ⟨g1, 0, none⟩)), (2, .pointer (some ⟨g2, 0, none⟩)), (3, .pointer (some ⟨g3, 0, none⟩)), (4, .pointer (some ⟨g4, 0, none⟩)), (5, .pointer (some ⟨g5, 0, none⟩)), (7, .int .i64 x3959)] rfl (fun ac hA => ?_)
      replace hS := hS.pk 6
      replace hS := hS.pk 6
      replace hS := hS.pk 2
      replace hS := hS.pk 3
      replace hS := hS.pk 6
      replace hS := hS.pk 6
      replace hS := hS.pk 6
      exact hb2 y4677.2.f0 y4687.2.f0 y4687.2.f1 false hF A4683 n4684 c4685 A4689 n4690 c4691 h4686 h4692 ac w (hA.sub _ rfl) hS
    replace hF := iff' hb4674 hF
    refine wp_draw [0, 1, 0, 7, 15, 31, 63, 127, 255] [1, 3, 8] rfl hA hS (by kernel_rfl) (by kernel_rfl) (by kernel_rfl) (by kernel_rfl) fun w hS => ?_
    refine ⟨[(0, .pointer (some ⟨g0, 0, none⟩)), (2, .pointer (some ⟨g109, 0, none⟩))], ?_⟩
    refine dEff [0, 2] [1] (by kernel_rfl) ⟨pu rfl rfl [(0, .pointer (some ⟨g0, 0, none⟩))] (fun ac hA => y_move hA rfl rfl) rfl rfl, pu rfl rfl [(2, .pointer (some ⟨g2, 0, none⟩))] (fun ac hA => y_ld Try.underlying24 (hS.cell 2 rfl 0 _ rfl) hA rfl rfl rfl) rfl rfl, trivial⟩ (by kernel_rfl) (by kernel_rfl) ⟨ef rfl [(22, .pointer (some ⟨g0, 0, none⟩))] (fun ac hA K hK => ?_) rfl rfl, trivial⟩
    replace hS := SH.pure_ h3950 hS
    replace hS := hS.pk 1
    replace hS := obj72_mk (x := (⟨l3946⟩ : S72)) hS
    obtain ⟨y4694, h4695, hF⟩ := bnd hF
    rcases y4694 with y4694 | y4694
    rotate_left
    · replace hF := sum_r hF
      refine z_callp (vs := #[.pointer (some ⟨g0, 0, none⟩)]) en19 hA (RetS.rf (F_column_Reader_Byte (L := blk g1 22 [.slice A105 n106 c107] :: blk g2 24 [.pointer (some ⟨g109, 0, none⟩)] :: blk g109 26 [.slice A3952 n3953 c3954, .int .i64 x3956] :: blk g3 4 [.bool b3957] :: blk g4 3 [.int .i64 x3958] :: blk g5 4 [.bool a5] :: L) (⟨l3946⟩ : S72) g0 h4695 (qz + 6) hZ hS)) (fun w hR => ?_) rfl rfl rfl rfl
      replace hS := hR
      obtain ⟨A4696, n4697, c4698, hS⟩ := obj72_open hS
      replace hS := hS.pk 1
      have hQ0 := SH.unpure hS
      clear hS
      obtain ⟨h4699, hS⟩ := hQ0
      replace hS := SH.pure_ h4699 hS
      replace hS := hS.pk 1
      replace hS := obj72_mk (x := y4694) hS
      replace hS := SH.pure_ h108 hS
      replace hS := hS.pk 2
      replace hS := obj22_mk (x := a1) hS
      replace hS := SH.pure_ h3955 hS
      replace hS := hS.pk 4
      replace hS := obj26_mk (x := (⟨l3951, x3956⟩ : S26)) hS
      replace hS := hS.pk 3
      replace hS := obj24_mk (x := (⟨l3951, x3956⟩ : S26)) hS
      replace hS := hS.pk 3
      replace hS := obj4_mk (x := b3957) hS
      replace hS := hS.pk 4
      replace hS := obj3_mk (x := x3958) hS
      replace hS := hS.pk 5
      replace hS := obj4_mk (x := a5) hS
      replace hS := hS.pk 1
      replace hS := hS.pk 2
      replace hS := hS.pk 3
      replace hS := hS.pk 4
      replace hS := hS.pk 5
      cases hF
      have ht := T4348_ _ rfl
      subst ht
      replace hF := hR4348
      replace hF : some (.inr (y4694, a1, (⟨l3951, x3956⟩ : S26), b3957, x3958, a5)) = some y := hF
      cases hF
      exact hQp _ rfl _ _ hA.defers hS
    replace hF := sum_l hF
    refine z_callw (vs := #[.pointer (some ⟨g0, 0, none⟩)]) en19 hA (RetS.lf (F_column_Reader_Byte (L := blk g1 22 [.slice A105 n106 c107] :: blk g2 24 [.pointer (some ⟨g109, 0, none⟩)] :: blk g109 26 [.slice A3952 n3953 c3954, .int .i64 x3956] :: blk g3 4 [.bool b3957] :: blk g4 3 [.int .i64 x3958] :: blk g5 4 [.bool a5] :: L) (⟨l3946⟩ : S72) g0 h4695 (qz + 6) hZ hS)) (fun v w hR => ?_) rfl rfl rfl rfl
    obtain ⟨rfl, hS⟩ := hR
    obtain ⟨A4700, n4701, c4702, hS⟩ := obj72_open hS
    replace hS := hS.pk 1
    have hQ0 := SH.unpure hS
    clear hS
    obtain ⟨h4703, hS⟩ := hQ0
    refine hK _ [] _ rfl ?_
    refine dEff [2] [3] (by kernel_rfl) ⟨pu rfl rfl [(2, .pointer (some ⟨g2, 0, none⟩))] (fun ac hA => y_ld Try.underlying24 (hS.cell 2 rfl 0 _ rfl) hA rfl rfl rfl) rfl rfl, trivial⟩ (by kernel_rfl) (by kernel_rfl) ⟨ef rfl [(24, .pointer (some ⟨g109, 0, none⟩))] (fun ac hA K hK => ?_) rfl rfl, trivial⟩
    replace hS := SH.pure_ h3955 hS
    replace hS := hS.pk 4
    replace hS := obj26_mk (x := (⟨l3951, x3956⟩ : S26)) hS
    obtain ⟨y4704, h4705, hF⟩ := bnd hF
    refine z_call en20 hA (F_r03_Reader_Byte (L := blk g0 72 [.slice A4700 n4701 c4702] :: blk g1 22 [.slice A105 n106 c107] :: blk g2 24 [.pointer (some ⟨g109, 0, none⟩)] :: blk g3 4 [.bool b3957] :: blk g4 3 [.int .i64 x3958] :: blk g5 4 [.bool a5] :: L) (⟨l3951, x3956⟩ : S26) g109 h4705 (qz + 6) hZ hS) (fun v w hR => ?_) rfl rfl
    obtain ⟨rfl, hS⟩ := hR
    obtain ⟨A4706, n4707, c4708, hS⟩ := obj26_open hS
    replace hS := hS.pk 1
    have hQ0 := SH.unpure hS
    clear hS
    obtain ⟨h4709, hS⟩ := hQ0
    refine bcase (b := y4694.1 == y4704.1) (fun hb4710 => ?_) fun hb4710 => ?_
    · replace hF := ift hb4710 hF
      refine hK _ [(4, .bool (y4694.1 == y4704.1)), (5, .bool (y4694.1 == y4704.1)), (6, .bool b3957), (7, .bool b3957)] _ rfl ?_
      refine dEff [4, 5, 6, 7] [8] (by kernel_rfl) ⟨pu rfl rfl [(23, .int .u8 y4694.1), (25, .int .u8 y4704.1)] (fun ac hA => r_eqI rfl (hA.ev rfl) (hA.ev rfl)) rfl rfl, pu rfl rfl [(26, .bool (y4694.1 == y4704.1))] (fun ac hA => y_move hA rfl rfl) rfl rfl, puOn rfl rfl rfl rfl [(3, .pointer (some ⟨g3, 0, none⟩)), (27, .bool (y4694.1 == y4704.1))] rfl hb4710 (fun ac hA => y_ld Try.underlying4 (hS.cell 4 rfl 0 _ rfl) hA rfl rfl rfl) rfl, pu rfl rfl [(27, .bool (y4694.1 == y4704.1)), (28, .bool b3957)] (fun ac hA => y_pickt hb4710 hA rfl rfl rfl) rfl rfl, trivial⟩ (by kernel_rfl) (by kernel_rfl) ⟨ef rfl [(3, .pointer (some ⟨g3, 0, none⟩)), (29, .bool b3957)] (fun ac hA K hK => ?_) rfl rfl, trivial⟩
      refine z_stb 4 sz4 hA hS rfl (fun  w hS => ?_) rfl rfl rfl rfl rfl rfl
      refine hK _ [] _ rfl ?_
      refine dEnd [] (by kernel_rfl) trivial ⟨by kernel_rfl, by kernel_rfl⟩ [(0, .pointer (some ⟨g0, 0, none⟩)), (1, .pointer (some ⟨g1, 0, none⟩)), (2, .pointer (some ⟨g2, 0, none⟩)), (3, .pointer (some ⟨g3, 0, none⟩)), (4, .pointer (some ⟨g4, 0, none⟩)), (5, .pointer (some ⟨g5, 0, none⟩)), (7, .int .i64 x3959), (28, .bool b3957)] rfl (fun ac hA => ?_)
      replace hS := hS.pk 6
      replace hS := hS.pk 6
      replace hS := hS.pk 2
      replace hS := hS.pk 3
      replace hS := hS.pk 6
      replace hS := hS.pk 6
      replace hS := hS.pk 6
      exact hb2 y4694.2.f0 y4704.2.f0 y4704.2.f1 b3957 hF A4700 n4701 c4702 A4706 n4707 c4708 h4703 h4709 ac w (hA.sub _ rfl) hS
    replace hF := iff' hb4710 hF
    refine hK _ [(4, .bool (y4694.1 == y4704.1)), (5, .bool (y4694.1 == y4704.1)), (6, undef), (7, .bool false)] _ rfl ?_
    refine dEff [4, 5, 6, 7] [8] (by kernel_rfl) ⟨pu rfl rfl [(23, .int .u8 y4694.1), (25, .int .u8 y4704.1)] (fun ac hA => r_eqI rfl (hA.ev rfl) (hA.ev rfl)) rfl rfl, pu rfl rfl [(26, .bool (y4694.1 == y4704.1))] (fun ac hA => y_move hA rfl rfl) rfl rfl, puOff rfl rfl rfl rfl [(3, .pointer (some ⟨g3, 0, none⟩)), (27, .bool (y4694.1 == y4704.1))] rfl hb4710 rfl, pu rfl rfl [(27, .bool (y4694.1 == y4704.1)), (28, undef)] (fun ac hA => y_pickf hb4710 hA rfl rfl rfl) rfl rfl, trivial⟩ (by kernel_rfl) (by kernel_rfl) ⟨ef rfl [(3, .pointer (some ⟨g3, 0, none⟩)), (29, .bool false)] (fun ac hA K hK => ?_) rfl rfl, trivial⟩
    refine z_stb 4 sz4 hA hS rfl (fun  w hS => ?_) rfl rfl rfl rfl rfl rfl
    refine hK _ [] _ rfl ?_
    refine dEnd [] (by kernel_rfl) trivial ⟨by kernel_rfl, by kernel_rfl⟩ [(0, .pointer (some ⟨g0, 0, none⟩)), (1, .pointer (some ⟨g1, 0, none⟩)), (2, .pointer (some ⟨g2, 0, none⟩)), (3, .pointer (some ⟨g3, 0, none⟩)), (4, .pointer (some ⟨g4, 0, none⟩)), (5, .pointer (some ⟨g5, 0, none⟩)), (7, .int .i64 x3959)] rfl (fun ac hA => ?_)
    replace hS := hS.pk 6
    replace hS := hS.pk 6
    replace hS := hS.pk 2
    replace hS := hS.pk 3
    replace hS := hS.pk 6
    replace hS := hS.pk 6
    replace hS := hS.pk 6
    exact hb2 y4694.2.f0 y4704.2.f0 y4704.2.f1 false hF A4700 n4701 c4702 A4706 n4707 c4708 h4703 h4709 ac w (hA.sub _ rfl) hS
  replace hF := iff' hb4352 hF
  refine wp_exit ?_
  cases hF
  exact hx4348_0 l3946 l3951 x3956 b3957 x3958 (T4348_ _ rfl) A3947 n3948 c3949 A3952 n3953 c3954 h3950 h3955 ac w (hA.sub _ rfl) hS

set_option maxHeartbeats 4000000 in
theorem F_Try_law03_ColumnTries_1 {r : World} {L : List HP} {w : World} {Z : Nat → Prop} {wz : World} (a0 : (List Int)) (a60 : (List Int)) (a61 : S26) (a62 : Bool) (a63 : Int) (a64 : Bool) (A0 : Option Addr) (n0 : Nat) (c0 : Nat) (g60 : Nat) (g61 : Nat) (g62 : Nat) (g63 : Nat) (g64 : Nat) {y : (Bool × (List Int) × S26 × Bool × Int × Bool)} (hF : Try_law03_ColumnTries_1 a0 a60 a61 a62 a63 a64 = some y) (qz : Nat) (hZ : L[qz]? = some (zone Z wz)) (ha0 : Imm Z wz (kI .u8) A0 n0 c0 a0) (hS : SH r (obj22 Z wz g60 a60 :: obj24 Z wz g61 a61 :: obj4 g62 a62 :: obj3 g63 a63 :: obj4 g64 a64 :: L) w) :
    Ret Try.prog 11 #[.slice A0 n0 c0, .func (.func 12) #[] #[.pointer (some ⟨g60, 0, none⟩), .pointer (some ⟨g61, 0, none⟩), .pointer (some ⟨g62, 0, none⟩), .pointer (some ⟨g63, 0, none⟩), .pointer (some ⟨g64, 0, none⟩)]] w fun v w' => v = .bool y.1 ∧ SH r (obj22 Z wz g60 y.2.1 :: obj24 Z wz g61 y.2.2.1 :: obj4 g62 y.2.2.2.1 :: obj3 g63 y.2.2.2.2.1 :: obj4 g64 y.2.2.2.2.2 :: L) w' := by
  obtain ⟨y', hy, hF⟩ := bnd hF
  refine Ret.mono_ (try_walk (L1 := obj22 Z wz g60 y.2.1 :: obj24 Z wz g61 y.2.2.1 :: obj4 g62 y.2.2.2.1 :: obj3 g63 y.2.2.2.2.1 :: obj4 g64 y.2.2.2.2.2 :: L) (R := fun v w' => v = .bool y.1 ∧ SH r (obj22 Z wz g60 y.2.1 :: obj24 Z wz g61 y.2.2.1 :: obj4 g62 y.2.2.2.1 :: obj3 g63 y.2.2.2.2.1 :: obj4 g64 y.2.2.2.2.2 :: L) w') en12 hS (fun g g4 w1 hS1 => ?_)) (fun v w' h => h)
  replace hS1 := obj72_mk (x := ⟨a0⟩) (hS1.pk 1 |> fun h => (SH.pure_ ha0 (h.pk 1)).pk 1)
  replace hS1 := hS1.pk 1
  replace hS1 := hS1.pk 6
  replace hS1 := hS1.pk 6
  replace hS1 := hS1.pk 6
  replace hS1 := hS1.pk 6
  replace hS1 := hS1.pk 6
  replace hS1 := hS1.pk 6
  rcases y' with y' | y'
  · replace hF := sum_l hF
    cases hF
    left
    refine Ret.mono_ (RetS.lf (F_law03_ColumnTries_1 (L := blk g4 4 [.bool false] :: L) (⟨a0⟩ : S72) a60 a61 a62 a63 a64 g g60 g61 g62 g63 g64 hy (qz + 1) hZ hS1)) ?_
    rintro v w2 ⟨rfl, hS⟩
    replace hS := hS.pk 6
    replace hS := hS.pk 1
    obtain ⟨A', n', c', hS⟩ := obj72_open hS
    have hQ := SH.unpure (hS.pk 1)
    clear hS
    obtain ⟨hi, hS⟩ := hQ
    refine ⟨A', n', c', hS, fun w3 h3 => ⟨?_, h3⟩⟩
    rw [← hi.ln]
  · replace hF := sum_r hF
    cases hF
    right
    refine Calls.mono (RetS.rf (F_law03_ColumnTries_1 (L := blk g4 4 [.bool false] :: L) (⟨a0⟩ : S72) a60 a61 a62 a63 a64 g g60 g61 g62 g63 g64 hy (qz + 1) hZ hS1)) ?_
    rintro e w2 ⟨rfl, hS⟩
    replace hS := hS.pk 6
    replace hS := hS.drop 1
    exact ⟨rfl, hS, fun w3 h3 => ⟨rfl, h3⟩⟩

set_option maxHeartbeats 4000000 in
theorem F_law03_ColumnTries {r : World} {L : List HP} {w : World} {Z : Nat → Prop} {wz : World} (a0 : (List Int)) (a1 : (List Int)) (a2 : Bool) (A0 : Option Addr) (n0 : Nat) (c0 : Nat) (A1 : Option Addr) (n1 : Nat) (c1 : Nat) {y : (Bool)} (hF : law03_ColumnTries a0 a1 a2 = some y) (ha0 : Imm Z wz (kI .u8) A0 n0 c0 a0) (ha1 : Imm Z wz (kI .u8) A1 n1 c1 a1) (hS : SH r (zone Z wz :: L) w) :
    Ret Try.prog 3 #[.slice A0 n0 c0, .slice A1 n1 c1, .bool a2] w fun v w' => ∃ (Z' : Nat → Prop) (wz' : World), v = .bool y ∧ Sub Z wz Z' wz' ∧ SH r (zone Z' wz' :: L) w' := by
  refine enter Try.func3 rfl Try.ntmps3 [(0, .slice A0 n0 c0), (1, .slice A1 n1 c1), (2, .bool a2)] rfl (by simp) ?_
  intro ac hA Qf hQ hQn
  unfold law03_ColumnTries at hF
  refine wp_seq_k fun K101 hK101 => ?_
  refine wp_reg ?_
  refine x_box hA hS (fun g102 ac w hS hA => ?_) rfl rfl rfl rfl rfl rfl
  refine x_box hA hS (fun g103 ac w hS hA => ?_) rfl rfl rfl rfl rfl rfl
  refine x_assign hA (fun ac hA => ?_) rfl rfl rfl rfl rfl
  refine wpList_nil ?_
  refine hK101 _ _ ?_
  refine wp_seq_k fun K104 hK104 => ?_
  refine wp_seq_k fun K105 hK105 => ?_
  have hj1 : ∀ (b110 : Bool), law03_ColumnTries_j1 a0 a1 a2 b110 = some y → ∀ (ac : Act) (w : World), FR 88 [] ac [(0, .slice A0 n0 c0), (4, .pointer (some ⟨g102, 0, none⟩)), (5, .pointer (some ⟨g103, 0, none⟩)), (23, .bool b110)] → SH r (blk g102 22 [.slice A1 n1 c1] :: blk g103 4 [.bool a2] :: zone Z wz :: L) w → K105 ac w := by
    intro b110 hF ac w hA hS
    unfold law03_ColumnTries_j1 at hF
    refine hK105 _ _ ?_
    refine c_if hA rfl (fun hb111 => ?_) fun hb111 => ?_
    · replace hF := ift hb111 hF
      refine wp_seq_k fun K112 hK112 => ?_
      refine wp_reg ?_
      obtain ⟨y113, h114, hF⟩ := bnd hF
      refine x_call en10 hA (F_law03_awake (L := blk g102 22 [.slice A1 n1 c1] :: blk g103 4 [.bool a2] :: zone Z wz :: L) h114 hS) (fun v ac w hR hA => ?_) rfl rfl rfl rfl rfl
      obtain ⟨rfl, hS⟩ := hR
      refine x_assign hA (fun ac hA => ?_) rfl rfl rfl rfl rfl
      refine wpList_nil ?_
      refine hK112 _ _ ?_
      refine wp_ret ?_
      replace hS := hS.drop 0
      replace hS := hS.drop 0
      cases hF
      refine hQ _ _ ?_
      refine lv Try.results3 hA rfl ?_
      exact ⟨Z, wz, rfl, (Sub.refl _ _), hS⟩
    replace hF := iff' hb111 hF
    refine wp_skip ?_
    refine hK104 _ _ ?_
    refine wp_seq_k fun K115 hK115 => ?_
    refine wp_reg ?_
    refine x_move hA (fun ac hA => ?_) rfl rfl rfl rfl rfl
    refine x_val (v := .agg #[.slice A0 n0 c0, .int .i64 0]) hA (r_build (ps := #[(0, .slice A0 n0 c0)]) rfl (mapev2 hA rfl) (fun w => by kernel_rfl)) (fun ac hA => ?_) rfl rfl rfl
    refine x_box hA hS (fun g116 ac w hS hA => ?_) rfl rfl rfl rfl rfl rfl
    refine x_alloc (cs := [.pointer none]) zr24 hA hS (fun g117 ac w hS hA => ?_) rfl rfl rfl rfl rfl
    refine x_stb 0 sz24 hA hS rfl (fun  ac w hS hA => ?_) rfl rfl rfl rfl rfl rfl rfl rfl
    refine wpList_nil ?_
    refine hK115 _ _ ?_
    refine wp_seq_k fun K118 hK118 => ?_
    refine wp_reg ?_
    refine x_alloc (cs := [.bool false]) zr4 hA hS (fun g119 ac w hS hA => ?_) rfl rfl rfl rfl rfl
    refine x_stb 0 sz4 hA hS rfl (fun  ac w hS hA => ?_) rfl rfl rfl rfl rfl rfl rfl rfl
    refine wpList_nil ?_
    refine hK118 _ _ ?_
    refine wp_seq_k fun K120 hK120 => ?_
    refine wp_reg ?_
    refine x_alloc (cs := [.int .i64 0]) zr3 hA hS (fun g121 ac w hS hA => ?_) rfl rfl rfl rfl rfl
    refine x_stb 0 sz3 hA hS rfl (fun  ac w hS hA => ?_) rfl rfl rfl rfl rfl rfl rfl rfl
    refine wpList_nil ?_
    refine hK120 _ _ ?_
    refine wp_seq_k fun K122 hK122 => ?_
    refine wp_reg ?_
    refine x_move hA (fun ac hA => ?_) rfl rfl rfl rfl rfl
    refine x_val hA (r_makeFunc rfl (mapev (vals := #[]) hA rfl) (mapev (vals := #[.pointer (some ⟨g102, 0, none⟩), .pointer (some ⟨g117, 0, none⟩), .pointer (some ⟨g119, 0, none⟩), .pointer (some ⟨g121, 0, none⟩), .pointer (some ⟨g103, 0, none⟩)]) hA rfl)) (fun ac hA => ?_) rfl rfl rfl
    replace hS := SH.pure_ ha1 hS
    replace hS := hS.pk 5
    replace hS := obj22_mk (x := a1) hS
    replace hS := SH.pure_ ha0 hS
    replace hS := hS.pk 5
    replace hS := obj26_mk (x := (⟨a0, 0⟩ : S26)) hS
    replace hS := hS.pk 4
    replace hS := obj24_mk (x := (⟨a0, 0⟩ : S26)) hS
    replace hS := hS.pk 3
    replace hS := obj4_mk (x := true) hS
    replace hS := hS.pk 3
    replace hS := obj3_mk (x := 0) hS
    replace hS := hS.pk 4
    replace hS := obj4_mk (x := a2) hS
    replace hS := hS.pk 1
    replace hS := hS.pk 2
    replace hS := hS.pk 3
    replace hS := hS.pk 4
    obtain ⟨y123, h124, hF⟩ := bnd hF
    refine x_call en11 hA (F_Try_law03_ColumnTries_1 (L := zone Z wz :: L) a0 a1 (⟨a0, 0⟩ : S26) true 0 a2 A0 n0 c0 g102 g117 g119 g121 g103 h124 0 rfl ha0 hS) (fun v ac w hR hA => ?_) rfl rfl rfl rfl rfl
    obtain ⟨rfl, hS⟩ := hR
    obtain ⟨A125, n126, c127, hS⟩ := obj22_open hS
    replace hS := hS.pk 1
    have hQ0 := SH.unpure hS
    clear hS
    obtain ⟨h128, hS⟩ := hQ0
    replace hS := hS.pk 1
    obtain ⟨g129, hS⟩ := obj24_open hS
    replace hS := hS.pk 1
    obtain ⟨A130, n131, c132, hS⟩ := obj26_open hS
    replace hS := hS.pk 1
    have hQ0 := SH.unpure hS
    clear hS
    obtain ⟨h133, hS⟩ := hQ0
    replace hS := hS.pk 3
    replace hS := obj4_open hS
    replace hS := hS.pk 4
    replace hS := obj3_open hS
    replace hS := hS.pk 5
    replace hS := obj4_open hS
    refine x_assign hA (fun ac hA => ?_) rfl rfl rfl rfl rfl
    refine wpList_nil ?_
    refine hK122 _ _ ?_
    refine wp_seq_k fun K134 hK134 => ?_
    refine wp_seq_k fun K135 hK135 => ?_
    refine wp_reg ?_
    refine x_ld Try.underlying3 (hS.cell 1 rfl 0 _ rfl) hA (fun ac hA => ?_) rfl rfl rfl rfl rfl rfl
    refine x_ld Try.underlying22 (hS.cell 5 rfl 0 _ rfl) hA (fun ac hA => ?_) rfl rfl rfl rfl rfl rfl
    refine x_len Try.underlying22 (hS.imm 6 h128 rfl).2.1 hA (fun ac hA => ?_) rfl rfl rfl rfl rfl
    refine x_val hA (r_ltI rfl (hA.ev rfl) (hA.ev rfl)) (fun ac hA => ?_) rfl rfl rfl
    refine wpList_nil ?_
    refine hK135 _ _ ?_
    refine c_if hA rfl (fun hb136 => ?_) fun hb136 => ?_
    · replace hF := ift hb136 hF
      refine wp_seq_k fun K137 hK137 => ?_
      refine wp_reg ?_
      refine x_ld Try.underlying22 (hS.cell 5 rfl 0 _ rfl) hA (fun ac hA => ?_) rfl rfl rfl rfl rfl rfl
      refine x_ld Try.underlying3 (hS.cell 1 rfl 0 _ rfl) hA (fun ac hA => ?_) rfl rfl rfl rfl rfl rfl
      obtain ⟨x138, h139, hF⟩ := bnd hF
      refine x_ia Try.underlying22 sz5 (hS.imm 6 h128 rfl) h139 hA (fun ac hA => ?_) rfl rfl rfl rfl rfl rfl
      obtain ⟨cs, hV, hc140⟩ := el (hS.imm 6 h128 rfl) h139
      obtain rfl := hV
      refine x_ld Try.underlying5 (hc140 0 _ rfl) hA (fun ac hA => ?_) rfl rfl rfl rfl rfl rfl
      obtain ⟨x141, h142, hF⟩ := ltt_ hF
      refine x_val (v := .int .u64 x141) hA (rv_i h142 (r_convI Try.underlying5 Try.underlying29 rfl (hA.ev rfl))) (fun ac hA => ?_) rfl rfl rfl
      refine x_assign hA (fun ac hA => ?_) rfl rfl rfl rfl rfl
      refine wpList_nil ?_
      refine hK137 _ _ ?_
      refine wp_seq_k fun K143 hK143 => ?_
      refine wp_seq_k fun K221 hK221 => ?_
      refine wp_reg ?_
      refine x_move hA (fun ac hA => ?_) rfl rfl rfl rfl rfl
      refine x_val hA (r_rem rfl (hA.ev rfl) (hA.ev rfl) (by decide)) (fun ac hA => ?_) rfl rfl rfl
      refine wpList_nil ?_
      refine hK221 _ _ ?_
      refine wp_block_k fun Kx222 hKx222 => ?_
      have hb1 : ∀ (l257 : (List Int)) (x262 : Int), law03_ColumnTries_b1 y123 l257 x262 = some y → ∀ (A258 : Option Addr) (n259 : Nat) (c260 : Nat) (h261 : Imm Z wz (kI .u8) A258 n259 c260 l257) (ac : Act) (w : World), FR 88 [] ac [(7, .pointer (some ⟨g117, 0, none⟩)), (8, .pointer (some ⟨g119, 0, none⟩)), (10, .bool y123.1)] → SH r (blk g117 24 [.pointer (some ⟨g129, 0, none⟩)] :: blk g129 26 [.slice A258 n259 c260, .int .i64 x262] :: blk g119 4 [.bool y123.2.2.2.1] :: zone Z wz :: L) w → Kx222 ac w := by
        intro l257 x262 hF A258 n259 c260 h261 ac w hA hS
        unfold law03_ColumnTries_b1 at hF
        refine hKx222 _ _ ?_
        refine hK143 _ _ ?_
        refine wp_seq_k fun K263 hK263 => ?_
        refine wp_reg ?_
        refine x_ld Try.underlying4 (hS.cell 2 rfl 0 _ rfl) hA (fun ac hA => ?_) rfl rfl rfl rfl rfl rfl
        refine x_move hA (fun ac hA => ?_) rfl rfl rfl rfl rfl
        refine bcase (b := y123.2.2.2.1) (fun hb264 => ?_) fun hb264 => ?_
        · replace hF := ift hb264 hF
          refine x_on hb264 hA ?_ rfl rfl rfl
          refine x_move hA (fun ac hA => ?_) rfl rfl rfl rfl rfl
          refine x_on hb264 hA ?_ rfl rfl rfl
          refine x_val hA (r_not rfl (hA.ev rfl)) (fun ac hA => ?_) rfl rfl rfl
          refine x_pickt hb264 hA (fun ac hA => ?_) rfl rfl rfl rfl rfl rfl
          refine x_move hA (fun ac hA => ?_) rfl rfl rfl rfl rfl
          refine bcase (b := !y123.1) (fun hb265 => ?_) fun hb265 => ?_
          · replace hF := ift hb265 hF
            refine x_on hb265 hA ?_ rfl rfl rfl
            refine x_ld Try.underlying24 (hS.cell 0 rfl 0 _ rfl) hA (fun ac hA => ?_) rfl rfl rfl rfl rfl rfl
            refine x_on hb265 hA ?_ rfl rfl rfl
            refine x_val hA (r_nilCheck rfl (hA.ev rfl)) (fun ac hA => ?_) rfl rfl rfl
            refine x_on hb265 hA ?_ rfl rfl rfl
            refine x_fab fa26_1 hA (fun ac hA => ?_) rfl rfl rfl rfl rfl
            refine x_on hb265 hA ?_ rfl rfl rfl
            refine x_ld Try.underlying3 (hS.cell 1 rfl 1 _ rfl) hA (fun ac hA => ?_) rfl rfl rfl rfl rfl rfl
            refine x_on hb265 hA ?_ rfl rfl rfl
            refine x_val hA (r_ltI rfl (hA.ev rfl) (hA.ev rfl)) (fun ac hA => ?_) rfl rfl rfl
            refine x_pickt hb265 hA (fun ac hA => ?_) rfl rfl rfl rfl rfl rfl
            refine x_assign hA (fun ac hA => ?_) rfl rfl rfl rfl rfl
            refine wpList_nil ?_
            refine hK263 _ _ ?_
            refine wp_ret ?_
            replace hS := hS.drop 0
            replace hS := hS.drop 0
            replace hS := hS.drop 0
            cases hF
            refine hQ _ _ ?_
            refine lv Try.results3 hA rfl ?_
            exact ⟨Z, wz, rfl, (Sub.refl _ _), hS⟩
          replace hF := iff' hb265 hF
          refine x_off hb265 hA (fun ac hA => ?_) rfl rfl rfl rfl rfl
          refine x_off hb265 hA (fun ac hA => ?_) rfl rfl rfl rfl rfl
          refine x_off hb265 hA (fun ac hA => ?_) rfl rfl rfl rfl rfl
          refine x_off hb265 hA (fun ac hA => ?_) rfl rfl rfl rfl rfl
          refine x_off hb265 hA (fun ac hA => ?_) rfl rfl rfl rfl rfl
          refine x_pickf hb265 hA (fun ac hA => ?_) rfl rfl rfl rfl rfl rfl
          refine x_assign hA (fun ac hA => ?_) rfl rfl rfl rfl rfl
          refine wpList_nil ?_
          refine hK263 _ _ ?_
          refine wp_ret ?_
          replace hS := hS.drop 0
          replace hS := hS.drop 0
          replace hS := hS.drop 0
          cases hF
          refine hQ _ _ ?_
          refine lv Try.results3 hA rfl ?_
          exact ⟨Z, wz, rfl, (Sub.refl _ _), hS⟩
        replace hF := iff' hb264 hF
        refine x_off hb264 hA (fun ac hA => ?_) rfl rfl rfl rfl rfl
        refine x_off hb264 hA (fun ac hA => ?_) rfl rfl rfl rfl rfl
        refine x_pickf hb264 hA (fun ac hA => ?_) rfl rfl rfl rfl rfl rfl
        refine x_move hA (fun ac hA => ?_) rfl rfl rfl rfl rfl
        refine x_off rfl hA (fun ac hA => ?_) rfl rfl rfl rfl rfl
        refine x_off rfl hA (fun ac hA => ?_) rfl rfl rfl rfl rfl
        refine x_off rfl hA (fun ac hA => ?_) rfl rfl rfl rfl rfl
        refine x_off rfl hA (fun ac hA => ?_) rfl rfl rfl rfl rfl
        refine x_off rfl hA (fun ac hA => ?_) rfl rfl rfl rfl rfl
        refine x_pickf rfl hA (fun ac hA => ?_) rfl rfl rfl rfl rfl rfl
        refine x_assign hA (fun ac hA => ?_) rfl rfl rfl rfl rfl
        refine wpList_nil ?_
        refine hK263 _ _ ?_
        refine wp_ret ?_
        replace hS := hS.drop 0
        replace hS := hS.drop 0
        replace hS := hS.drop 0
        cases hF
        refine hQ _ _ ?_
        refine lv Try.results3 hA rfl ?_
        exact ⟨Z, wz, rfl, (Sub.refl _ _), hS⟩
      refine wp_seq_k fun K266 hK266 => ?_
      refine wp_reg ?_
      refine x_val hA (r_eqI rfl (hA.ev rfl) (hA.ev rfl)) (fun ac hA => ?_) rfl rfl rfl
      refine x_assign hA (fun ac hA => ?_) rfl rfl rfl rfl rfl
      refine wpList_nil ?_
      refine hK266 _ _ ?_
      refine c_if hA rfl (fun hb267 => ?_) fun hb267 => ?_
      · replace hF := ift hb267 hF
        refine wp_reg ?_
        refine x_ld Try.underlying24 (hS.cell 4 rfl 0 _ rfl) hA (fun ac hA => ?_) rfl rfl rfl rfl rfl rfl
        refine x_move hA (fun ac hA => ?_) rfl rfl rfl rfl rfl
        refine x_move hA (fun ac hA => ?_) rfl rfl rfl rfl rfl
        obtain ⟨x268, h269, hF⟩ := ltt_ hF
        refine x_val (v := .int .u64 x268) hA (rv_i h269 (r_mul rfl (hA.ev rfl) (hA.ev rfl))) (fun ac hA => ?_) rfl rfl rfl
        replace hS := SH.pure_ h133 hS
        replace hS := hS.pk 4
        replace hS := obj26_mk (x := y123.2.2.1) hS
        obtain ⟨y270, h271, hF⟩ := bnd hF
        refine x_call en14 hA (F_r03_Reader_Uint (L := blk g103 4 [.bool y123.2.2.2.2.2] :: blk g121 3 [.int .i64 y123.2.2.2.2.1] :: blk g119 4 [.bool y123.2.2.2.1] :: blk g117 24 [.pointer (some ⟨g129, 0, none⟩)] :: blk g102 22 [.slice A125 n126 c127] :: zone Z wz :: L) y123.2.2.1 x268 g129 h271 5 rfl hS) (fun v ac w hR hA => ?_) rfl rfl rfl rfl rfl
        obtain ⟨rfl, hS⟩ := hR
        obtain ⟨A272, n273, c274, hS⟩ := obj26_open hS
        replace hS := hS.pk 1
        have hQ0 := SH.unpure hS
        clear hS
        obtain ⟨h275, hS⟩ := hQ0
        refine wpList_nil ?_
        replace hS := hS.drop 1
        replace hS := hS.drop 1
        replace hS := hS.drop 3
        replace hS := hS.pk 3
        replace hS := hS.pk 2
        replace hS := hS.pk 2
        replace hS := hS.pk 3
        exact hb1 y270.2.f0 y270.2.f1 hF A272 n273 c274 h275 ac w (hA.sub _ rfl) hS
      replace hF := iff' hb267 hF
      refine wp_seq_k fun K276 hK276 => ?_
      refine wp_reg ?_
      refine x_val hA (r_eqI rfl (hA.ev rfl) (hA.ev rfl)) (fun ac hA => ?_) rfl rfl rfl
      refine x_assign hA (fun ac hA => ?_) rfl rfl rfl rfl rfl
      refine wpList_nil ?_
      refine hK276 _ _ ?_
      refine c_if hA rfl (fun hb277 => ?_) fun hb277 => ?_
      · replace hF := ift hb277 hF
        refine wp_reg ?_
        refine x_ld Try.underlying24 (hS.cell 4 rfl 0 _ rfl) hA (fun ac hA => ?_) rfl rfl rfl rfl rfl rfl
        replace hS := SH.pure_ h133 hS
        replace hS := hS.pk 4
        replace hS := obj26_mk (x := y123.2.2.1) hS
        obtain ⟨y278, h279, hF⟩ := bnd hF
        refine x_call en16 hA (F_r03_Reader_Int (L := blk g103 4 [.bool y123.2.2.2.2.2] :: blk g121 3 [.int .i64 y123.2.2.2.2.1] :: blk g119 4 [.bool y123.2.2.2.1] :: blk g117 24 [.pointer (some ⟨g129, 0, none⟩)] :: blk g102 22 [.slice A125 n126 c127] :: zone Z wz :: L) y123.2.2.1 g129 h279 5 rfl hS) (fun v ac w hR hA => ?_) rfl rfl rfl rfl rfl
        obtain ⟨rfl, hS⟩ := hR
        obtain ⟨A280, n281, c282, hS⟩ := obj26_open hS
        replace hS := hS.pk 1
        have hQ0 := SH.unpure hS
        clear hS
        obtain ⟨h283, hS⟩ := hQ0
        refine wpList_nil ?_
        replace hS := hS.drop 1
        replace hS := hS.drop 1
        replace hS := hS.drop 3
        replace hS := hS.pk 3
        replace hS := hS.pk 2
        replace hS := hS.pk 2
        replace hS := hS.pk 3
        exact hb1 y278.2.f0 y278.2.f1 hF A280 n281 c282 h283 ac w (hA.sub _ rfl) hS
      replace hF := iff' hb277 hF
      refine wp_seq_k fun K284 hK284 => ?_
      refine wp_reg ?_
      refine x_val hA (r_eqI rfl (hA.ev rfl) (hA.ev rfl)) (fun ac hA => ?_) rfl rfl rfl
      refine x_assign hA (fun ac hA => ?_) rfl rfl rfl rfl rfl
      refine wpList_nil ?_
      refine hK284 _ _ ?_
      refine c_if hA rfl (fun hb285 => ?_) fun hb285 => ?_
      · replace hF := ift hb285 hF
        refine wp_reg ?_
        refine x_ld Try.underlying24 (hS.cell 4 rfl 0 _ rfl) hA (fun ac hA => ?_) rfl rfl rfl rfl rfl rfl
        refine x_move hA (fun ac hA => ?_) rfl rfl rfl rfl rfl
        obtain ⟨x286, h287, hF⟩ := ltt_ hF
        refine x_val (v := .int .i64 x286) hA (rv_i h287 (r_convI Try.underlying29 Try.underlying3 rfl (hA.ev rfl))) (fun ac hA => ?_) rfl rfl rfl
        replace hS := SH.pure_ h133 hS
        replace hS := hS.pk 4
        replace hS := obj26_mk (x := y123.2.2.1) hS
        obtain ⟨y288, h289, hF⟩ := bnd hF
        refine x_call en18 hA (F_r03_Reader_Text (L := blk g103 4 [.bool y123.2.2.2.2.2] :: blk g121 3 [.int .i64 y123.2.2.2.2.1] :: blk g119 4 [.bool y123.2.2.2.1] :: blk g117 24 [.pointer (some ⟨g129, 0, none⟩)] :: blk g102 22 [.slice A125 n126 c127] :: zone Z wz :: L) y123.2.2.1 x286 g129 h289 5 rfl hS) (fun v ac w hR hA => ?_) rfl rfl rfl rfl rfl
        obtain ⟨rfl, hS⟩ := hR
        obtain ⟨A290, n291, c292, hS⟩ := obj26_open hS
        replace hS := hS.pk 1
        have hQ0 := SH.unpure hS
        clear hS
        obtain ⟨h293, hS⟩ := hQ0
        refine wpList_nil ?_
        replace hS := hS.drop 1
        replace hS := hS.drop 1
        replace hS := hS.drop 3
        replace hS := hS.pk 3
        replace hS := hS.pk 2
        replace hS := hS.pk 2
        replace hS := hS.pk 3
        exact hb1 y288.2.f0 y288.2.f1 hF A290 n291 c292 h293 ac w (hA.sub _ rfl) hS
      replace hF := iff' hb285 hF
      refine wp_reg ?_
      refine x_ld Try.underlying24 (hS.cell 4 rfl 0 _ rfl) hA (fun ac hA => ?_) rfl rfl rfl rfl rfl rfl
      replace hS := SH.pure_ h133 hS
      replace hS := hS.pk 4
      replace hS := obj26_mk (x := y123.2.2.1) hS
      obtain ⟨y294, h295, hF⟩ := bnd hF
      refine x_call en20 hA (F_r03_Reader_Byte (L := blk g103 4 [.bool y123.2.2.2.2.2] :: blk g121 3 [.int .i64 y123.2.2.2.2.1] :: blk g119 4 [.bool y123.2.2.2.1] :: blk g117 24 [.pointer (some ⟨g129, 0, none⟩)] :: blk g102 22 [.slice A125 n126 c127] :: zone Z wz :: L) y123.2.2.1 g129 h295 5 rfl hS) (fun v ac w hR hA => ?_) rfl rfl rfl rfl rfl
      obtain ⟨rfl, hS⟩ := hR
      obtain ⟨A296, n297, c298, hS⟩ := obj26_open hS
      replace hS := hS.pk 1
      have hQ0 := SH.unpure hS
      clear hS
      obtain ⟨h299, hS⟩ := hQ0
      refine wpList_nil ?_
      replace hS := hS.drop 1
      replace hS := hS.drop 1
      replace hS := hS.drop 3
      replace hS := hS.pk 3
      replace hS := hS.pk 2
      replace hS := hS.pk 2
      replace hS := hS.pk 3
      exact hb1 y294.2.f0 y294.2.f1 hF A296 n297 c298 h299 ac w (hA.sub _ rfl) hS
    replace hF := iff' hb136 hF
    refine wp_skip ?_
    refine hK134 _ _ ?_
    refine wp_seq_k fun K300 hK300 => ?_
    refine wp_reg ?_
    refine x_ld Try.underlying4 (hS.cell 2 rfl 0 _ rfl) hA (fun ac hA => ?_) rfl rfl rfl rfl rfl rfl
    refine x_move hA (fun ac hA => ?_) rfl rfl rfl rfl rfl
    refine bcase (b := y123.2.2.2.1) (fun hb301 => ?_) fun hb301 => ?_
    · replace hF := ift hb301 hF
      refine x_on hb301 hA ?_ rfl rfl rfl
      refine x_move hA (fun ac hA => ?_) rfl rfl rfl rfl rfl
      refine x_on hb301 hA ?_ rfl rfl rfl
      refine x_ld Try.underlying4 (hS.cell 0 rfl 0 _ rfl) hA (fun ac hA => ?_) rfl rfl rfl rfl rfl rfl
      refine x_on hb301 hA ?_ rfl rfl rfl
      refine x_move hA (fun ac hA => ?_) rfl rfl rfl rfl rfl
      refine bcase (b := y123.2.2.2.2.2) (fun hb302 => ?_) fun hb302 => ?_
      · replace hF := ift hb302 hF
        refine x_on hb302 hA ?_ rfl rfl rfl
        refine x_ld Try.underlying24 (hS.cell 4 rfl 0 _ rfl) hA (fun ac hA => ?_) rfl rfl rfl rfl rfl rfl
        refine x_on hb302 hA ?_ rfl rfl rfl
        refine x_val hA (r_nilCheck rfl (hA.ev rfl)) (fun ac hA => ?_) rfl rfl rfl
        refine x_on hb302 hA ?_ rfl rfl rfl
        refine x_fab fa26_1 hA (fun ac hA => ?_) rfl rfl rfl rfl rfl
        refine x_on hb302 hA ?_ rfl rfl rfl
        refine x_ld Try.underlying3 (hS.cell 3 rfl 1 _ rfl) hA (fun ac hA => ?_) rfl rfl rfl rfl rfl rfl
        refine x_on hb302 hA ?_ rfl rfl rfl
        refine x_move hA (fun ac hA => ?_) rfl rfl rfl rfl rfl
        refine x_on hb302 hA ?_ rfl rfl rfl
        refine x_len Try.underlying22 (hS.imm 6 ha0 rfl).2.1 hA (fun ac hA => ?_) rfl rfl rfl rfl rfl
        refine x_on hb302 hA ?_ rfl rfl rfl
        refine x_val hA (r_eqI rfl (hA.ev rfl) (hA.ev rfl)) (fun ac hA => ?_) rfl rfl rfl
        refine x_on hb301 hA ?_ rfl rfl rfl
        refine x_pickt hb302 hA (fun ac hA => ?_) rfl rfl rfl rfl rfl rfl
        refine x_on hb301 hA ?_ rfl rfl rfl
        refine x_val hA (r_eqB Try.underlying4 rfl (hA.ev rfl) (hA.ev rfl)) (fun ac hA => ?_) rfl rfl rfl
        refine x_pickt hb301 hA (fun ac hA => ?_) rfl rfl rfl rfl rfl rfl
        refine x_assign hA (fun ac hA => ?_) rfl rfl rfl rfl rfl
        refine wpList_nil ?_
        refine hK300 _ _ ?_
        refine wp_ret ?_
        replace hS := hS.drop 0
        replace hS := hS.drop 0
        replace hS := hS.drop 0
        replace hS := hS.drop 0
        replace hS := hS.drop 0
        replace hS := hS.drop 0
        cases hF
        refine hQ _ _ ?_
        refine lv Try.results3 hA rfl ?_
        exact ⟨Z, wz, rfl, (Sub.refl _ _), hS⟩
      replace hF := iff' hb302 hF
      refine x_off hb302 hA (fun ac hA => ?_) rfl rfl rfl rfl rfl
      refine x_off hb302 hA (fun ac hA => ?_) rfl rfl rfl rfl rfl
      refine x_off hb302 hA (fun ac hA => ?_) rfl rfl rfl rfl rfl
      refine x_off hb302 hA (fun ac hA => ?_) rfl rfl rfl rfl rfl
      refine x_off hb302 hA (fun ac hA => ?_) rfl rfl rfl rfl rfl
      refine x_off hb302 hA (fun ac hA => ?_) rfl rfl rfl rfl rfl
      refine x_off hb302 hA (fun ac hA => ?_) rfl rfl rfl rfl rfl
      refine x_on hb301 hA ?_ rfl rfl rfl
      refine x_pickf hb302 hA (fun ac hA => ?_) rfl rfl rfl rfl rfl rfl
      refine x_on hb301 hA ?_ rfl rfl rfl
      refine x_val hA (r_eqB Try.underlying4 rfl (hA.ev rfl) (hA.ev rfl)) (fun ac hA => ?_) rfl rfl rfl
      refine x_pickt hb301 hA (fun ac hA => ?_) rfl rfl rfl rfl rfl rfl
      refine x_assign hA (fun ac hA => ?_) rfl rfl rfl rfl rfl
      refine wpList_nil ?_
      refine hK300 _ _ ?_
      refine wp_ret ?_
      replace hS := hS.drop 0
      replace hS := hS.drop 0
      replace hS := hS.drop 0
      replace hS := hS.drop 0
      replace hS := hS.drop 0
      replace hS := hS.drop 0
      cases hF
      refine hQ _ _ ?_
      refine lv Try.results3 hA rfl ?_
      exact ⟨Z, wz, rfl, (Sub.refl _ _), hS⟩
    replace hF := iff' hb301 hF
    refine x_off hb301 hA (fun ac hA => ?_) rfl rfl rfl rfl rfl
    refine x_off hb301 hA (fun ac hA => ?_) rfl rfl rfl rfl rfl
    refine x_off hb301 hA (fun ac hA => ?_) rfl rfl rfl rfl rfl
    refine x_offU hA (fun ac hA => ?_) rfl rfl rfl rfl rfl
    refine x_offU hA (fun ac hA => ?_) rfl rfl rfl rfl rfl
    refine x_offU hA (fun ac hA => ?_) rfl rfl rfl rfl rfl
    refine x_offU hA (fun ac hA => ?_) rfl rfl rfl rfl rfl
    refine x_offU hA (fun ac hA => ?_) rfl rfl rfl rfl rfl
    refine x_offU hA (fun ac hA => ?_) rfl rfl rfl rfl rfl
    refine x_offU hA (fun ac hA => ?_) rfl rfl rfl rfl rfl
    refine x_off hb301 hA (fun ac hA => ?_) rfl rfl rfl rfl rfl
    refine x_off hb301 hA (fun ac hA => ?_) rfl rfl rfl rfl rfl
    refine x_pickf hb301 hA (fun ac hA => ?_) rfl rfl rfl rfl rfl rfl
    refine x_assign hA (fun ac hA => ?_) rfl rfl rfl rfl rfl
    refine wpList_nil ?_
    refine hK300 _ _ ?_
    refine wp_ret ?_
    replace hS := hS.drop 0
    replace hS := hS.drop 0
    replace hS := hS.drop 0
    replace hS := hS.drop 0
    replace hS := hS.drop 0
    replace hS := hS.drop 0
    cases hF
    refine hQ _ _ ?_
    refine lv Try.results3 hA rfl ?_
    exact ⟨Z, wz, rfl, (Sub.refl _ _), hS⟩
  refine wp_reg ?_
  obtain ⟨y303, h304, hF⟩ := bnd hF
  refine x_call en10 hA (F_law03_awake (L := blk g103 4 [.bool a2] :: blk g102 22 [.slice A1 n1 c1] :: zone Z wz :: L) h304 hS) (fun v ac w hR hA => ?_) rfl rfl rfl rfl rfl
  obtain ⟨rfl, hS⟩ := hR
  refine x_val hA (r_not rfl (hA.ev rfl)) (fun ac hA => ?_) rfl rfl rfl
  refine x_move hA (fun ac hA => ?_) rfl rfl rfl rfl rfl
  refine bcase (b := !y303) (fun hb305 => ?_) fun hb305 => ?_
  · replace hF := ift hb305 hF
    refine x_off hb305 hA (fun ac hA => ?_) rfl rfl rfl rfl rfl
    refine x_off hb305 hA (fun ac hA => ?_) rfl rfl rfl rfl rfl
    refine x_off hb305 hA (fun ac hA => ?_) rfl rfl rfl rfl rfl
    refine x_pickt hb305 hA (fun ac hA => ?_) rfl rfl rfl rfl rfl rfl
    refine x_move hA (fun ac hA => ?_) rfl rfl rfl rfl rfl
    refine x_off rfl hA (fun ac hA => ?_) rfl rfl rfl rfl rfl
    refine x_off rfl hA (fun ac hA => ?_) rfl rfl rfl rfl rfl
    refine x_off rfl hA (fun ac hA => ?_) rfl rfl rfl rfl rfl
    refine x_pickt rfl hA (fun ac hA => ?_) rfl rfl rfl rfl rfl rfl
    refine wpList_nil ?_
    replace hS := hS.pk 2
    replace hS := hS.pk 1
    replace hS := hS.pk 2
    exact hj1 true hF ac w (hA.sub _ rfl) hS
  replace hF := iff' hb305 hF
  refine x_on hb305 hA ?_ rfl rfl rfl
  refine x_move hA (fun ac hA => ?_) rfl rfl rfl rfl rfl
  refine x_on hb305 hA ?_ rfl rfl rfl
  refine x_len Try.underlying22 (hS.imm 2 ha0 rfl).2.1 hA (fun ac hA => ?_) rfl rfl rfl rfl rfl
  refine x_on hb305 hA ?_ rfl rfl rfl
  refine x_val hA (r_gtI rfl (hA.ev rfl) (hA.ev rfl)) (fun ac hA => ?_) rfl rfl rfl
  refine x_pickf hb305 hA (fun ac hA => ?_) rfl rfl rfl rfl rfl rfl
  refine x_move hA (fun ac hA => ?_) rfl rfl rfl rfl rfl
  refine bcase (b := decide (500 < (a0.length : Int))) (fun hb306 => ?_) fun hb306 => ?_
  · replace hF := ift hb306 hF
    refine x_off hb306 hA (fun ac hA => ?_) rfl rfl rfl rfl rfl
    refine x_off hb306 hA (fun ac hA => ?_) rfl rfl rfl rfl rfl
    refine x_off hb306 hA (fun ac hA => ?_) rfl rfl rfl rfl rfl
    refine x_pickt hb306 hA (fun ac hA => ?_) rfl rfl rfl rfl rfl rfl
    refine wpList_nil ?_
    replace hS := hS.pk 2
    replace hS := hS.pk 1
    replace hS := hS.pk 2
    exact hj1 true hF ac w (hA.sub _ rfl) hS
  replace hF := iff' hb306 hF
  refine x_on hb306 hA ?_ rfl rfl rfl
  refine x_ld Try.underlying22 (hS.cell 1 rfl 0 _ rfl) hA (fun ac hA => ?_) rfl rfl rfl rfl rfl rfl
  refine x_on hb306 hA ?_ rfl rfl rfl
  refine x_len Try.underlying22 (hS.imm 2 ha1 rfl).2.1 hA (fun ac hA => ?_) rfl rfl rfl rfl rfl
  refine x_on hb306 hA ?_ rfl rfl rfl
  refine x_val hA (r_gtI rfl (hA.ev rfl) (hA.ev rfl)) (fun ac hA => ?_) rfl rfl rfl
  refine x_pickf hb306 hA (fun ac hA => ?_) rfl rfl rfl rfl rfl rfl
  refine wpList_nil ?_
  replace hS := hS.pk 2
  replace hS := hS.pk 1
  replace hS := hS.pk 2
  exact hj1 (decide (30 < (a1.length : Int))) hF ac w (hA.sub _ rfl) hS
end Go.Proofs.Ythokgnonmcgkcaa.M
