/- Plain functions: what the Go functions of this part come to. -/
import Derived.Test.YthokgnonmcgkcaaDb
namespace Go.Proofs.Ythokgnonmcgkcaa.M
open Go Go.RowKit Go.Proofs.Ythokgnonmcgkcaa.E
set_option linter.unusedVariables false
set_option linter.unusedSimpArgs false

/-! (*headrace/headraceref03.Reader).Byte -/
noncomputable def r03_Reader_Byte_j1 (a0 : S26) (b109 : Bool) : Option (Int × S26) :=
  if b109 = true then (some (0, (⟨a0.f0, -1⟩ : S26))) else (ltt (IntKind.i64.wrap (a0.f1 + 1)) fun x114 => (ltt (IntKind.i64.wrap (x114 - 1)) fun x117 => ((at_ a0.f0 x117).bind fun x119 => (some (x119, (⟨a0.f0, x114⟩ : S26))))))
noncomputable def r03_Reader_Byte (a0 : S26) : Option (Int × S26) :=
  if (decide (a0.f1 < 0)) = true then (r03_Reader_Byte_j1 a0 true) else (r03_Reader_Byte_j1 a0 (decide ((a0.f0.length : Int) ≤ a0.f1)))

/-! (*headrace/headraceref03.Reader).Uint -/
noncomputable def r03_Reader_Uint_b1 (l635 : (List Int)) (x640 : Int) : Option (Int × S26) :=
  some (0, (⟨l635, -1⟩ : S26))
noncomputable def r03_Reader_Uint_x1_0 (l761 : (List Int)) (x766 : Int) : Option (Int × S26) :=
  r03_Reader_Uint_b1 l761 x766
noncomputable def r03_Reader_Uint_j2 (y774 : (Int × S26)) (x796 : Int) (b804 : Bool) : Option (((List Int) × Int × Int × Int) ⊕ (((List Int) × Int) ⊕ (Int × S26))) :=
  if b804 = true then (some (.inr (.inl (y774.2.f0, y774.2.f1)))) else (some (.inr (.inr (x796, y774.2))))
noncomputable def r03_Reader_Uint_j1 (a1 : Int) (x704 : Int) (x705 : Int) (y774 : (Int × S26)) (b784 : Bool) : Option (((List Int) × Int × Int × Int) ⊕ (((List Int) × Int) ⊕ (Int × S26))) :=
  if b784 = true then (some (.inr (.inl (y774.2.f0, y774.2.f1)))) else (ltt (y774.1.tmod 128) fun x787 => (ltt (IntKind.u64.wrap x787) fun x789 => (ltt (IntKind.i64.wrap (7 * x705)) fun x791 => (chk (0 ≤ x791) (ltt (ishl .u64 x789 x791) fun x794 => (ltt (IntKind.u64.wrap (x704 + x794)) fun x796 => (if (decide (y774.1 < 128)) = true then (if (decide (0 < x705)) = true then (if (y774.1 == 0) = true then (r03_Reader_Uint_j2 y774 x796 true) else (r03_Reader_Uint_j2 y774 x796 (decide (a1 < x796)))) else (r03_Reader_Uint_j2 y774 x796 (decide (a1 < x796)))) else (ltt (IntKind.i64.wrap (x705 + 1)) fun x809 => (some (.inl (y774.2.f0, y774.2.f1, x796, x809)))))))))))
noncomputable def r03_Reader_Uint_l1 (a1 : Int) (l698 : (List Int)) (x703 : Int) (x704 : Int) (x705 : Int) : Option (((List Int) × Int × Int × Int) ⊕ (((List Int) × Int) ⊕ (Int × S26))) :=
  if (decide (x705 < 10)) = true then ((r03_Reader_Byte (⟨l698, x703⟩ : S26)).bind fun y774 => (if (decide (y774.2.f1 < 0)) = true then (r03_Reader_Uint_j1 a1 x704 x705 y774 true) else (if (x705 == 9) = true then (r03_Reader_Uint_j1 a1 x704 x705 y774 (decide (1 < y774.1))) else (r03_Reader_Uint_j1 a1 x704 x705 y774 false)))) else (some (.inr (.inl (l698, x703))))
noncomputable def r03_Reader_Uint (a0 : S26) (a1 : Int) : Option (Int × S26) :=
  (loop (fun s => r03_Reader_Uint_l1 a1 s.1 s.2.1 s.2.2.1 s.2.2.2) (a0.f0, a0.f1, 0, 0)).bind fun t => match t with | (.inl t) => r03_Reader_Uint_x1_0 t.1 t.2 | (.inr t) => some t

/-! (*headrace/headraceref03.Reader).Int -/
noncomputable def r03_Reader_Int (a0 : S26) : Option (Int × S26) :=
  (r03_Reader_Uint a0 18446744073709551615).bind fun y107 => (ltt (y107.1.tmod 2) fun x115 => (if (x115 == 1) = true then (ltt (IntKind.u64.wrap (y107.1.tdiv 2)) fun x119 => (ltt (IntKind.i64.wrap x119) fun x121 => (ltt (IntKind.i64.wrap ((IntKind.i64.wrap (0 - x121)) - 1)) fun x123 => (some (x123, y107.2))))) else (ltt (IntKind.u64.wrap (y107.1.tdiv 2)) fun x126 => (ltt (IntKind.i64.wrap x126) fun x128 => (some (x128, y107.2))))))

/-! (*headrace/headraceref03.Reader).Text -/
noncomputable def r03_Reader_Text_j1 (y109 : (Int × S26)) (b122 : Bool) : Option ((List UInt8) × S26) :=
  if b122 = true then (some ([], (⟨y109.2.f0, -1⟩ : S26))) else (ltt (IntKind.i64.wrap y109.1) fun x127 => (ltt (IntKind.i64.wrap (y109.2.f1 + x127)) fun x129 => ((cut_ y109.2.f0 y109.2.f1 x129).bind fun l131 => (some (bts l131, (⟨y109.2.f0, x129⟩ : S26))))))
noncomputable def r03_Reader_Text (a0 : S26) (a1 : Int) : Option ((List UInt8) × S26) :=
  ltt (IntKind.u64.wrap a1) fun x107 => ((r03_Reader_Uint a0 x107).bind fun y109 => (if (decide (y109.2.f1 < 0)) = true then (r03_Reader_Text_j1 y109 true) else (ltt (IntKind.i64.wrap ((y109.2.f0.length : Int) - y109.2.f1)) fun x137 => (ltt (IntKind.u64.wrap x137) fun x139 => (r03_Reader_Text_j1 y109 (decide (x139 < y109.1)))))))

/-! (*headrace/headraceref03.Reader).Ints -/
noncomputable def r03_Reader_Ints_b1 (l24374 : (List Int)) (x24379 : Int) (l24380 : (List Int)) : Option ((List Int) × S26) :=
  some (l24380, (⟨l24374, x24379⟩ : S26))
noncomputable def r03_Reader_Ints_b2 (l24507 : (List Int)) (x24512 : Int) (l24513 : (List Int)) : Option ((List Int) × S26) :=
  r03_Reader_Ints_b1 l24507 x24512 l24513
noncomputable def r03_Reader_Ints_x1_7 (l24602 : (List Int)) (x24607 : Int) (l24608 : (List Int)) : Option ((List Int) × S26) :=
  r03_Reader_Ints_b2 l24602 x24607 l24608
noncomputable def r03_Reader_Ints_j2 (l24558 : (List Int)) (x24563 : Int) (l24564 : (List Int)) (x24568 : Int) (b24616 : Bool) : Option (((List Int) × Int × (List Int) × Int) ⊕ (((List Int) × Int × (List Int)))) :=
  if b24616 = true then ((r03_Reader_Int (⟨l24558, x24563⟩ : S26)).bind fun y24620 => (chk (l24564.length + [y24620.1].length ≤ 140737488355328 / 8) (ltt (IntKind.i64.wrap (x24568 + 1)) fun x24631 => (some (.inl (y24620.2.f0, y24620.2.f1, l24564 ++ [y24620.1], x24631)))))) else (some (.inr (l24558, x24563, l24564)))
noncomputable def r03_Reader_Ints_l1 (x120 : Int) (l24558 : (List Int)) (x24563 : Int) (l24564 : (List Int)) (x24568 : Int) : Option (((List Int) × Int × (List Int) × Int) ⊕ (((List Int) × Int × (List Int)))) :=
  if (decide (x24568 < x120)) = true then (r03_Reader_Ints_j2 l24558 x24563 l24564 x24568 (decide (0 ≤ x24563))) else (r03_Reader_Ints_j2 l24558 x24563 l24564 x24568 false)
noncomputable def r03_Reader_Ints_b3 (l24769 : (List Int)) (x24774 : Int) (l24775 : (List Int)) : Option ((List Int) × S26) :=
  r03_Reader_Ints_b1 l24769 x24774 l24775
noncomputable def r03_Reader_Ints_x2_9 (l24873 : (List Int)) (x24878 : Int) (l24879 : (List Int)) : Option ((List Int) × S26) :=
  r03_Reader_Ints_b3 l24873 x24878 l24879
noncomputable def r03_Reader_Ints_j3 (l24824 : (List Int)) (x24829 : Int) (l24830 : (List Int)) (x24834 : Int) (x24835 : Int) (b24887 : Bool) : Option (((List Int) × Int × (List Int) × Int × Int) ⊕ (((List Int) × Int × (List Int)))) :=
  if b24887 = true then ((r03_Reader_Int (⟨l24824, x24829⟩ : S26)).bind fun y24892 => (ltt (IntKind.i64.wrap (x24834 + y24892.1)) fun x24898 => (chk (l24830.length + [x24898].length ≤ 140737488355328 / 8) (ltt (IntKind.i64.wrap (x24835 + 1)) fun x24905 => (some (.inl (y24892.2.f0, y24892.2.f1, l24830 ++ [x24898], x24898, x24905))))))) else (some (.inr (l24824, x24829, l24830)))
noncomputable def r03_Reader_Ints_l2 (x120 : Int) (l24824 : (List Int)) (x24829 : Int) (l24830 : (List Int)) (x24834 : Int) (x24835 : Int) : Option (((List Int) × Int × (List Int) × Int × Int) ⊕ (((List Int) × Int × (List Int)))) :=
  if (decide (x24835 < x120)) = true then (r03_Reader_Ints_j3 l24824 x24829 l24830 x24834 x24835 (decide (0 ≤ x24829))) else (r03_Reader_Ints_j3 l24824 x24829 l24830 x24834 x24835 false)
noncomputable def r03_Reader_Ints_b4 (l25830 : (List Int)) (x25835 : Int) (l25836 : (List Int)) : Option ((List Int) × S26) :=
  r03_Reader_Ints_b1 l25830 x25835 l25836
noncomputable def r03_Reader_Ints_x3_11 (l26458 : (List Int)) (x26463 : Int) (l26464 : (List Int)) : Option ((List Int) × S26) :=
  r03_Reader_Ints_b4 l26458 x26463 l26464
noncomputable def r03_Reader_Ints_b5 (y26630 : (Int × S26)) (l26696 : (List Int)) : Option (((List Int) × Int × (List Int)) ⊕ (((List Int) × Int × (List Int)))) :=
  some (.inl (y26630.2.f0, y26630.2.f1, l26696))
noncomputable def r03_Reader_Ints_x4_13 (y26630 : (Int × S26)) (l26739 : (List Int)) : Option (((List Int) × Int × (List Int)) ⊕ (((List Int) × Int × (List Int)))) :=
  r03_Reader_Ints_b5 y26630 l26739
noncomputable def r03_Reader_Ints_l4 (y26617 : (Int × S26)) (x26636 : Int) (l26717 : (List Int)) (x26721 : Int) : Option (((List Int) × Int) ⊕ (((List Int)))) :=
  if (decide (x26721 ≤ x26636)) = true then (chk (l26717.length + [y26617.1].length ≤ 140737488355328 / 8) (ltt (IntKind.i64.wrap (x26721 + 1)) fun x26754 => (some (.inl (l26717 ++ [y26617.1], x26754))))) else (some (.inr (l26717)))
noncomputable def r03_Reader_Ints_j4 (x120 : Int) (l26148 : (List Int)) (x26153 : Int) (l26154 : (List Int)) (b26472 : Bool) : Option (((List Int) × Int × (List Int)) ⊕ (((List Int) × Int × (List Int)))) :=
  if b26472 = true then ((r03_Reader_Int (⟨l26148, x26153⟩ : S26)).bind fun y26617 => (ltt (IntKind.i64.wrap (x120 - (l26154.length : Int))) fun x26624 => (ltt (IntKind.i64.wrap (x26624 - 1)) fun x26626 => (ltt (IntKind.u64.wrap x26626) fun x26628 => ((r03_Reader_Uint y26617.2 x26628).bind fun y26630 => (ltt (IntKind.i64.wrap y26630.1) fun x26636 => ((loop (fun s => r03_Reader_Ints_l4 y26617 x26636 s.1 s.2) (l26154, 0)).bind fun t => r03_Reader_Ints_x4_13 y26630 t))))))) else (some (.inr (l26148, x26153, l26154)))
noncomputable def r03_Reader_Ints_l3 (x120 : Int) (l26148 : (List Int)) (x26153 : Int) (l26154 : (List Int)) : Option (((List Int) × Int × (List Int)) ⊕ (((List Int) × Int × (List Int)))) :=
  if (decide ((l26154.length : Int) < x120)) = true then (r03_Reader_Ints_j4 x120 l26148 x26153 l26154 (decide (0 ≤ x26153))) else (r03_Reader_Ints_j4 x120 l26148 x26153 l26154 false)
noncomputable def r03_Reader_Ints_b7 (y26768 : (Int × S26)) (l30788 : (List Int)) : Option ((List Int) × S26) :=
  r03_Reader_Ints_b1 y26768.2.f0 (y26768.2.f0.length : Int) l30788
noncomputable def r03_Reader_Ints_x5_5 (y26768 : (Int × S26)) (l30788 : (List Int)) : Option ((List Int) × S26) :=
  r03_Reader_Ints_b7 y26768 l30788
noncomputable def r03_Reader_Ints_l5 (y26768 : (Int × S26)) (x31060 : Int) : Option ((Int) ⊕ ((Unit) ⊕ ((List Int) × S26))) :=
  ltt (x31060.tmod 8) fun x31090 => (if (x31090 != 0) = true then (ltt (IntKind.i64.wrap (x31060.tdiv 8)) fun x31096 => (ltt (IntKind.i64.wrap (y26768.2.f1 + x31096)) fun x31098 => ((at_ y26768.2.f0 x31098).bind fun x31100 => (chk (0 ≤ x31090) (ltt (ishr .u8 x31100 x31090) fun x31104 => (ltt (x31104.tmod 2) fun x31106 => (if (x31106 == 1) = true then (some (.inr (.inr ([], (⟨y26768.2.f0, -1⟩ : S26))))) else (ltt (IntKind.i64.wrap (x31060 + 1)) fun x31111 => (some (.inl (x31111))))))))))) else (some (.inr (.inl ()))))
noncomputable def r03_Reader_Ints_b6 (y26768 : (Int × S26)) (l30788 : (List Int)) (x30792 : Int) : Option ((List Int) × S26) :=
  (loop (fun s => r03_Reader_Ints_l5 y26768 s) (x30792)).bind fun t => match t with | (.inl t) => r03_Reader_Ints_x5_5 y26768 l30788 | (.inr t) => some t
noncomputable def r03_Reader_Ints_x6_1 (y26768 : (Int × S26)) (l31991 : (List Int)) (x31995 : Int) : Option ((List Int) × S26) :=
  r03_Reader_Ints_b6 y26768 l31991 x31995
noncomputable def r03_Reader_Ints_b8 (y26761 : (Int × S26)) (l31535 : (List Int)) (x31540 : Int) (x32323 : Int) (x32324 : Int) : Option (((List Int) × Int × Int) ⊕ (((List Int) × Int))) :=
  ltt (IntKind.i64.wrap x32324) fun x32325 => (ltt (IntKind.i64.wrap (x32325 + y26761.1)) fun x32327 => (chk (l31535.length + [x32327].length ≤ 140737488355328 / 8) (ltt (IntKind.i64.wrap (x31540 + 1)) fun x32334 => (some (.inl (l31535 ++ [x32327], x32323, x32334))))))
noncomputable def r03_Reader_Ints_x7_3 (y26761 : (Int × S26)) (l31535 : (List Int)) (x31540 : Int) (x32406 : Int) (x32407 : Int) : Option (((List Int) × Int × Int) ⊕ (((List Int) × Int))) :=
  r03_Reader_Ints_b8 y26761 l31535 x31540 x32406 x32407
noncomputable def r03_Reader_Ints_l7 (y26768 : (Int × S26)) (x26774 : Int) (x32369 : Int) (x32370 : Int) (x32371 : Int) : Option ((Int × Int × Int) ⊕ ((Int × Int))) :=
  if (decide (x32371 < x26774)) = true then (ltt (IntKind.i64.wrap (x32369.tdiv 8)) fun x32415 => (ltt (IntKind.i64.wrap (y26768.2.f1 + x32415)) fun x32417 => ((at_ y26768.2.f0 x32417).bind fun x32419 => (ltt (x32369.tmod 8) fun x32422 => (chk (0 ≤ x32422) (ltt (ishr .u8 x32419 x32422) fun x32425 => (ltt (x32425.tmod 2) fun x32427 => (ltt (IntKind.u64.wrap x32427) fun x32429 => (chk (0 ≤ x32371) (ltt (ishl .u64 x32429 x32371) fun x32432 => (ltt (IntKind.u64.wrap (x32370 + x32432)) fun x32434 => (ltt (IntKind.i64.wrap (x32369 + 1)) fun x32436 => (ltt (IntKind.i64.wrap (x32371 + 1)) fun x32438 => (some (.inl (x32436, x32434, x32438)))))))))))))))) else (some (.inr (x32369, x32370)))
noncomputable def r03_Reader_Ints_l6 (x120 : Int) (y26761 : (Int × S26)) (y26768 : (Int × S26)) (x26774 : Int) (l31535 : (List Int)) (x31539 : Int) (x31540 : Int) : Option (((List Int) × Int × Int) ⊕ (((List Int) × Int))) :=
  if (decide (x31540 < x120)) = true then ((loop (fun s => r03_Reader_Ints_l7 y26768 x26774 s.1 s.2.1 s.2.2) (x31539, 0, 0)).bind fun t => r03_Reader_Ints_x7_3 y26761 l31535 x31540 t.1 t.2) else (some (.inr (l31535, x31539)))
noncomputable def r03_Reader_Ints_j5 (x120 : Int) (y26761 : (Int × S26)) (y26768 : (Int × S26)) (x26774 : Int) (b26788 : Bool) : Option ((List Int) × S26) :=
  if b26788 = true then (some ([], (⟨y26768.2.f0, -1⟩ : S26))) else ((loop (fun s => r03_Reader_Ints_l6 x120 y26761 y26768 x26774 s.1 s.2.1 s.2.2) ([], 0, 0)).bind fun t => r03_Reader_Ints_x6_1 y26768 t.1 t.2)
noncomputable def r03_Reader_Ints_j1 (y107 : (Int × S26)) (y114 : (Int × S26)) (x120 : Int) (b125 : Bool) : Option ((List Int) × S26) :=
  if b125 = true then (some ([], (⟨y114.2.f0, -1⟩ : S26))) else (if (y107.1 == 0) = true then ((loop (fun s => r03_Reader_Ints_l1 x120 s.1 s.2.1 s.2.2.1 s.2.2.2) (y114.2.f0, y114.2.f1, [], 0)).bind fun t => r03_Reader_Ints_x1_7 t.1 t.2.1 t.2.2) else (if (y107.1 == 1) = true then ((loop (fun s => r03_Reader_Ints_l2 x120 s.1 s.2.1 s.2.2.1 s.2.2.2.1 s.2.2.2.2) (y114.2.f0, y114.2.f1, [], 0, 0)).bind fun t => r03_Reader_Ints_x2_9 t.1 t.2.1 t.2.2) else (if (y107.1 == 2) = true then ((loop (fun s => r03_Reader_Ints_l3 x120 s.1 s.2.1 s.2.2) (y114.2.f0, y114.2.f1, [])).bind fun t => r03_Reader_Ints_x3_11 t.1 t.2.1 t.2.2) else (if (x120 == 0) = true then (r03_Reader_Ints_b1 y114.2.f0 y114.2.f1 []) else ((r03_Reader_Int y114.2).bind fun y26761 => ((r03_Reader_Byte y26761.2).bind fun y26768 => (ltt (IntKind.i64.wrap y26768.1) fun x26774 => (if (decide (y26768.2.f1 < 0)) = true then (r03_Reader_Ints_j5 x120 y26761 y26768 x26774 true) else (if (decide (64 < x26774)) = true then (r03_Reader_Ints_j5 x120 y26761 y26768 x26774 true) else (ltt (IntKind.i64.wrap ((y26768.2.f0.length : Int) - y26768.2.f1)) fun x32442 => (ltt (IntKind.i64.wrap (x120 * x26774)) fun x32444 => (ltt (IntKind.i64.wrap (x32444 + 7)) fun x32446 => (ltt (IntKind.i64.wrap (x32446.tdiv 8)) fun x32448 => (r03_Reader_Ints_j5 x120 y26761 y26768 x26774 (x32442 != x32448)))))))))))))))
noncomputable def r03_Reader_Ints (a0 : S26) : Option ((List Int) × S26) :=
  (r03_Reader_Byte a0).bind fun y107 => ((r03_Reader_Uint y107.2 4096).bind fun y114 => (ltt (IntKind.i64.wrap y114.1) fun x120 => (if (decide (y114.2.f1 < 0)) = true then (r03_Reader_Ints_j1 y107 y114 x120 true) else (r03_Reader_Ints_j1 y107 y114 x120 (decide (3 < y107.1))))))

/-! headrace/headraceref03.ReadInts -/
noncomputable def r03_ReadInts (a0 : (List Int)) : Option ((List Int) × Bool) :=
  (r03_Reader_Ints (⟨a0, 0⟩ : S26)).bind fun y105 => (if (y105.2.f1 != (a0.length : Int)) = true then (some ([], false)) else (some (y105.1, true)))
end Go.Proofs.Ythokgnonmcgkcaa.M
