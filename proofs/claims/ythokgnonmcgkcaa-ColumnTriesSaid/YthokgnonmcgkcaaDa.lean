/- Plain functions: what the Go functions of this part come to. -/
import Derived.Test.YthokgnonmcgkcaaDs
namespace Go.Proofs.Ythokgnonmcgkcaa.M
open Go Go.RowKit Go.Proofs.Ythokgnonmcgkcaa.E
set_option linter.unusedVariables false
set_option linter.unusedSimpArgs false

/-! headrace/headraceref03.Uint -/
noncomputable def r03_Uint_s (rec_ : Int → Option ((List Int))) (a0 : Int) : Option ((List Int)) :=
  if (decide (a0 < 128)) = true then (ltt (IntKind.u8.wrap a0) fun x106 => (some [x106])) else (ltt (IntKind.u64.wrap ((a0.tmod 128) + 128)) fun x110 => (ltt (IntKind.u8.wrap x110) fun x112 => (ltt (IntKind.u64.wrap (a0.tdiv 128)) fun x116 => ((rec_ x116).bind fun y118 => (chk ([x112].length + y118.length ≤ 140737488355328 / 1) (some ([x112] ++ y118)))))))
noncomputable def r03_Uint_k : Nat → Int → Option ((List Int))
  | 0 => fun _ => none
  | k + 1 => r03_Uint_s (r03_Uint_k k)
noncomputable def r03_Uint : Int → Option ((List Int)) := r03_Uint_k 12

/-! headrace/headraceref03.Int -/
noncomputable def r03_Int (a0 : Int) : Option ((List Int)) :=
  if (decide (a0 < 0)) = true then (ltt (IntKind.i64.wrap (a0 + 1)) fun x106 => (ltt (IntKind.u64.wrap (IntKind.i64.wrap (0 - x106))) fun x108 => (ltt (IntKind.u64.wrap (x108 * 2)) fun x110 => (ltt (IntKind.u64.wrap (x110 + 1)) fun x112 => ((r03_Uint x112).bind fun y114 => (some y114)))))) else (ltt (IntKind.u64.wrap a0) fun x120 => (ltt (IntKind.u64.wrap (x120 * 2)) fun x122 => ((r03_Uint x122).bind fun y124 => (some y124))))

/-! headrace/headraceref03.Text -/
noncomputable def r03_Text (a0 : (List UInt8)) : Option ((List Int)) :=
  ltt (IntKind.u64.wrap (a0.length : Int)) fun x103 => ((r03_Uint x103).bind fun y105 => (chk (a0.length ≤ maxLen) (chk (y105.length + (stb a0).length ≤ 140737488355328 / 1) (some (y105 ++ (stb a0))))))

/-! headrace/headraceref03.width -/
noncomputable def r03_width_b1 (x213 : Int) : Option (Int) :=
  some x213
noncomputable def r03_width_x1_0 (x239 : Int) : Option (Int) :=
  r03_width_b1 x239
noncomputable def r03_width_l1 (x226 : Int) (x227 : Int) : Option ((Int × Int) ⊕ ((Int))) :=
  if (decide (0 < x226)) = true then (ltt (IntKind.i64.wrap (x227 + 1)) fun x246 => (ltt (IntKind.u64.wrap (x226.tdiv 2)) fun x248 => (some (.inl (x248, x246))))) else (some (.inr (x227)))
noncomputable def r03_width (a0 : Int) : Option (Int) :=
  (loop (fun s => r03_width_l1 s.1 s.2) (a0, 0)).bind fun t => r03_width_x1_0 t

/-! headrace/headraceref03.As -/
noncomputable def r03_As_b1 (l147441 : (List Int)) : Option ((List Int)) :=
  some l147441
noncomputable def r03_As_b2 (l147527 : (List Int)) : Option ((List Int)) :=
  r03_As_b1 l147527
noncomputable def r03_As_x1_1 (l147584 : (List Int)) : Option ((List Int)) :=
  r03_As_b2 l147584
noncomputable def r03_As_l1 (a1 : (List Int)) (l147555 : (List Int)) (x147559 : Int) : Option (((List Int) × Int) ⊕ (((List Int)))) :=
  if (decide (x147559 < (a1.length : Int))) = true then ((at_ a1 x147559).bind fun x147594 => ((r03_Int x147594).bind fun y147597 => (chk (l147555.length + y147597.length ≤ 140737488355328 / 1) (ltt (IntKind.i64.wrap (x147559 + 1)) fun x147606 => (some (.inl (l147555 ++ y147597, x147606))))))) else (some (.inr (l147555)))
noncomputable def r03_As_b3 (l147749 : (List Int)) : Option ((List Int)) :=
  r03_As_b1 l147749
noncomputable def r03_As_x2_3 (l147846 : (List Int)) : Option ((List Int)) :=
  r03_As_b3 l147846
noncomputable def r03_As_j1 (a1 : (List Int)) (l147797 : (List Int)) (x147801 : Int) (x147865 : Int) : Option (((List Int) × Int) ⊕ (((List Int)))) :=
  (at_ a1 x147801).bind fun x147866 => (ltt (IntKind.i64.wrap (x147866 - x147865)) fun x147869 => ((r03_Int x147869).bind fun y147871 => (chk (l147797.length + y147871.length ≤ 140737488355328 / 1) (ltt (IntKind.i64.wrap (x147801 + 1)) fun x147880 => (some (.inl (l147797 ++ y147871, x147880)))))))
noncomputable def r03_As_l2 (a1 : (List Int)) (l147797 : (List Int)) (x147801 : Int) : Option (((List Int) × Int) ⊕ (((List Int)))) :=
  if (decide (x147801 < (a1.length : Int))) = true then (if (decide (0 < x147801)) = true then (ltt (IntKind.i64.wrap (x147801 - 1)) fun x147884 => ((at_ a1 x147884).bind fun x147886 => (r03_As_j1 a1 l147797 x147801 x147886))) else (r03_As_j1 a1 l147797 x147801 0)) else (some (.inr (l147797)))
noncomputable def r03_As_b4 (l148565 : (List Int)) : Option ((List Int)) :=
  r03_As_b1 l148565
noncomputable def r03_As_x3_5 (l149019 : (List Int)) : Option ((List Int)) :=
  r03_As_b4 l149019
noncomputable def r03_As_b5 (x148796 : Int) (l149183 : (List Int)) (x149187 : Int) : Option (((List Int) × Int × Int) ⊕ (((List Int)))) :=
  ltt (IntKind.i64.wrap (x148796 + 1)) fun x149188 => (some (.inl (l149183, x149187, x149188)))
noncomputable def r03_As_j2 (a1 : (List Int)) (l148791 : (List Int)) (x148795 : Int) (x148796 : Int) (b149201 : Bool) : Option (((List Int) × Int × Int) ⊕ (((List Int)))) :=
  if b149201 = true then (ltt (IntKind.u64.wrap (x148795 + 1)) fun x149204 => (r03_As_b5 x148796 l148791 x149204)) else ((at_ a1 x148796).bind fun x149207 => ((r03_Int x149207).bind fun y149210 => (chk (l148791.length + y149210.length ≤ 140737488355328 / 1) ((r03_Uint x148795).bind fun y149220 => (chk ((l148791 ++ y149210).length + y149220.length ≤ 140737488355328 / 1) (r03_As_b5 x148796 ((l148791 ++ y149210) ++ y149220) 0))))))
noncomputable def r03_As_l3 (a1 : (List Int)) (l148791 : (List Int)) (x148795 : Int) (x148796 : Int) : Option (((List Int) × Int × Int) ⊕ (((List Int)))) :=
  if (decide (x148796 < (a1.length : Int))) = true then (ltt (IntKind.i64.wrap (x148796 + 1)) fun x149229 => (if (decide (x149229 < (a1.length : Int))) = true then ((at_ a1 x149229).bind fun x149232 => ((at_ a1 x148796).bind fun x149235 => (r03_As_j2 a1 l148791 x148795 x148796 (x149232 == x149235)))) else (r03_As_j2 a1 l148791 x148795 x148796 false))) else (some (.inr (l148791)))
noncomputable def r03_As_b8 (l184721 : (List Int)) (x184725 : Int) (x184726 : Int) : Option ((List Int)) :=
  if (decide (0 < x184726)) = true then (chk (l184721.length + [x184725].length ≤ 140737488355328 / 1) (r03_As_b1 (l184721 ++ [x184725]))) else (r03_As_b1 l184721)
noncomputable def r03_As_x4_11 (l192395 : (List Int)) (x192399 : Int) (x192400 : Int) : Option ((List Int)) :=
  r03_As_b8 l192395 x192399 x192400
noncomputable def r03_As_b9 (x188551 : Int) (l195755 : (List Int)) (x195759 : Int) (x195760 : Int) : Option (((List Int) × Int × Int × Int) ⊕ (((List Int) × Int × Int))) :=
  ltt (IntKind.i64.wrap (x188551 + 1)) fun x195761 => (some (.inl (l195755, x195759, x195760, x195761)))
noncomputable def r03_As_x5_13 (x188551 : Int) (l196080 : (List Int)) (x196084 : Int) (x196085 : Int) : Option (((List Int) × Int × Int × Int) ⊕ (((List Int) × Int × Int))) :=
  r03_As_b9 x188551 l196080 x196084 x196085
noncomputable def r03_As_b10 (x195922 : Int) (l196196 : (List Int)) (x196200 : Int) (x196201 : Int) : Option (((List Int) × Int × Int × Int) ⊕ (((List Int) × Int × Int))) :=
  ltt (IntKind.i64.wrap (x195922 + 1)) fun x196202 => (some (.inl (l196196, x196200, x196201, x196202)))
noncomputable def r03_As_l5 (a1 : (List Int)) (x149603 : Int) (x150176 : Int) (x188551 : Int) (l195916 : (List Int)) (x195920 : Int) (x195921 : Int) (x195922 : Int) : Option (((List Int) × Int × Int × Int) ⊕ (((List Int) × Int × Int))) :=
  if (decide (x195922 < x150176)) = true then ((at_ a1 x188551).bind fun x196205 => (ltt (IntKind.i64.wrap (x196205 - x149603)) fun x196208 => (ltt (IntKind.u64.wrap x196208) fun x196210 => (chk (0 ≤ x195922) (ltt (ishr .u64 x196210 x195922) fun x196213 => (ltt (x196213.tmod 2) fun x196215 => (ltt (IntKind.u8.wrap x196215) fun x196217 => (chk (0 ≤ x195921) (ltt (ishl .u8 x196217 x195921) fun x196220 => (ltt (IntKind.u8.wrap (x195920 + x196220)) fun x196222 => (ltt (IntKind.i64.wrap (x195921 + 1)) fun x196225 => (if (x196225 == 8) = true then (chk (l195916.length + [x196222].length ≤ 140737488355328 / 1) (r03_As_b10 x195922 (l195916 ++ [x196222]) 0 0)) else (r03_As_b10 x195922 l195916 x196222 x196225))))))))))))) else (some (.inr (l195916, x195920, x195921)))
noncomputable def r03_As_l4 (a1 : (List Int)) (x149603 : Int) (x150176 : Int) (l188545 : (List Int)) (x188549 : Int) (x188550 : Int) (x188551 : Int) : Option (((List Int) × Int × Int × Int) ⊕ (((List Int) × Int × Int))) :=
  if (decide (x188551 < (a1.length : Int))) = true then ((loop (fun s => r03_As_l5 a1 x149603 x150176 x188551 s.1 s.2.1 s.2.2.1 s.2.2.2) (l188545, x188549, x188550, 0)).bind fun t => r03_As_x5_13 x188551 t.1 t.2.1 t.2.2) else (some (.inr (l188545, x188549, x188550)))
noncomputable def r03_As_b7 (a0 : Int) (a1 : (List Int)) (y107 : ((List Int))) (x149603 : Int) (x150176 : Int) : Option ((List Int)) :=
  (r03_Int x149603).bind fun y150178 => (chk (([a0] ++ y107).length + y150178.length ≤ 140737488355328 / 1) (ltt (IntKind.u8.wrap x150176) fun x150188 => (chk ((([a0] ++ y107) ++ y150178).length + [x150188].length ≤ 140737488355328 / 1) ((loop (fun s => r03_As_l4 a1 x149603 x150176 s.1 s.2.1 s.2.2.1 s.2.2.2) ((([a0] ++ y107) ++ y150178) ++ [x150188], 0, 0, 0)).bind fun t => r03_As_x4_11 t.1 t.2.1 t.2.2))))
noncomputable def r03_As_x6_9 (a0 : Int) (a1 : (List Int)) (y107 : ((List Int))) (x149603 : Int) (x196362 : Int) : Option ((List Int)) :=
  r03_As_b7 a0 a1 y107 x149603 x196362
noncomputable def r03_As_b11 (x196299 : Int) (x196408 : Int) : Option ((Int × Int) ⊕ ((Int))) :=
  ltt (IntKind.i64.wrap (x196299 + 1)) fun x196409 => (some (.inl (x196408, x196409)))
noncomputable def r03_As_l6 (a1 : (List Int)) (x149603 : Int) (x196298 : Int) (x196299 : Int) : Option ((Int × Int) ⊕ ((Int))) :=
  if (decide (x196299 < (a1.length : Int))) = true then ((at_ a1 x196299).bind fun x196412 => (ltt (IntKind.i64.wrap (x196412 - x149603)) fun x196415 => (ltt (IntKind.u64.wrap x196415) fun x196417 => ((r03_width x196417).bind fun y196419 => (if (decide (x196298 < y196419)) = true then (r03_As_b11 x196299 y196419) else (r03_As_b11 x196299 x196298)))))) else (some (.inr (x196298)))
noncomputable def r03_As_b6 (a0 : Int) (a1 : (List Int)) (y107 : ((List Int))) (x149603 : Int) : Option ((List Int)) :=
  (loop (fun s => r03_As_l6 a1 x149603 s.1 s.2) (0, 0)).bind fun t => r03_As_x6_9 a0 a1 y107 x149603 t
noncomputable def r03_As_x7_7 (a0 : Int) (a1 : (List Int)) (y107 : ((List Int))) (x196501 : Int) : Option ((List Int)) :=
  r03_As_b6 a0 a1 y107 x196501
noncomputable def r03_As_b12 (x196462 : Int) (x196529 : Int) : Option ((Int × Int) ⊕ ((Int))) :=
  ltt (IntKind.i64.wrap (x196462 + 1)) fun x196530 => (some (.inl (x196529, x196530)))
noncomputable def r03_As_l7 (a1 : (List Int)) (x196461 : Int) (x196462 : Int) : Option ((Int × Int) ⊕ ((Int))) :=
  if (decide (x196462 < (a1.length : Int))) = true then ((at_ a1 x196462).bind fun x196533 => (if (decide (x196533 < x196461)) = true then (r03_As_b12 x196462 x196533) else (r03_As_b12 x196462 x196461))) else (some (.inr (x196461)))
noncomputable def r03_As (a0 : Int) (a1 : (List Int)) : Option ((List Int)) :=
  ltt (IntKind.u64.wrap (a1.length : Int)) fun x105 => ((r03_Uint x105).bind fun y107 => (chk ([a0].length + y107.length ≤ 140737488355328 / 1) (if (a0 == 0) = true then ((loop (fun s => r03_As_l1 a1 s.1 s.2) ([a0] ++ y107, 0)).bind fun t => r03_As_x1_1 t) else (if (a0 == 1) = true then ((loop (fun s => r03_As_l2 a1 s.1 s.2) ([a0] ++ y107, 0)).bind fun t => r03_As_x2_3 t) else (if (a0 == 2) = true then ((loop (fun s => r03_As_l3 a1 s.1 s.2.1 s.2.2) ([a0] ++ y107, 0, 0)).bind fun t => r03_As_x3_5 t) else (if (a0 == 3) = true then (if ((a1.length : Int) == 0) = true then (some ([a0] ++ y107)) else ((at_ a1 0).bind fun x149245 => ((loop (fun s => r03_As_l7 a1 s.1 s.2) (x149245, 0)).bind fun t => r03_As_x7_7 a0 a1 y107 t))) else (r03_As_b1 ([a0] ++ y107))))))))

/-! headrace/headraceref03.Ints -/
noncomputable def r03_Ints_b1 (l628 : (List Int)) : Option ((List Int)) :=
  some l628
noncomputable def r03_Ints_x1_0 (l748 : (List Int)) : Option ((List Int)) :=
  r03_Ints_b1 l748
noncomputable def r03_Ints_b2 (x692 : Int) (l788 : (List Int)) : Option (((List Int) × Int) ⊕ (((List Int)))) :=
  ltt (IntKind.u8.wrap (x692 + 1)) fun x792 => (some (.inl (l788, x792)))
noncomputable def r03_Ints_l1 (a0 : (List Int)) (l688 : (List Int)) (x692 : Int) : Option (((List Int) × Int) ⊕ (((List Int)))) :=
  if (decide (x692 < 4)) = true then ((r03_As x692 a0).bind fun y795 => (if (decide ((y795.length : Int) < (l688.length : Int))) = true then (r03_Ints_b2 x692 y795) else (r03_Ints_b2 x692 l688))) else (some (.inr (l688)))
noncomputable def r03_Ints (a0 : (List Int)) : Option ((List Int)) :=
  (r03_As 0 a0).bind fun y103 => ((loop (fun s => r03_Ints_l1 a0 s.1 s.2) (y103, 1)).bind fun t => r03_Ints_x1_0 t)
end Go.Proofs.Ythokgnonmcgkcaa.M
