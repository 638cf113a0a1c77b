/- Plain functions: what the Go functions of this part come to. -/
import Derived.Test.YtgjhiojkkjaloaaDc
namespace Go.Proofs.Ytgjhiojkkjaloaa.M
open Go Go.RowKit Go.Proofs.Ytgjhiojkkjaloaa.E
set_option linter.unusedVariables false
set_option linter.unusedSimpArgs false

/-! headrace/headracelaw05.awake -/
noncomputable def law05_awake_j1 (o124 : (Option S68)) (b125 : Bool) : Option (Bool) :=
  if b125 = true then (some false) else ((files_Store_Read o124 [97]).bind fun y129 => (if (y129.2 == 0) = true then (if ((bts y129.1) == [120, 121, 122]) = true then (some true) else (some false)) else (some false)))
noncomputable def law05_awake : Option (Bool) :=
  (files_New 100).bind fun y103 => (if (y103.2 != 0) = true then (law05_awake_j1 y103.1 true) else (if y103.1.isNone = true then (law05_awake_j1 y103.1 true) else ((files_Store_Append y103.1 [97] [120, 121]).bind fun y140 => (if (y140.1 != 0) = true then (law05_awake_j1 y140.2 true) else ((files_Store_Sync y140.2 [97]).bind fun y143 => (if (y143.1 != 0) = true then (law05_awake_j1 y143.2 true) else ((files_Store_Append y143.2 [97] [122, 119]).bind fun y147 => (if (y147.1 != 0) = true then (law05_awake_j1 y147.2 true) else ((files_Store_Restart y147.2 [1]).bind fun y151 => (law05_awake_j1 y151.2 (y151.1 != 0)))))))))))

/-! headrace/headracelaw05.FilesSure -/
noncomputable def law05_FilesSure_j4 (a0 : (List Int)) (a1 : (List Int)) (s160 : (List UInt8)) (y163 : (Int × (Option S68))) (x173 : Int) : Option (Bool) :=
  (files_Store_Read y163.2 s160).bind fun y175 => (if (y175.2 == 0) = true then ((cut_ a1 0 x173).bind fun l182 => (chk ((bts a0).length + (bts l182).length ≤ maxLen) (if ((bts y175.1) == ((bts a0) ++ (bts l182))) = true then ((files_Store_List y163.2).bind fun y187 => (some ((y187.length : Int) == 1))) else (some false)))) else (some false))
noncomputable def law05_FilesSure_j5 (a0 : (List Int)) (a1 : (List Int)) (a2 : Int) (s160 : (List UInt8)) (y163 : (Int × (Option S68))) (b194 : Bool) : Option (Bool) :=
  if b194 = true then (law05_FilesSure_j4 a0 a1 s160 y163 (a1.length : Int)) else (law05_FilesSure_j4 a0 a1 s160 y163 a2)
noncomputable def law05_FilesSure_j3 (a0 : (List Int)) (a1 : (List Int)) (a2 : Int) (o159 : (Option S68)) (s160 : (List UInt8)) : Option (Bool) :=
  (files_Store_Restart o159 [a2]).bind fun y163 => (if (decide (a2 < 0)) = true then (law05_FilesSure_j5 a0 a1 a2 s160 y163 true) else (law05_FilesSure_j5 a0 a1 a2 s160 y163 (decide ((a1.length : Int) < a2))))
noncomputable def law05_FilesSure_j6 (a0 : (List Int)) (a1 : (List Int)) (a2 : Int) (o209 : (Option S68)) (b210 : Bool) : Option (Bool) :=
  if b210 = true then (some false) else (law05_FilesSure_j3 a0 a1 a2 o209 [98])
noncomputable def law05_FilesSure_j2 (a0 : (List Int)) (a1 : (List Int)) (a2 : Int) (a3 : Bool) (o128 : (Option S68)) (b129 : Bool) : Option (Bool) :=
  if b129 = true then (some false) else (if a3 = true then ((files_Store_Append o128 [98] a1).bind fun y213 => (if (y213.1 != 0) = true then (law05_FilesSure_j6 a0 a1 a2 y213.2 true) else ((files_Store_Sync y213.2 [98]).bind fun y216 => (if (y216.1 != 0) = true then (law05_FilesSure_j6 a0 a1 a2 y216.2 true) else ((files_Store_Rename y216.2 [97] [98]).bind fun y219 => (law05_FilesSure_j6 a0 a1 a2 y219.2 (y219.1 != 0))))))) else (law05_FilesSure_j3 a0 a1 a2 o128 [97]))
noncomputable def law05_FilesSure_j1 (a0 : (List Int)) (a1 : (List Int)) (a2 : Int) (a3 : Bool) (b109 : Bool) : Option (Bool) :=
  if b109 = true then ((law05_awake).bind fun y112 => (some y112)) else ((files_New 5000).bind fun y115 => ((files_Store_Append y115.1 [97] a0).bind fun y221 => (if (y221.1 != 0) = true then (law05_FilesSure_j2 a0 a1 a2 a3 y221.2 true) else ((files_Store_Sync y221.2 [97]).bind fun y224 => (if (y224.1 != 0) = true then (law05_FilesSure_j2 a0 a1 a2 a3 y224.2 true) else ((files_Store_Append y224.2 [97] a1).bind fun y227 => (law05_FilesSure_j2 a0 a1 a2 a3 y227.2 (y227.1 != 0))))))))
noncomputable def law05_FilesSure (a0 : (List Int)) (a1 : (List Int)) (a2 : Int) (a3 : Bool) : Option (Bool) :=
  (law05_awake).bind fun y229 => (if (!y229) = true then (law05_FilesSure_j1 a0 a1 a2 a3 true) else (ltt (IntKind.i64.wrap ((a0.length : Int) + (a1.length : Int))) fun x232 => (law05_FilesSure_j1 a0 a1 a2 a3 (decide (1000 < x232)))))

/-! headrace/headracelaw05.FilesArms -/
noncomputable def law05_FilesArms_b1 (o1026 : (Option S68)) : Option (Bool) :=
  (files_Store_Read o1026 [97]).bind fun y1028 => (if (y1028.2 == 9) = true then ((files_Store_Append o1026 [97] []).bind fun y1035 => (if (y1035.1 == 9) = true then ((files_Store_Sync y1035.2 [97]).bind fun y1038 => (if (y1038.1 == 9) = true then ((files_Store_Delete y1038.2 [97]).bind fun y1041 => (if (y1041.1 == 9) = true then ((files_Store_Rename y1041.2 [97] [98]).bind fun y1044 => (if (y1044.1 == 9) = true then ((files_Store_Restart y1044.2 []).bind fun y1047 => (if (y1047.1 == 0) = true then ((files_Store_On y1047.2).bind fun y1050 => (some y1050)) else (some false))) else (some false))) else (some false))) else (some false))) else (some false))) else (some false))
noncomputable def law05_FilesArms_x1_0 (o1258 : (Option S68)) : Option (Bool) :=
  law05_FilesArms_b1 o1258
noncomputable def law05_FilesArms_j2 (x1155 : Int) (o1321 : (Option S68)) (b1327 : Bool) : Option (((Option S68) × Int) ⊕ (((Option S68)) ⊕ (Bool))) :=
  if b1327 = true then (some (.inr (.inr false))) else (ltt (IntKind.i64.wrap (x1155 + 1)) fun x1330 => (some (.inl (o1321, x1330))))
noncomputable def law05_FilesArms_b2 (x121 : Int) (x1155 : Int) (o1321 : (Option S68)) (x1322 : Int) : Option (((Option S68) × Int) ⊕ (((Option S68)) ⊕ (Bool))) :=
  if (!((x1322 == 0) == (decide (x1155 < x121)))) = true then (law05_FilesArms_j2 x1155 o1321 true) else ((files_Store_On o1321).bind fun y1333 => (law05_FilesArms_j2 x1155 o1321 (!(y1333 == (decide (x1155 < x121))))))
noncomputable def law05_FilesArms_j1 (x121 : Int) (o1154 : (Option S68)) (x1155 : Int) (x1279 : Int) : Option (((Option S68) × Int) ⊕ (((Option S68)) ⊕ (Bool))) :=
  if (x1279 == 0) = true then ((files_Store_Append o1154 [97] [121]).bind fun y1338 => (law05_FilesArms_b2 x121 x1155 y1338.2 y1338.1)) else (if (x1279 == 1) = true then ((files_Store_Sync o1154 [97]).bind fun y1342 => (law05_FilesArms_b2 x121 x1155 y1342.2 y1342.1)) else ((files_Store_Rename o1154 [97] [97]).bind fun y1344 => (law05_FilesArms_b2 x121 x1155 y1344.2 y1344.1)))
noncomputable def law05_FilesArms_l1 (a1 : (List Int)) (x121 : Int) (o1154 : (Option S68)) (x1155 : Int) : Option (((Option S68) × Int) ⊕ (((Option S68)) ⊕ (Bool))) :=
  if (decide (x1155 ≤ x121)) = true then (if (decide (x1155 ≤ (a1.length : Int))) = true then (ltt (IntKind.i64.wrap (x1155 - 1)) fun x1348 => ((at_ a1 x1348).bind fun x1350 => (ltt (IntKind.i64.wrap x1350) fun x1353 => (ltt (x1353.tmod 3) fun x1355 => (law05_FilesArms_j1 x121 o1154 x1155 x1355))))) else (law05_FilesArms_j1 x121 o1154 x1155 0)) else (some (.inr (.inl (o1154))))
noncomputable def law05_FilesArms (a0 : Int) (a1 : (List Int)) : Option (Bool) :=
  (law05_awake).bind fun y104 => (if (!y104) = true then (some false) else ((files_New 5000).bind fun y109 => ((files_Store_Append y109.1 [97] [120]).bind fun y114 => (ltt (IntKind.i64.wrap a0) fun x117 => (ltt (x117.tmod 10) fun x119 => (ltt (IntKind.i64.wrap (1 + x119)) fun x121 => ((files_Store_Arm y114.2 x121).bind fun y125 => (if (y125.1 != 0) = true then (some false) else ((loop (fun s => law05_FilesArms_l1 a1 x121 s.1 s.2) (y125.2, 1)).bind fun t => match t with | (.inl t) => law05_FilesArms_x1_0 t | (.inr t) => some t)))))))))

/-! headrace/headracelaw05.FilesKeeps -/
noncomputable def law05_FilesKeeps_j1 (a0 : (List Int)) (b108 : Bool) : Option (Bool) :=
  if b108 = true then ((law05_awake).bind fun y111 => (some y111)) else ((files_New 5000).bind fun y114 => (chk (([] : List Int).length + a0.length ≤ 140737488355328 / 1) ((files_Store_Append y114.1 [97] a0).bind fun y124 => (if (y124.1 != 0) = true then (some false) else ((at_ a0 0).bind fun x129 => (ltt (ixor .u8 x129 1) fun x132 => ((files_Store_Read y124.2 [97]).bind fun y135 => (if (!((bts y135.1) == (bts a0))) = true then (some false) else ((at_ y135.1 0).bind fun x145 => (ltt (ixor .u8 x145 2) fun x148 => ((files_Store_Append y124.2 [97] []).bind fun y151 => ((files_Store_List y151.2).bind fun y154 => ((at_ y154 0).bind fun x160 => ((files_Store_Read y151.2 [97]).bind fun y163 => (if (y163.2 == 0) = true then (some ((bts y163.1) == (bts a0))) else (some false))))))))))))))))
noncomputable def law05_FilesKeeps (a0 : (List Int)) : Option (Bool) :=
  (law05_awake).bind fun y170 => (if (!y170) = true then (law05_FilesKeeps_j1 a0 true) else (if ((a0.length : Int) == 0) = true then (law05_FilesKeeps_j1 a0 true) else (law05_FilesKeeps_j1 a0 (decide (1000 < (a0.length : Int))))))

/-! headrace/headracelaw05.FilesNil -/
noncomputable def law05_FilesNil (a0 : (List UInt8)) (a1 : (List Int)) (a2 : Int) : Option (Bool) :=
  (files_Store_Read none a0).bind fun y104 => ((law05_awake).bind fun y110 => (if y110 = true then (if (y104.2 == 5) = true then ((files_Store_Append none a0 a1).bind fun y114 => (if (y114.1 == 5) = true then ((files_Store_Sync none a0).bind fun y117 => (if (y117.1 == 5) = true then ((files_Store_Delete none a0).bind fun y120 => (if (y120.1 == 5) = true then ((files_Store_Rename none a0 a0).bind fun y123 => (if (y123.1 == 5) = true then ((files_Store_Arm none a2).bind fun y126 => (if (y126.1 == 5) = true then ((files_Store_Restart none []).bind fun y129 => (if (y129.1 == 5) = true then ((files_Store_Spoil none a0 a2).bind fun y132 => (if (y132.1 == 5) = true then ((files_Store_On none).bind fun y135 => (if (!y135) = true then ((files_Store_Used none).bind fun y138 => ((files_Store_Ops none).bind fun y140 => (ltt (IntKind.i64.wrap (y138 + y140)) fun x142 => ((files_Store_List none).bind fun y144 => (ltt (IntKind.i64.wrap (x142 + (y144.length : Int))) fun x149 => (some (x149 == 0))))))) else (some false))) else (some false))) else (some false))) else (some false))) else (some false))) else (some false))) else (some false))) else (some false))) else (some false)) else (some false)))
end Go.Proofs.Ytgjhiojkkjaloaa.M
