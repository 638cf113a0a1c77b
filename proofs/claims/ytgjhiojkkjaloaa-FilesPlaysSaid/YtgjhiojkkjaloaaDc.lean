/- Plain functions: what the Go functions of this part come to. -/
import Derived.Test.YtgjhiojkkjaloaaDe
namespace Go.Proofs.Ytgjhiojkkjaloaa.M
open Go Go.RowKit Go.Proofs.Ytgjhiojkkjaloaa.E
set_option linter.unusedVariables false
set_option linter.unusedSimpArgs false

/-! headrace/headraceref05.Form -/
noncomputable def r05_Form_b1 (a0 : (List UInt8)) : Option (Bool) :=
  if (decide (1 ≤ (a0.length : Int))) = true then (some (decide ((a0.length : Int) ≤ 32))) else (some false)
noncomputable def r05_Form_x1_0 (a0 : (List UInt8)) : Option (Bool) :=
  r05_Form_b1 a0
noncomputable def r05_Form_j1 (x373 : Int) (b415 : Bool) : Option ((Int) ⊕ ((Unit) ⊕ (Bool))) :=
  if b415 = true then (some (.inr (.inr false))) else (ltt (IntKind.i64.wrap (x373 + 1)) fun x418 => (some (.inl (x418))))
noncomputable def r05_Form_l1 (a0 : (List UInt8)) (x373 : Int) : Option ((Int) ⊕ ((Unit) ⊕ (Bool))) :=
  if (decide (x373 < (a0.length : Int))) = true then ((at_ a0 x373).bind fun x407 => (if ((x407.toNat : Int) == 46) = true then (r05_Form_j1 x373 false) else (if (decide (48 ≤ (x407.toNat : Int))) = true then (if (decide ((x407.toNat : Int) ≤ 57)) = true then (r05_Form_j1 x373 false) else (if (decide (97 ≤ (x407.toNat : Int))) = true then (r05_Form_j1 x373 (!(decide ((x407.toNat : Int) ≤ 122)))) else (r05_Form_j1 x373 true))) else (if (decide (97 ≤ (x407.toNat : Int))) = true then (r05_Form_j1 x373 (!(decide ((x407.toNat : Int) ≤ 122)))) else (r05_Form_j1 x373 true))))) else (some (.inr (.inl ())))
noncomputable def r05_Form (a0 : (List UInt8)) : Option (Bool) :=
  (loop (fun s => r05_Form_l1 a0 s) (0)).bind fun t => match t with | (.inl t) => r05_Form_x1_0 a0 | (.inr t) => some t

/-! (*headrace/headraceref05.Store).begin -/
noncomputable def r05_Store_begin_j1 (a0 : S53) (x106 : Int) (x114 : Int) (b115 : Bool) : Option (Int × S53) :=
  if b115 = true then (some (9, (⟨a0.f0, a0.f1, x114, b115, x106⟩ : S53))) else (some (0, (⟨a0.f0, a0.f1, x114, b115, x106⟩ : S53)))
noncomputable def r05_Store_begin (a0 : S53) : Option (Int × S53) :=
  ltt (IntKind.i64.wrap (a0.f4 + 1)) fun x106 => (if (decide (0 < a0.f2)) = true then (ltt (IntKind.i64.wrap (a0.f2 - 1)) fun x124 => (r05_Store_begin_j1 a0 x106 x124 (x124 == 0))) else (r05_Store_begin_j1 a0 x106 a0.f2 a0.f3))

/-! (*headrace/headraceref05.Store).at -/
noncomputable def r05_Store_at_b1 : Option (Int) :=
  some (-1)
noncomputable def r05_Store_at_x1_0 : Option (Int) :=
  r05_Store_at_b1
noncomputable def r05_Store_at_l1 (a0 : S53) (a1 : (List UInt8)) (x252 : Int) : Option ((Int) ⊕ ((Unit) ⊕ (Int))) :=
  if (decide (x252 < (a0.f0.length : Int))) = true then ((at_ a0.f0 x252).bind fun x274 => (if (x274.f0 == a1) = true then (some (.inr (.inr x252))) else (ltt (IntKind.i64.wrap (x252 + 1)) fun x279 => (some (.inl (x279)))))) else (some (.inr (.inl ())))
noncomputable def r05_Store_at (a0 : S53) (a1 : (List UInt8)) : Option (Int) :=
  (loop (fun s => r05_Store_at_l1 a0 a1 s) (0)).bind fun t => match t with | (.inl t) => r05_Store_at_x1_0 | (.inr t) => some t

/-! (*headrace/headraceref05.Store).put -/
noncomputable def r05_Store_put_j1 (a0 : S53) (l732 : (List S62)) : Option (S53) :=
  some (⟨l732, a0.f1, a0.f2, a0.f3, a0.f4⟩ : S53)
noncomputable def r05_Store_put_b1 (a0 : S53) (a1 : S62) (l719 : (List S62)) (b723 : Bool) : Option (S53) :=
  if (!b723) = true then (chk (l719.length + [a1].length ≤ 140737488355328 / 48) (r05_Store_put_j1 a0 (l719 ++ [a1]))) else (r05_Store_put_j1 a0 l719)
noncomputable def r05_Store_put_x1_0 (a0 : S53) (a1 : S62) (l879 : (List S62)) (b883 : Bool) : Option (S53) :=
  r05_Store_put_b1 a0 a1 l879 b883
noncomputable def r05_Store_put_j2 (a0 : S53) (x814 : Int) (l909 : (List S62)) (b913 : Bool) : Option (((List S62) × Bool × Int) ⊕ (((List S62) × Bool))) :=
  (at_ a0.f0 x814).bind fun x914 => (chk (l909.length + [x914].length ≤ 140737488355328 / 48) (ltt (IntKind.i64.wrap (x814 + 1)) fun x922 => (some (.inl (l909 ++ [x914], b913, x922)))))
noncomputable def r05_Store_put_j3 (a0 : S53) (a1 : S62) (l809 : (List S62)) (b813 : Bool) (x814 : Int) (b929 : Bool) : Option (((List S62) × Bool × Int) ⊕ (((List S62) × Bool))) :=
  if b929 = true then (chk (l809.length + [a1].length ≤ 140737488355328 / 48) (r05_Store_put_j2 a0 x814 (l809 ++ [a1]) true)) else (r05_Store_put_j2 a0 x814 l809 b813)
noncomputable def r05_Store_put_l1 (a0 : S53) (a1 : S62) (l809 : (List S62)) (b813 : Bool) (x814 : Int) : Option (((List S62) × Bool × Int) ⊕ (((List S62) × Bool))) :=
  if (decide (x814 < (a0.f0.length : Int))) = true then (if (!b813) = true then ((at_ a0.f0 x814).bind fun x938 => (r05_Store_put_j3 a0 a1 l809 b813 x814 (!(Op.bytesLess x938.f0 a1.f0 || x938.f0 == a1.f0)))) else (r05_Store_put_j3 a0 a1 l809 b813 x814 false)) else (some (.inr (l809, b813)))
noncomputable def r05_Store_put (a0 : S53) (a1 : S62) : Option (S53) :=
  (loop (fun s => r05_Store_put_l1 a0 a1 s.1 s.2.1 s.2.2) ([], false, 0)).bind fun t => r05_Store_put_x1_0 a0 a1 t.1 t.2

/-! (*headrace/headraceref05.Store).drop -/
noncomputable def r05_Store_drop (a0 : S53) (a1 : Int) : Option (S53) :=
  (cut_ a0.f0 0 a1).bind fun l106 => (chk (([] : List S62).length + l106.length ≤ 140737488355328 / 48) (ltt (IntKind.i64.wrap (a1 + 1)) fun x112 => ((cut_ a0.f0 x112 (a0.f0.length : Int)).bind fun l114 => (chk (l106.length + l114.length ≤ 140737488355328 / 48) (some (⟨l106 ++ l114, a0.f1, a0.f2, a0.f3, a0.f4⟩ : S53))))))

/-! (*headrace/headraceref05.Store).Used -/
noncomputable def r05_Store_Used_b1 (x269 : Int) : Option (Int) :=
  some x269
noncomputable def r05_Store_Used_x1_0 (x307 : Int) : Option (Int) :=
  r05_Store_Used_b1 x307
noncomputable def r05_Store_Used_l1 (a0 : S53) (x288 : Int) (x289 : Int) : Option ((Int × Int) ⊕ ((Int))) :=
  if (decide (x289 < (a0.f0.length : Int))) = true then ((at_ a0.f0 x289).bind fun x314 => (ltt (IntKind.i64.wrap ((x314.f1.length : Int) + (x314.f2.length : Int))) fun x318 => (ltt (IntKind.i64.wrap (x288 + x318)) fun x320 => (ltt (IntKind.i64.wrap (x289 + 1)) fun x322 => (some (.inl (x320, x322))))))) else (some (.inr (x288)))
noncomputable def r05_Store_Used (a0 : S53) : Option (Int) :=
  (loop (fun s => r05_Store_Used_l1 a0 s.1 s.2) (0, 0)).bind fun t => r05_Store_Used_x1_0 t

/-! (*headrace/headraceref05.Store).Read -/
noncomputable def r05_Store_Read (a0 : S53) (a1 : (List UInt8)) : Option ((List UInt8) × Int) :=
  (r05_Form a1).bind fun y104 => (if (!y104) = true then (some ([], 1)) else (if a0.f3 = true then (some ([], 9)) else ((r05_Store_at a0 a1).bind fun y113 => (if (decide (y113 < 0)) = true then (some ([], 5)) else ((at_ a0.f0 y113).bind fun x120 => (chk (x120.f1.length + x120.f2.length ≤ maxLen) (some (x120.f1 ++ x120.f2, 0))))))))

/-! (*headrace/headraceref05.Store).Append -/
noncomputable def r05_Store_Append_j3 (a1 : (List UInt8)) (a2 : (List Int)) (y126 : (Int × S53)) (l139 : (List S62)) (x143 : Int) (x144 : Int) (b145 : Bool) (x146 : Int) : Option (Int × S53) :=
  (r05_Store_at (⟨l139, x143, x144, b145, x146⟩ : S53) a1).bind fun y148 => ((at_ l139 y148).bind fun x151 => (chk (x151.f2.length + (bts a2).length ≤ maxLen) (some (y126.1, (⟨l139.set y148.toNat (⟨x151.f0, x151.f1, x151.f2 ++ (bts a2)⟩ : S62), x143, x144, b145, x146⟩ : S53)))))
noncomputable def r05_Store_Append_j2 (a0 : S53) (a1 : (List UInt8)) (a2 : (List Int)) (y106 : ((List UInt8) × Int)) (b122 : Bool) : Option (Int × S53) :=
  if b122 = true then (some (10, a0)) else ((r05_Store_begin a0).bind fun y126 => (if (y106.2 == 5) = true then ((r05_Store_put y126.2 (⟨a1, [], []⟩ : S62)).bind fun y158 => (r05_Store_Append_j3 a1 a2 y126 y158.f0 y158.f1 y158.f2 y158.f3 y158.f4)) else (r05_Store_Append_j3 a1 a2 y126 y126.2.f0 y126.2.f1 y126.2.f2 y126.2.f3 y126.2.f4)))
noncomputable def r05_Store_Append_j1 (a0 : S53) (a1 : (List UInt8)) (a2 : (List Int)) (y106 : ((List UInt8) × Int)) (b111 : Bool) : Option (Int × S53) :=
  if b111 = true then (some (y106.2, a0)) else ((r05_Store_Used a0).bind fun y163 => (ltt (IntKind.i64.wrap (y163 + (a2.length : Int))) fun x165 => (if (decide (a0.f1 < x165)) = true then (r05_Store_Append_j2 a0 a1 a2 y106 true) else (if (y106.2 == 5) = true then (r05_Store_Append_j2 a0 a1 a2 y106 (decide (500 ≤ (a0.f0.length : Int)))) else (r05_Store_Append_j2 a0 a1 a2 y106 false)))))
noncomputable def r05_Store_Append (a0 : S53) (a1 : (List UInt8)) (a2 : (List Int)) : Option (Int × S53) :=
  (r05_Store_Read a0 a1).bind fun y106 => (if (y106.2 == 1) = true then (r05_Store_Append_j1 a0 a1 a2 y106 true) else (r05_Store_Append_j1 a0 a1 a2 y106 (y106.2 == 9)))

/-! (*headrace/headraceref05.Store).Sync -/
noncomputable def r05_Store_Sync_j1 (y113 : (Int × S53)) (l132 : (List S62)) : Option (Int × S53) :=
  some (y113.1, (⟨l132, y113.2.f1, y113.2.f2, y113.2.f3, y113.2.f4⟩ : S53))
noncomputable def r05_Store_Sync (a0 : S53) (a1 : (List UInt8)) : Option (Int × S53) :=
  (r05_Store_Read a0 a1).bind fun y106 => (if (y106.2 != 0) = true then (some (y106.2, a0)) else ((r05_Store_begin a0).bind fun y113 => (if (y113.1 == 0) = true then ((r05_Store_at y113.2 a1).bind fun y137 => ((at_ y113.2.f0 y137).bind fun x140 => (chk (x140.f1.length + x140.f2.length ≤ maxLen) ((at_ (y113.2.f0.set y137.toNat (⟨x140.f0, x140.f1 ++ x140.f2, x140.f2⟩ : S62)) y137).bind fun x145 => (r05_Store_Sync_j1 y113 ((y113.2.f0.set y137.toNat (⟨x140.f0, x140.f1 ++ x140.f2, x140.f2⟩ : S62)).set y137.toNat (⟨x145.f0, x145.f1, []⟩ : S62))))))) else (r05_Store_Sync_j1 y113 y113.2.f0))))

/-! (*headrace/headraceref05.Store).Delete -/
noncomputable def r05_Store_Delete_j1 (y113 : (Int × S53)) (l128 : (List S62)) (x132 : Int) (x133 : Int) (b134 : Bool) (x135 : Int) : Option (Int × S53) :=
  some (y113.1, (⟨l128, x132, x133, b134, x135⟩ : S53))
noncomputable def r05_Store_Delete (a0 : S53) (a1 : (List UInt8)) : Option (Int × S53) :=
  (r05_Store_Read a0 a1).bind fun y106 => (if (y106.2 != 0) = true then (some (y106.2, a0)) else ((r05_Store_begin a0).bind fun y113 => (if (y113.1 == 0) = true then ((r05_Store_at y113.2 a1).bind fun y139 => ((r05_Store_drop y113.2 y139).bind fun y141 => (r05_Store_Delete_j1 y113 y141.f0 y141.f1 y141.f2 y141.f3 y141.f4))) else (r05_Store_Delete_j1 y113 y113.2.f0 y113.2.f1 y113.2.f2 y113.2.f3 y113.2.f4))))

/-! (*headrace/headraceref05.Store).Rename -/
noncomputable def r05_Store_Rename_j3 (a2 : (List UInt8)) (s148 : (List UInt8)) (s149 : (List UInt8)) (l170 : (List S62)) (x174 : Int) (x175 : Int) (b176 : Bool) (x177 : Int) : Option (Int × S53) :=
  (r05_Store_put (⟨l170, x174, x175, b176, x177⟩ : S53) (⟨a2, s148, s149⟩ : S62)).bind fun y180 => (some (0, y180))
noncomputable def r05_Store_Rename_j2 (a1 : (List UInt8)) (a2 : (List UInt8)) (y123 : (Int × S53)) (s147 : (List UInt8)) (s148 : (List UInt8)) (s149 : (List UInt8)) : Option (Int × S53) :=
  (r05_Store_at y123.2 a1).bind fun y151 => ((r05_Store_drop y123.2 y151).bind fun y153 => ((r05_Store_at y153 a2).bind fun y187 => (if (decide (0 ≤ y187)) = true then ((r05_Store_at y153 a2).bind fun y190 => ((r05_Store_drop y153 y190).bind fun y192 => (r05_Store_Rename_j3 a2 s148 s149 y192.f0 y192.f1 y192.f2 y192.f3 y192.f4))) else (r05_Store_Rename_j3 a2 s148 s149 y153.f0 y153.f1 y153.f2 y153.f3 y153.f4))))
noncomputable def r05_Store_Rename_j1 (a0 : S53) (a1 : (List UInt8)) (a2 : (List UInt8)) (b112 : Bool) : Option (Int × S53) :=
  if b112 = true then (some (1, a0)) else ((r05_Store_Read a0 a1).bind fun y116 => (if (y116.2 != 0) = true then (some (y116.2, a0)) else ((r05_Store_begin a0).bind fun y123 => (if (y123.1 != 0) = true then (some (y123.1, y123.2)) else ((r05_Store_at y123.2 a1).bind fun y197 => ((at_ y123.2.f0 y197).bind fun x199 => (r05_Store_Rename_j2 a1 a2 y123 x199.f0 x199.f1 x199.f2)))))))
noncomputable def r05_Store_Rename (a0 : S53) (a1 : (List UInt8)) (a2 : (List UInt8)) : Option (Int × S53) :=
  (r05_Form a1).bind fun y210 => (if (!y210) = true then (r05_Store_Rename_j1 a0 a1 a2 true) else ((r05_Form a2).bind fun y213 => (r05_Store_Rename_j1 a0 a1 a2 (!y213))))

/-! (*headrace/headraceref05.Store).Restart -/
noncomputable def r05_Store_Restart_b1 (a0 : S53) (l711 : (List S62)) : Option (S53) :=
  some (⟨l711, a0.f1, 0, false, a0.f4⟩ : S53)
noncomputable def r05_Store_Restart_x1_0 (a0 : S53) (l847 : (List S62)) : Option (S53) :=
  r05_Store_Restart_b1 a0 l847
noncomputable def r05_Store_Restart_j2 (l779 : (List S62)) (x780 : Int) (x878 : Int) : Option (((List S62) × Int) ⊕ (((List S62)))) :=
  (at_ l779 x780).bind fun x880 => ((cut_ x880.f2 0 x878).bind fun s884 => (chk (x880.f1.length + s884.length ≤ maxLen) ((at_ (l779.set x780.toNat (⟨x880.f0, x880.f1 ++ s884, x880.f2⟩ : S62)) x780).bind fun x887 => (ltt (IntKind.i64.wrap (x780 + 1)) fun x889 => (some (.inl ((l779.set x780.toNat (⟨x880.f0, x880.f1 ++ s884, x880.f2⟩ : S62)).set x780.toNat (⟨x887.f0, x887.f1, []⟩ : S62), x889)))))))
noncomputable def r05_Store_Restart_j3 (l779 : (List S62)) (x780 : Int) (x861 : Int) (b896 : Bool) : Option (((List S62) × Int) ⊕ (((List S62)))) :=
  if b896 = true then ((at_ l779 x780).bind fun x898 => (r05_Store_Restart_j2 l779 x780 (x898.f2.length : Int))) else (r05_Store_Restart_j2 l779 x780 x861)
noncomputable def r05_Store_Restart_j1 (l779 : (List S62)) (x780 : Int) (x861 : Int) : Option (((List S62) × Int) ⊕ (((List S62)))) :=
  if (decide (x861 < 0)) = true then (r05_Store_Restart_j3 l779 x780 x861 true) else ((at_ l779 x780).bind fun x902 => (r05_Store_Restart_j3 l779 x780 x861 (decide ((x902.f2.length : Int) < x861))))
noncomputable def r05_Store_Restart_l1 (a1 : (List Int)) (l779 : (List S62)) (x780 : Int) : Option (((List S62) × Int) ⊕ (((List S62)))) :=
  if (decide (x780 < (l779.length : Int))) = true then (if (decide (x780 < (a1.length : Int))) = true then ((at_ a1 x780).bind fun x907 => (r05_Store_Restart_j1 l779 x780 x907)) else (r05_Store_Restart_j1 l779 x780 0)) else (some (.inr (l779)))
noncomputable def r05_Store_Restart (a0 : S53) (a1 : (List Int)) : Option (S53) :=
  (loop (fun s => r05_Store_Restart_l1 a1 s.1 s.2) (a0.f0, 0)).bind fun t => r05_Store_Restart_x1_0 a0 t
end Go.Proofs.Ytgjhiojkkjaloaa.M
