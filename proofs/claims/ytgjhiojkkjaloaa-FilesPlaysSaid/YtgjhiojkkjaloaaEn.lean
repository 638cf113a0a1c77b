/- Strings cut anew. -/
import Derived.Test.YtgjhiojkkjaloaaEm
import Derived.Laws.Strings2
namespace Go.Proofs.Ytgjhiojkkjaloaa.E
open Go Go.RowKit
set_option linter.unusedVariables false
set_option linter.unusedSimpArgs false
section
variable {P : Program} {ops : Array Oper} {Q : Exit → Act → World → Prop} {rest : List Oper} {o : Oper} {a : Act} {w : World} {n : Nat} {D : List Deferred} {t : Nat} {F : List (Nat × Value)} {t' : TypeId} {x lo_ hi_ : Operand} {s ys : List UInt8} {l u : Int} {kl kh : IntKind}
theorem str_cut (s : List UInt8) (l u : Nat) : Value.string ((⟨s.toArray⟩ : ByteArray).extract l u) = str ((s.take u).drop l) := by
  unfold str
  congr 1
  apply ByteArray.ext
  rw [ByteArray.data_extract, List.extract_toArray, List.extract_eq_take_drop, List.drop_take]
theorem sz_str (s : List UInt8) : (⟨s.toArray⟩ : ByteArray).size = s.length := by simp [ByteArray.size]
theorem r_cutSlh (hu : P.underlying t' = some .string) (h : cut_ s l u = some ys) (ho : o.op = .slice t' x (some lo_) (some hi_) none) (hx : a.eval x = str s) (hl : a.eval lo_ = .int kl l) (hh : a.eval hi_ = .int kh u) : RunV P o a w (str ys) := by
  obtain ⟨h0, h1, h2, rfl⟩ := cut_some h
  have hr := run_slice_string (P := P) (w := w) t' (⟨s.toArray⟩ : ByteArray) kl kh l u hu h0 h1 (by rw [sz_str]; exact h2)
  unfold RunV execOp; rw [ho]
  simp only [hx, hl, hh, str, Option.map_some, Option.map_none, Sem.run_bind, run_sliceAt_string w t' _ _ _ _ hu, hr, str_cut]
  rfl
theorem r_cutSh (hu : P.underlying t' = some .string) (h : cut_ s 0 u = some ys) (ho : o.op = .slice t' x none (some hi_) none) (hx : a.eval x = str s) (hh : a.eval hi_ = .int kh u) : RunV P o a w (str ys) := by
  obtain ⟨h0, h1, h2, rfl⟩ := cut_some h
  have hr := run_slice_string_h (P := P) w t' (⟨s.toArray⟩ : ByteArray) hu kh u h1 (by rw [sz_str]; exact h2)
  unfold RunV execOp; rw [ho]
  simp only [hx, hh, str, Option.map_some, Option.map_none, Sem.run_bind, run_sliceAt_string w t' _ _ _ _ hu, hr, str_cut]
  rfl
theorem r_cutSl (hu : P.underlying t' = some .string) (h : cut_ s l (s.length : Int) = some ys) (ho : o.op = .slice t' x (some lo_) none none) (hx : a.eval x = str s) (hl : a.eval lo_ = .int kl l) : RunV P o a w (str ys) := by
  obtain ⟨h0, h1, h2, rfl⟩ := cut_some h
  have hr := run_slice_string_l (P := P) w t' (⟨s.toArray⟩ : ByteArray) hu kl l h0 (by rw [sz_str]; exact h1)
  unfold RunV execOp; rw [ho]
  simp only [hx, hl, str, Option.map_some, Option.map_none, Sem.run_bind, run_sliceAt_string w t' _ _ _ _ hu, hr, str_cut, sz_str, Int.toNat_natCast]
  rfl
theorem y_cutSlh (hu : P.underlying t' = some .string) (h : cut_ s l u = some ys) (hA : FR n D a F) (ho : o.op = .slice t' x (some lo_) (some hi_) none := by rfl) (hx : ev F x = some (str s) := by rfl) (hl : ev F lo_ = some (.int kl l) := by rfl) (hh : ev F hi_ = some (.int kh u) := by rfl) : RunV P o a w (str ys) := r_cutSlh hu h ho (hA.ev hx) (hA.ev hl) (hA.ev hh)
theorem y_cutSh (hu : P.underlying t' = some .string) (h : cut_ s 0 u = some ys) (hA : FR n D a F) (ho : o.op = .slice t' x none (some hi_) none := by rfl) (hx : ev F x = some (str s) := by rfl) (hh : ev F hi_ = some (.int kh u) := by rfl) : RunV P o a w (str ys) := r_cutSh hu h ho (hA.ev hx) (hA.ev hh)
theorem y_cutSl (hu : P.underlying t' = some .string) (h : cut_ s l (s.length : Int) = some ys) (hA : FR n D a F) (ho : o.op = .slice t' x (some lo_) none none := by rfl) (hx : ev F x = some (str s) := by rfl) (hl : ev F lo_ = some (.int kl l) := by rfl) : RunV P o a w (str ys) := r_cutSl hu h ho (hA.ev hx) (hA.ev hl)
theorem x_cutSlh (hu : P.underlying t' = some .string) (h : cut_ s l u = some ys) (hA : FR n D a F) (kk : ∀ a', FR n D a' ((t, str ys) :: F) → wpList P ops Q rest a' w) (ho : o.op = .slice t' x (some lo_) (some hi_) none := by rfl) (hx : ev F x = some (str s) := by rfl) (hl : ev F lo_ = some (.int kl l) := by rfl) (hh : ev F hi_ = some (.int kh u) := by rfl)
    (hd : o.dst = some t := by rfl) (hg : o.guard = none := by rfl) (ht : Nat.blt t n = true := by rfl) : wpList P ops Q (o :: rest) a w := x_val hA (y_cutSlh hu h hA ho hx hl hh) kk hd hg ht
theorem x_cutSh (hu : P.underlying t' = some .string) (h : cut_ s 0 u = some ys) (hA : FR n D a F) (kk : ∀ a', FR n D a' ((t, str ys) :: F) → wpList P ops Q rest a' w) (ho : o.op = .slice t' x none (some hi_) none := by rfl) (hx : ev F x = some (str s) := by rfl) (hh : ev F hi_ = some (.int kh u) := by rfl)
    (hd : o.dst = some t := by rfl) (hg : o.guard = none := by rfl) (ht : Nat.blt t n = true := by rfl) : wpList P ops Q (o :: rest) a w := x_val hA (y_cutSh hu h hA ho hx hh) kk hd hg ht
theorem x_cutSl (hu : P.underlying t' = some .string) (h : cut_ s l (s.length : Int) = some ys) (hA : FR n D a F) (kk : ∀ a', FR n D a' ((t, str ys) :: F) → wpList P ops Q rest a' w) (ho : o.op = .slice t' x (some lo_) none none := by rfl) (hx : ev F x = some (str s) := by rfl) (hl : ev F lo_ = some (.int kl l) := by rfl)
    (hd : o.dst = some t := by rfl) (hg : o.guard = none := by rfl) (ht : Nat.blt t n = true := by rfl) : wpList P ops Q (o :: rest) a w := x_val hA (y_cutSl hu h hA ho hx hl) kk hd hg ht
theorem z_alloc {T : TypeId} {r : World} {L : List HP} {K : Act → World → Prop} {cs : List Value} {z : Value} (hz : (P.info? T).bind (·.zero) = some z) (hA : FR n D a F) (hS : SH r L w) (kk : ∀ g w', SH r (blk g T cs :: L) w' → K (a.put o.dst (.pointer (some ⟨g, 0, none⟩))) w')
    (ho : o.op = .alloc T := by rfl) (hcs : z.cells = cs.toArray := by rfl) : o.wp P a w K Q := e_alloc hS ho hz hcs kk
end
end Go.Proofs.Ytgjhiojkkjaloaa.E
