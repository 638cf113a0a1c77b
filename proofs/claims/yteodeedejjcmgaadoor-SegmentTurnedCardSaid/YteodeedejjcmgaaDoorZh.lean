/- Texts of the claim, joined: what it uses of DlSegmentTurned, MlSegmentTurned, LSegmentTurned, DlSegmentNil, DlSegmentWrites, DlSegmentChunks, DlSegmentPrunes, DlSegmentParted, DlSegmentScans, Qa, Qb, Qc, Qd, Qe, Qf, Qg, Qh, Qi, Qj, Qk, Qm, Qn, Qo, Qp, Qq, Pa, Pb. -/
import Derived.Test.YteodeedejjcmgaaDoorZg
import Derived.Test.YteodeedejjcmgaaDoorCards
import Derived.Test.YteodeedejjcmgaaDoorTie
import Derived.SevenTiedAt
import Derived.LaidMore
import Derived.OpenShut
import Derived.Stop.Joined
import Derived.ProofKit
import Derived.IntWalk
import Derived.Sort.Walk0
namespace Go.Proofs.YteodeedejjcmgaaDoor.M
open Go Go.RowKit Go.Proofs.YteodeedejjcmgaaDoor.E
set_option linter.unusedVariables false
noncomputable section
set_option linter.unusedSimpArgs false
def law07_SegmentTurned_b1 (y125 : ((List S44))) (l1155 : (List Int)) (b1156 : Bool) : Option (Bool) :=
  (segment_Open l1155).bind fun y1163 => (if (y1163.2 != 0) = true then (if b1156 = true then (if y1163.1.isNone = true then (if (y1163.2 == 3) = true then (some true) else (some (y1163.2 == 4))) else (some false)) else (some false)) else ((segment_Segment_Scan y1163.1 (⟨0, 1099511627776, -1099511627776, 1099511627776⟩ : S33)).bind fun y1179 => (if (!b1156) = true then (if (y1179.2.2 == 0) = true then ((r06_SameAll y1179.1 y125).bind fun y1194 => (some y1194)) else (some false)) else (if (y1179.2.2 != 0) = true then (some ((y1179.1.length : Int) == 0)) else (some false)))))
def law07_SegmentTurned_x1_0 (y125 : ((List S44))) (l1431 : (List Int)) (b1432 : Bool) : Option (Bool) :=
  law07_SegmentTurned_b1 y125 l1431 b1432
def law07_SegmentTurned_b2 (x1313 : Int) (l1515 : (List Int)) (b1516 : Bool) : Option (((List Int) × Bool × Int) ⊕ (((List Int) × Bool))) :=
  ltt (IntKind.i64.wrap (x1313 + 1)) fun x1517 => (some (.inl (l1515, b1516, x1517)))
def law07_SegmentTurned_j3 (a2 : Int) (x156 : Int) (l1311 : (List Int)) (b1312 : Bool) (x1313 : Int) (b1441 : Bool) : Option (((List Int) × Bool × Int) ⊕ (((List Int) × Bool))) :=
  if b1441 = true then (chk (0 ≤ x1313) (ltt (ishr .u32 a2 x1313) fun x1521 => (ltt (iand .u32 x1521 1) fun x1523 => (if (x1523 == 1) = true then (ltt (IntKind.i64.wrap (x156 + x1313)) fun x1527 => (ltt (IntKind.i64.wrap (x1527.tdiv 8)) fun x1529 => ((at_ l1311 x1529).bind fun x1531 => (ltt (x1527.tmod 8) fun x1534 => (chk (0 ≤ x1534) (ltt (ishl .u8 1 x1534) fun x1537 => (ltt (ixor .u8 x1531 x1537) fun x1539 => (law07_SegmentTurned_b2 x1313 (l1311.set x1529.toNat x1539) true)))))))) else (law07_SegmentTurned_b2 x1313 l1311 b1312))))) else (some (.inr (l1311, b1312)))
def law07_SegmentTurned_l1 (a2 : Int) (x156 : Int) (l1311 : (List Int)) (b1312 : Bool) (x1313 : Int) : Option (((List Int) × Bool × Int) ⊕ (((List Int) × Bool))) :=
  if (decide (x1313 < 32)) = true then (ltt (IntKind.i64.wrap (x156 + x1313)) fun x1542 => (ltt (IntKind.i64.wrap (8 * (l1311.length : Int))) fun x1544 => (law07_SegmentTurned_j3 a2 x156 l1311 b1312 x1313 (decide (x1542 < x1544))))) else (law07_SegmentTurned_j3 a2 x156 l1311 b1312 x1313 false)
def law07_SegmentTurned_j2 (a1 : Int) (a2 : Int) (y125 : ((List S44))) (b133 : Bool) : Option (Bool) :=
  if b133 = true then (some true) else ((segment_Write y125 4).bind fun y141 => (ltt (IntKind.i64.wrap a1) fun x151 => (ltt (IntKind.i64.wrap (8 * (y141.1.length : Int))) fun x153 => (chk (x153 ≠ 0) (ltt (x151.tmod x153) fun x156 => ((loop (fun s => law07_SegmentTurned_l1 a2 x156 s.1 s.2.1 s.2.2) (y141.1, false, 0)).bind fun t => law07_SegmentTurned_x1_0 y125 t.1 t.2))))))
def law07_SegmentTurned_j1 (a0 : (List S44)) (a1 : Int) (a2 : Int) (b115 : Bool) : Option (Bool) :=
  if b115 = true then ((law07_awake).bind fun y118 => (some y118)) else ((law07_stretch a0 0 4).bind fun y125 => (if ((y125.length : Int) == 0) = true then (law07_SegmentTurned_j2 a1 a2 y125 true) else (law07_SegmentTurned_j2 a1 a2 y125 (a2 == 0))))
def law07_SegmentTurned (a0 : (List S44)) (a1 : Int) (a2 : Int) : Option (Bool) :=
  (law07_awake).bind fun y1547 => (if (!y1547) = true then (law07_SegmentTurned_j1 a0 a1 a2 true) else (law07_SegmentTurned_j1 a0 a1 a2 (decide (100 < (a0.length : Int)))))
end
set_option maxRecDepth 100000
set_option maxHeartbeats 4000000
set_option linter.unusedSimpArgs false
theorem F_law07_SegmentTurned {r : World} {L : List HP} {w : World} {Z : Nat → Prop} {wz : World} (a0 : (List S44)) (a1 : Int) (a2 : Int) (A0 : Option Addr) (n0 : Nat) (c0 : Nat) {y : (Bool)} (G : law07_SegmentTurned a0 a1 a2 = some y) (ha0 : Imm Z wz k44 A0 n0 c0 a0) (hG0 : Imm Z wz (kI .u32) (some ⟨0, 0, none⟩) 16 16 gl_page_table) (X : SH r (zone Z wz :: L) w) :
  Ret Tryd.prog 5 #[.slice A0 n0 c0, .int .u32 a1, .int .u32 a2] w fun v w' => ∃ (Z' : Nat → Prop) (wz' : World), v = .bool y ∧ Sub Z wz Z' wz' ∧ SH r (zone Z' wz' :: L) w' := by
 refine enter Tryd.func5 rfl Tryd.ntmps5 [(0, .slice A0 n0 c0), (1, .int .u32 a1), (2, .int .u32 a2)] rfl (by simp) ?_
 intro U J Qf hQ hQn
 unfold law07_SegmentTurned at G
 refine ws fun K100 hK100 => ?_
 refine x_m J rfl fun U J => ?_
 refine wn (hK100 _ _ ?_)
 refine wp_seq_k fun K101 hK101 => ?_
 refine wp_seq_k fun K102 hK102 => ?_
 have hj1 : ∀ (b103 : Bool), law07_SegmentTurned_j1 a0 a1 a2 b103 = some y → ∀ (Z104 : Nat → Prop) (wz105 : World) (h106 : Sub Z wz Z104 wz105) (h107 : Imm Z104 wz105 k44 A0 n0 c0 a0) (U : Act) (w : World), FR 126 [] U [(0, .slice A0 n0 c0), (1, .int .u32 a1), (2, .int .u32 a2), (24, .bool b103)] → SH r (zone Z104 wz105 :: L) w → K102 U w := by
  intro b103 G Z104 wz105 h106 h107 U w J X
  unfold law07_SegmentTurned_j1 at G
  refine hK102 _ _ ?_
  refine c_if J rfl (fun hb108 => ?_) fun hb108 => ?_
  ·replace G := ift hb108 G
   refine ws fun K109 hK109 => ?_
   obtain ⟨y110, h111, G⟩ := bnd G
   refine x_call' en10 J (F_law07_awake (L := L) h111 (Imm.sub hG0 h106) X) (fun v U w hR J => ?_) rfl
   obtain ⟨Z112, wz113, rfl, h114, X⟩ := hR
   have h115 := Imm.sub h107 h114
   refine x_m J rfl fun U J => ?_
   refine wn (hK109 _ _ ?_)
   refine wp_ret ?_
   cases G
   refine hQ _ _ ?_
   refine lv Tryd.results5 J rfl ?_
   exact ⟨Z112, wz113, rfl, (Sub.trans h106 h114), X⟩
  replace G := iff' hb108 G
  refine wp_skip ?_
  refine hK101 _ _ ?_
  refine ws fun K116 hK116 => ?_
  refine x_m J rfl fun U J => ?_
  obtain ⟨y117, h118, G⟩ := bnd G
  refine x_call' en13 J (F_law07_stretch (L := zone Z104 wz105 :: L) a0 0 4 A0 n0 c0 h118 (h107.rdl 0 rfl) X) (fun v U w hR J => ?_) rfl
  obtain ⟨B119, m120, d121, rfl, X⟩ := hR
  refine x_m J rfl fun U J => ?_
  refine wn (hK116 _ _ ?_)
  refine wp_seq_k fun K122 hK122 => ?_
  refine wp_seq_k fun K123 hK123 => ?_
  have hj2 : ∀ (b124 : Bool), law07_SegmentTurned_j2 a1 a2 y117 b124 = some y → ∀ (U : Act) (w : World), FR 126 [] U [(1, .int .u32 a1), (2, .int .u32 a2), (7, .slice B119 m120 d121), (34, .bool b124)] → SH r (own k44 44 B119 m120 d121 y117 :: zone Z104 wz105 :: L) w → K123 U w := by
   intro b124 G U w J X
   unfold law07_SegmentTurned_j2 at G
   refine hK123 _ _ ?_
   refine c_if J rfl (fun hb125 => ?_) fun hb125 => ?_
   ·replace G := ift hb125 G
    refine ws fun K126 hK126 => ?_
    refine x_m J rfl fun U J => ?_
    refine wn (hK126 _ _ ?_)
    refine wp_ret ?_
    replace X := X.drop 0
    cases G
    refine hQ _ _ ?_
    refine lv Tryd.results5 J rfl ?_
    exact ⟨Z104, wz105, rfl, h106, X⟩
   replace G := iff' hb125 G
   refine wp_skip ?_
   refine hK122 _ _ ?_
   refine ws fun K127 hK127 => ?_
   refine x_m J rfl fun U J => ?_
   replace X := X.pk 1 |>.pk 1
   obtain ⟨Z128, wz129, X, h130, sb140⟩ := SH.freeze (n := m120) (c := d121) (A := B119) X
   obtain ⟨y131, h132, G⟩ := bnd G
   refine x_call' en11 J (F_segment_Write (L := L) y117 4 B119 m120 d121 h132 h130 (Imm.sub hG0 (Sub.trans h106 sb140)) X) (fun v U w hR J => ?_) rfl
   obtain ⟨Z133, wz134, B135, m136, d137, rfl, h138, X⟩ := hR
   have h139 := Imm.sub h130 h138
   refine x_m J rfl fun U J => ?_
   refine x_v J (r_extract rfl (J.ev rfl) rfl) rfl fun U J => ?_
   refine x_v J (r_extract rfl (J.ev rfl) rfl) rfl fun U J => ?_
   refine x_m J rfl fun U J => ?_
   refine x_m J rfl fun U J => ?_
   refine wn (hK127 _ _ ?_)
   refine ws fun K140 hK140 => ?_
   refine x_m J rfl fun U J => ?_
   obtain ⟨x141, h142, G⟩ := ltt_ G
   refine x_v (v := .int .i64 x141) J (rv_i h142 (r_convI uu48 uu3 rfl (J.ev rfl))) rfl fun U J => ?_
   refine x_m J rfl fun U J => ?_
   refine x_len' uu24 (X.rd 0 rfl).2.1 J (fun U J => ?_) rfl
   obtain ⟨x143, h144, G⟩ := ltt_ G
   refine x_v (v := .int .i64 x143) J (rv_i h144 (r_mul rfl (J.ev rfl) (J.ev rfl))) rfl fun U J => ?_
   obtain ⟨h145, G⟩ := chk_some G
   obtain ⟨x146, h147, G⟩ := ltt_ G
   refine x_v (v := .int .i64 x146) J (rv_i h147 (r_rem rfl (J.ev rfl) (J.ev rfl) h145)) rfl fun U J => ?_
   refine x_m J rfl fun U J => ?_
   refine wn (hK140 _ _ ?_)
   refine ws fun K148 hK148 => ?_
   refine x_m J rfl fun U J => ?_
   refine wn (hK148 _ _ ?_)
   refine wp_seq_k fun K149 hK149 => ?_
   refine ws fun K150 hK150 => ?_
   refine x_m J rfl fun U J => ?_
   refine wn (hK150 _ _ ?_)
   refine wp_block_k fun Kx151 hKx151 => ?_
   have hb1 : ∀ (l152 : (List Int)) (b153 : Bool), law07_SegmentTurned_b1 y117 l152 b153 = some y → ∀ (U : Act) (w : World), FR 126 [] U [(7, .slice B119 m120 d121), (8, .slice B135 m136 d137), (11, .bool b153)] → SH r (own (kI .u8) 5 B135 m136 d137 l152 :: zone Z133 wz134 :: L) w → Kx151 U w := by
    intro l152 b153 G U w J X
    unfold law07_SegmentTurned_b1 at G
    refine hKx151 _ _ ?_
    refine hK149 _ _ ?_
    refine ws fun K154 hK154 => ?_
    refine x_m J rfl fun U J => ?_
    replace X := X.pk 1 |>.pk 1
    obtain ⟨Z155, wz156, X, h157, sb1161⟩ := SH.freeze (n := m136) (c := d137) (A := B135) X
    have h158 := Imm.sub h139 sb1161
    obtain ⟨y159, h160, G⟩ := bnd G
    refine x_call' en14 J (F_segment_Open (L := L) l152 B135 m136 d137 h160 h157 (Imm.sub hG0 (Sub.trans (Sub.trans (Sub.trans h106 sb140) h138) sb1161)) X) (fun v U w hR J => ?_) rfl
    obtain ⟨Z161, wz162, p163, rfl, h164, X⟩ := hR
    have h165 := Imm.sub h158 h164
    have h166 := Imm.sub h157 h164
    refine x_m J rfl fun U J => ?_
    refine x_v J (r_extract rfl (J.ev rfl) rfl) rfl fun U J => ?_
    refine x_v J (r_extract rfl (J.ev rfl) rfl) rfl fun U J => ?_
    refine x_m J rfl fun U J => ?_
    refine x_m J rfl fun U J => ?_
    refine wn (hK154 _ _ ?_)
    refine wp_seq_k fun K167 hK167 => ?_
    refine ws fun K168 hK168 => ?_
    refine x_m J rfl fun U J => ?_
    refine x_v J (r_neI rfl (J.ev rfl) (J.ev rfl)) rfl fun U J => ?_
    refine wn (hK168 _ _ ?_)
    refine c_if J rfl (fun hb169 => ?_) fun hb169 => ?_
    ·replace G := ift hb169 G
     refine ws fun K170 hK170 => ?_
     refine x_m J rfl fun U J => ?_
     refine x_m J rfl fun U J => ?_
     refine bcase (b := b153) (fun hb171 => ?_) fun hb171 => ?_
     ·replace G := ift hb171 G
      refine x_on' hb171 J ?_ rfl
      refine x_m J rfl fun U J => ?_
      refine x_on' hb171 J ?_ rfl
      have hpo := X.optNone 0 rfl
      refine x_v J (hpo ▸ r_eqNilP uu35 rfl (J.ev rfl) (J.ev rfl)) rfl fun U J => ?_
      refine x_pickt' hb171 J (fun U J => ?_) rfl
      refine x_m J rfl fun U J => ?_
      refine bcase (b := y159.1.isNone) (fun hb172 => ?_) fun hb172 => ?_
      ·replace G := ift hb172 G
       refine x_on' hb172 J ?_ rfl
       refine x_m J rfl fun U J => ?_
       refine x_on' hb172 J ?_ rfl
       refine x_v J (r_eqI rfl (J.ev rfl) (J.ev rfl)) rfl fun U J => ?_
       refine x_on' hb172 J ?_ rfl
       refine x_m J rfl fun U J => ?_
       refine bcase (b := y159.2 == 3) (fun hb173 => ?_) fun hb173 => ?_
       ·replace G := ift hb173 G
        refine xO 2 hb173 J rfl fun U J => ?_
        refine x_on' hb172 J ?_ rfl
        refine x_pickt' hb173 J (fun U J => ?_) rfl
        refine x_pickt' hb172 J (fun U J => ?_) rfl
        refine x_m J rfl fun U J => ?_
        refine wn (hK170 _ _ ?_)
        refine wp_ret ?_
        replace X := X.drop 0
        cases G
        refine hQ _ _ ?_
        refine lv Tryd.results5 J rfl ?_
        exact ⟨Z161, wz162, rfl, (Sub.trans (Sub.trans (Sub.trans (Sub.trans h106 sb140) h138) sb1161) h164), X⟩
       replace G := iff' hb173 G
       refine x_on' hb173 J ?_ rfl
       refine x_m J rfl fun U J => ?_
       refine x_on' hb173 J ?_ rfl
       refine x_v J (r_eqI rfl (J.ev rfl) (J.ev rfl)) rfl fun U J => ?_
       refine x_on' hb172 J ?_ rfl
       refine x_pickf' hb173 J (fun U J => ?_) rfl
       refine x_pickt' hb172 J (fun U J => ?_) rfl
       refine x_m J rfl fun U J => ?_
       refine wn (hK170 _ _ ?_)
       refine wp_ret ?_
       replace X := X.drop 0
       cases G
       refine hQ _ _ ?_
       refine lv Tryd.results5 J rfl ?_
       exact ⟨Z161, wz162, rfl, (Sub.trans (Sub.trans (Sub.trans (Sub.trans h106 sb140) h138) sb1161) h164), X⟩
      replace G := iff' hb172 G
      refine xO 3 hb172 J rfl fun U J => ?_
      refine x_offU' J (fun U J => ?_) rfl
      refine x_offU' J (fun U J => ?_) rfl
      refine xO 1 hb172 J rfl fun U J => ?_
      refine x_pickf' hb172 J (fun U J => ?_) rfl
      refine x_m J rfl fun U J => ?_
      refine wn (hK170 _ _ ?_)
      refine wp_ret ?_
      replace X := X.drop 0
      cases G
      refine hQ _ _ ?_
      refine lv Tryd.results5 J rfl ?_
      exact ⟨Z161, wz162, rfl, (Sub.trans (Sub.trans (Sub.trans (Sub.trans h106 sb140) h138) sb1161) h164), X⟩
     replace G := iff' hb171 G
     refine xO 2 hb171 J rfl fun U J => ?_
     refine x_pickf' hb171 J (fun U J => ?_) rfl
     refine x_m J rfl fun U J => ?_
     refine xO 3 rfl J rfl fun U J => ?_
     refine x_offU' J (fun U J => ?_) rfl
     refine x_offU' J (fun U J => ?_) rfl
     refine xO 1 rfl J rfl fun U J => ?_
     refine x_pickf' rfl J (fun U J => ?_) rfl
     refine x_m J rfl fun U J => ?_
     refine wn (hK170 _ _ ?_)
     refine wp_ret ?_
     replace X := X.drop 0
     cases G
     refine hQ _ _ ?_
     refine lv Tryd.results5 J rfl ?_
     exact ⟨Z161, wz162, rfl, (Sub.trans (Sub.trans (Sub.trans (Sub.trans h106 sb140) h138) sb1161) h164), X⟩
    replace G := iff' hb169 G
    refine wp_skip ?_
    refine hK167 _ _ ?_
    refine ws fun K174 hK174 => ?_
    refine x_m J rfl fun U J => ?_
    refine x_v (v := .agg #[.int .u64 0, .int .u64 1099511627776, .int .i64 (-1099511627776), .int .i64 1099511627776]) J (r_build (ps := #[(1, .int .u64 1099511627776), (2, .int .i64 (-1099511627776)), (3, .int .i64 1099511627776)]) rfl (mapev2 J rfl) (fun w => by kernel_rfl)) rfl fun U J => ?_
    replace X := X.pk 1 |>.pk 1
    obtain ⟨y175, h176, G⟩ := bnd G
    refine x_call' en18 J (F_segment_Segment_Scan (L := L) y159.1 (⟨0, 1099511627776, -1099511627776, 1099511627776⟩ : S33) p163 h176 (Imm.sub hG0 (Sub.trans (Sub.trans (Sub.trans (Sub.trans h106 sb140) h138) sb1161) h164)) X) (fun v U w hR J => ?_) rfl
    obtain ⟨Z177, wz178, B179, m180, d181, rfl, h182, X⟩ := hR
    have h183 := Imm.sub h165 h182
    have h184 := Imm.sub h166 h182
    refine x_m J rfl fun U J => ?_
    refine x_v J (r_extract rfl (J.ev rfl) rfl) rfl fun U J => ?_
    refine x_v J (r_extract rfl (J.ev rfl) rfl) rfl fun U J => ?_
    refine x_v J (r_extract rfl (J.ev rfl) rfl) rfl fun U J => ?_
    refine x_m J rfl fun U J => ?_
    refine x_m J rfl fun U J => ?_
    refine x_m J rfl fun U J => ?_
    refine wn (hK174 _ _ ?_)
    refine wp_seq_k fun K185 hK185 => ?_
    refine ws fun K186 hK186 => ?_
    refine x_m J rfl fun U J => ?_
    refine x_v J (r_not rfl (J.ev rfl)) rfl fun U J => ?_
    refine wn (hK186 _ _ ?_)
    refine c_if J rfl (fun hb187 => ?_) fun hb187 => ?_
    ·replace G := ift hb187 G
     refine ws fun K188 hK188 => ?_
     refine x_m J rfl fun U J => ?_
     refine x_v J (r_eqI rfl (J.ev rfl) (J.ev rfl)) rfl fun U J => ?_
     refine x_m J rfl fun U J => ?_
     refine bcase (b := y175.2.2 == 0) (fun hb189 => ?_) fun hb189 => ?_
     ·replace G := ift hb189 G
      refine x_on' hb189 J ?_ rfl
      refine x_m J rfl fun U J => ?_
      refine x_on' hb189 J ?_ rfl
      refine x_m J rfl fun U J => ?_
      refine x_on' hb189 J ?_ rfl
      obtain ⟨y190, h191, G⟩ := bnd G
      refine x_call' en19 J (F_r06_SameAll (L := own k44 44 B179 m180 d181 y175.1 :: optP (obj83 Z177 wz178) p163 y159.1 :: zone Z177 wz178 :: L) y175.1 y117 B179 m180 d181 B119 m120 d121 h191 (RdL.own 0 rfl (X.dropN 0)) (h183.rdl 2 rfl) X) (fun v U w hR J => ?_) rfl
      obtain ⟨rfl, X⟩ := hR
      refine x_pickt' hb189 J (fun U J => ?_) rfl
      refine x_m J rfl fun U J => ?_
      refine wn (hK188 _ _ ?_)
      refine wp_ret ?_
      replace X := X.drop 0 |>.drop 0
      cases G
      refine hQ _ _ ?_
      refine lv Tryd.results5 J rfl ?_
      exact ⟨Z177, wz178, rfl, (Sub.trans (Sub.trans (Sub.trans (Sub.trans (Sub.trans h106 sb140) h138) sb1161) h164) h182), X⟩
     replace G := iff' hb189 G
     refine xO 3 hb189 J rfl fun U J => ?_
     refine x_pickf' hb189 J (fun U J => ?_) rfl
     refine x_m J rfl fun U J => ?_
     refine wn (hK188 _ _ ?_)
     refine wp_ret ?_
     replace X := X.drop 0 |>.drop 0
     cases G
     refine hQ _ _ ?_
     refine lv Tryd.results5 J rfl ?_
     exact ⟨Z177, wz178, rfl, (Sub.trans (Sub.trans (Sub.trans (Sub.trans (Sub.trans h106 sb140) h138) sb1161) h164) h182), X⟩
    replace G := iff' hb187 G
    refine wp_skip ?_
    refine hK185 _ _ ?_
    refine ws fun K192 hK192 => ?_
    refine x_m J rfl fun U J => ?_
    refine x_v J (r_neI rfl (J.ev rfl) (J.ev rfl)) rfl fun U J => ?_
    refine x_m J rfl fun U J => ?_
    refine bcase (b := y175.2.2 != 0) (fun hb193 => ?_) fun hb193 => ?_
    ·replace G := ift hb193 G
     refine x_on' hb193 J ?_ rfl
     refine x_m J rfl fun U J => ?_
     refine x_on' hb193 J ?_ rfl
     refine x_len' uu22 (X.rd 0 rfl).2.1 J (fun U J => ?_) rfl
     refine x_on' hb193 J ?_ rfl
     refine x_v J (r_eqI rfl (J.ev rfl) (J.ev rfl)) rfl fun U J => ?_
     refine x_pickt' hb193 J (fun U J => ?_) rfl
     refine x_m J rfl fun U J => ?_
     refine wn (hK192 _ _ ?_)
     refine wp_ret ?_
     replace X := X.drop 0 |>.drop 0
     cases G
     refine hQ _ _ ?_
     refine lv Tryd.results5 J rfl ?_
     exact ⟨Z177, wz178, rfl, (Sub.trans (Sub.trans (Sub.trans (Sub.trans (Sub.trans h106 sb140) h138) sb1161) h164) h182), X⟩
    replace G := iff' hb193 G
    refine xO 3 hb193 J rfl fun U J => ?_
    refine x_pickf' hb193 J (fun U J => ?_) rfl
    refine x_m J rfl fun U J => ?_
    refine wn (hK192 _ _ ?_)
    refine wp_ret ?_
    replace X := X.drop 0 |>.drop 0
    cases G
    refine hQ _ _ ?_
    refine lv Tryd.results5 J rfl ?_
    exact ⟨Z177, wz178, rfl, (Sub.trans (Sub.trans (Sub.trans (Sub.trans (Sub.trans h106 sb140) h138) sb1161) h164) h182), X⟩
   obtain ⟨t194, hl194, G⟩ := bnd G
   have hx194_0 : ∀ (l195 : (List Int)) (b194 : Bool), (l195, b194) = t194 → ∀ (U : Act) (w : World), FR 126 [] U [(7, .slice B119 m120 d121), (8, .slice B135 m136 d137), (11, .bool b194)] → SH r (own (kI .u8) 5 B135 m136 d137 l195 :: zone Z133 wz134 :: L) w → Kx151 U w := by
    intro l195 b194 ht U w J X
    subst ht
    replace G : law07_SegmentTurned_x1_0 y117 l195 b194 = some y := G
    unfold law07_SegmentTurned_x1_0 at G
    exact hb1 l195 b194 G U w (J.sub _ rfl) X
   refine wp_loop_fn hl194 (fun s U w => FR 126 [] U [(2, .int .u32 a2), (7, .slice B119 m120 d121), (8, .slice B135 m136 d137), (10, .int .i64 x146), (11, .bool s.2.1), (12, .int .i64 s.2.2)] ∧ SH r (own (kI .u8) 5 B135 m136 d137 s.1 :: zone Z133 wz134 :: L) w) ⟨J.sub _ rfl, X⟩ ?_
   intro N194 s194 o194 G N194_ T194_ U w hLab
   obtain ⟨l196, b197, x198⟩ := s194
   replace G : law07_SegmentTurned_l1 a2 x146 l196 b197 x198 = some o194 := G
   unfold law07_SegmentTurned_l1 at G
   try dsimp only at hLab
   obtain ⟨J, X⟩ := hLab
   refine wp_seq_k fun K199 hK199 => ?_
   refine wp_seq_k fun K200 hK200 => ?_
   have hj3 : ∀ (b201 : Bool), law07_SegmentTurned_j3 a2 x146 l196 b197 x198 b201 = some o194 → ∀ (U : Act) (w : World), FR 126 [] U [(2, .int .u32 a2), (7, .slice B119 m120 d121), (8, .slice B135 m136 d137), (10, .int .i64 x146), (11, .bool b197), (12, .int .i64 x198), (56, .bool b201)] → SH r (own (kI .u8) 5 B135 m136 d137 l196 :: zone Z133 wz134 :: L) w → K200 U w := by
    intro b201 G U w J X
    unfold law07_SegmentTurned_j3 at G
    refine hK200 _ _ ?_
    refine c_if J rfl (fun hb202 => ?_) fun hb202 => ?_
    ·replace G := ift hb202 G
     refine wp_skip ?_
     refine hK199 _ _ ?_
     refine wp_seq_k fun K203 hK203 => ?_
     refine wp_block_k fun Kx204 hKx204 => ?_
     have hb2 : ∀ (l205 : (List Int)) (b206 : Bool), law07_SegmentTurned_b2 x198 l205 b206 = some o194 → ∀ (U : Act) (w : World), FR 126 [] U [(2, .int .u32 a2), (7, .slice B119 m120 d121), (8, .slice B135 m136 d137), (10, .int .i64 x146), (11, .bool b206), (12, .int .i64 x198)] → SH r (own (kI .u8) 5 B135 m136 d137 l205 :: zone Z133 wz134 :: L) w → Kx204 U w := by
      intro l205 b206 G U w J X
      unfold law07_SegmentTurned_b2 at G
      refine hKx204 _ _ ?_
      refine hK203 _ _ ?_
      refine wp_reg ?_
      refine x_m J rfl fun U J => ?_
      obtain ⟨x207, h208, G⟩ := ltt_ G
      refine x_v (v := .int .i64 x207) J (rv_i h208 (r_add rfl (J.ev rfl) (J.ev rfl))) rfl fun U J => ?_
      refine x_m J rfl fun U J => ?_
      refine wpList_nil ?_
      cases G
      exact ⟨_, N194_ _ rfl, J.sub _ rfl, X⟩
     refine ws fun K209 hK209 => ?_
     refine x_m J rfl fun U J => ?_
     refine x_m J rfl fun U J => ?_
     obtain ⟨h210, G⟩ := chk_some G
     obtain ⟨x211, h212, G⟩ := ltt_ G
     refine x_v (v := .int .u32 x211) J (rv_i h212 (r_shr rfl (J.ev rfl) (J.ev rfl) h210)) rfl fun U J => ?_
     obtain ⟨x213, h214, G⟩ := ltt_ G
     refine x_v (v := .int .u32 x213) J (rv_i h214 (r_and rfl (J.ev rfl) (J.ev rfl))) rfl fun U J => ?_
     refine x_v J (r_eqI rfl (J.ev rfl) (J.ev rfl)) rfl fun U J => ?_
     refine wn (hK209 _ _ ?_)
     refine c_if J rfl (fun hb215 => ?_) fun hb215 => ?_
     ·replace G := ift hb215 G
      refine wp_seq_k fun K216 hK216 => ?_
      refine wp_draw [0, 0, 0, 6, 14, 0, 0, 0, 192, 448, 992, 2016, 0, 0, 12288, 28672, 61440, 131040, 262143, 524287] [19] rfl J X (by kernel_rfl) (by kernel_rfl) (by kernel_rfl) (by kernel_rfl) fun w X => ?_
      obtain ⟨x217, h218, G⟩ := ltt_ G
      obtain ⟨x219, h220, G⟩ := ltt_ G
      obtain ⟨x221, h222, G⟩ := bnd G
      obtain ⟨cs, hV, hc223⟩ := el (X.rd 0 rfl) h222
      obtain rfl := hV
      obtain ⟨x224, h225, G⟩ := ltt_ G
      obtain ⟨h226, G⟩ := chk_some G
      obtain ⟨x227, h228, G⟩ := ltt_ G
      obtain ⟨x229, h230, G⟩ := ltt_ G
      refine ⟨[(0, .slice B135 m136 d137), (1, .int .i64 x146), (2, .int .i64 x198), (3, .int .i64 x217), (4, .int .i64 x219), (5, .slice B135 m136 d137), (6, .int .i64 x146), (7, .int .i64 x198), (8, .int .i64 x217), (9, .int .i64 x219), (10, .pointer (some (ea B135 (x219.toNat * 1)))), (11, .int .u8 x221), (12, .int .i64 x146), (13, .int .i64 x198), (14, .int .i64 x217), (15, .int .i64 x224), (16, .int .u8 x227), (17, .int .u8 x229), (18, .pointer (some (ea B135 (x219.toNat * 1))))], ?_⟩
      refine dF [0, 1, 2, 3, 4, 5, 6, 7, 8, 9, 10, 11, 12, 13, 14, 15, 16, 17, 18] [19] (by kernel_rfl) ⟨pm rfl, pm rfl, pm rfl, pt [(65, .int .i64 x146), (66, .int .i64 x198)] rfl (fun U J => (rv_i h218 (r_add rfl (J.ev rfl) (J.ev rfl)) : RunV _ _ _ _ (.int .i64 x217))), pt [(67, .int .i64 x217)] rfl (fun U J => (rv_i h220 (r_quo rfl (J.ev rfl) (J.ev rfl) (by decide)) : RunV _ _ _ _ (.int .i64 x219))), pm rfl, pm rfl, pm rfl, pt [(70, .int .i64 x146), (71, .int .i64 x198)] rfl (fun U J => (rv_i h218 (r_add rfl (J.ev rfl) (J.ev rfl)) : RunV _ _ _ _ (.int .i64 x217))), pt [(72, .int .i64 x217)] rfl (fun U J => (rv_i h220 (r_quo rfl (J.ev rfl) (J.ev rfl) (by decide)) : RunV _ _ _ _ (.int .i64 x219))), pt [(69, .slice B135 m136 d137), (73, .int .i64 x219)] rfl (fun U J => y_ia uu24 sz5 (X.rd 0 rfl) h222 J rfl rfl rfl), pt [(74, .pointer (some (ea B135 (x219.toNat * 1))))] rfl (fun U J => y_ld uu5 (hc223 0 _ rfl) J rfl rfl rfl), pm rfl, pm rfl, pt [(76, .int .i64 x146), (77, .int .i64 x198)] rfl (fun U J => (rv_i h218 (r_add rfl (J.ev rfl) (J.ev rfl)) : RunV _ _ _ _ (.int .i64 x217))), pt [(78, .int .i64 x217)] rfl (fun U J => (rv_i h225 (r_rem rfl (J.ev rfl) (J.ev rfl) (by decide)) : RunV _ _ _ _ (.int .i64 x224))), pt [(79, .int .i64 x224)] rfl (fun U J => (rv_i h228 (r_shl rfl (J.ev rfl) (J.ev rfl) h226) : RunV _ _ _ _ (.int .u8 x227))), pt [(75, .int .u8 x221), (80, .int .u8 x227)] rfl (fun U J => (rv_i h230 (r_xor rfl (J.ev rfl) (J.ev rfl)) : RunV _ _ _ _ (.int .u8 x229))), pt [(64, .slice B135 m136 d137), (68, .int .i64 x219)] rfl (fun U J => y_ia uu24 sz5 (X.rd 0 rfl) h222 J rfl rfl rfl), trivial⟩ ⟨et [(81, .int .u8 x229), (82, .pointer (some (ea B135 (x219.toNat * 1))))] rfl (fun U J K hK => ?_), trivial⟩
      refine z_sto (z' := x229) (off := 0) (vs := [.int .u8 x229]) 0 sz5 J X rfl (at_some h222).2.2 (fun c h => by cases h; rfl) (fun  w X => ?_) rfl rfl rfl rfl rfl rfl
      refine hK _ [] _ rfl ?_
      refine dEnd [] (by kernel_rfl) trivial ⟨by kernel_rfl, by kernel_rfl⟩ [(2, .int .u32 a2), (7, .slice B119 m120 d121), (8, .slice B135 m136 d137), (10, .int .i64 x146), (12, .int .i64 x198)] rfl (fun U J => ?_)
      refine hK216 _ _ ?_
      refine wp_reg ?_
      refine x_m J rfl fun U J => ?_
      refine wpList_nil ?_
      exact hb2 (l196.set x219.toNat x229) true G U w (J.sub _ rfl) X
     replace G := iff' hb215 G
     refine wp_skip ?_
     exact hb2 l196 b197 G U w (J.sub _ rfl) X
    replace G := iff' hb202 G
    refine wp_exit ?_
    cases G
    exact hx194_0 l196 b197 (T194_ _ rfl) U w (J.sub _ rfl) X
   refine wp_reg ?_
   refine x_m J rfl fun U J => ?_
   refine x_v J (r_ltI rfl (J.ev rfl) (J.ev rfl)) rfl fun U J => ?_
   refine x_m J rfl fun U J => ?_
   refine bcase (b := decide (x198 < 32)) (fun hb231 => ?_) fun hb231 => ?_
   ·replace G := ift hb231 G
    refine x_on' hb231 J ?_ rfl
    refine x_m J rfl fun U J => ?_
    refine x_on' hb231 J ?_ rfl
    refine x_m J rfl fun U J => ?_
    refine x_on' hb231 J ?_ rfl
    obtain ⟨x232, h233, G⟩ := ltt_ G
    refine x_v (v := .int .i64 x232) J (rv_i h233 (r_add rfl (J.ev rfl) (J.ev rfl))) rfl fun U J => ?_
    refine x_on' hb231 J ?_ rfl
    refine x_m J rfl fun U J => ?_
    refine x_on' hb231 J ?_ rfl
    refine x_len' uu24 (X.rd 0 rfl).2.1 J (fun U J => ?_) rfl
    refine x_on' hb231 J ?_ rfl
    obtain ⟨x234, h235, G⟩ := ltt_ G
    refine x_v (v := .int .i64 x234) J (rv_i h235 (r_mul rfl (J.ev rfl) (J.ev rfl))) rfl fun U J => ?_
    refine x_on' hb231 J ?_ rfl
    refine x_v J (r_ltI rfl (J.ev rfl) (J.ev rfl)) rfl fun U J => ?_
    refine x_pickt' hb231 J (fun U J => ?_) rfl
    refine wpList_nil ?_
    exact hj3 (decide (x232 < x234)) G U w (J.sub _ rfl) X
   replace G := iff' hb231 G
   refine xO 7 hb231 J rfl fun U J => ?_
   refine x_pickf' hb231 J (fun U J => ?_) rfl
   refine wpList_nil ?_
   exact hj3 false G U w (J.sub _ rfl) X
  refine wp_reg ?_
  refine x_m J rfl fun U J => ?_
  refine x_len' uu22 (X.rd 0 rfl).2.1 J (fun U J => ?_) rfl
  refine x_v J (r_eqI rfl (J.ev rfl) (J.ev rfl)) rfl fun U J => ?_
  refine x_m J rfl fun U J => ?_
  refine bcase (b := (y117.length : Int) == 0) (fun hb236 => ?_) fun hb236 => ?_
  ·replace G := ift hb236 G
   refine xO 2 hb236 J rfl fun U J => ?_
   refine x_pickt' hb236 J (fun U J => ?_) rfl
   refine wpList_nil ?_
   exact hj2 true G U w (J.sub _ rfl) X
  replace G := iff' hb236 G
  refine x_on' hb236 J ?_ rfl
  refine x_m J rfl fun U J => ?_
  refine x_on' hb236 J ?_ rfl
  refine x_v J (r_eqI rfl (J.ev rfl) (J.ev rfl)) rfl fun U J => ?_
  refine x_pickf' hb236 J (fun U J => ?_) rfl
  refine wpList_nil ?_
  exact hj2 (a2 == 0) G U w (J.sub _ rfl) X
 refine wp_reg ?_
 obtain ⟨y237, h238, G⟩ := bnd G
 refine x_call' en10 J (F_law07_awake (L := L) h238 hG0 X) (fun v U w hR J => ?_) rfl
 obtain ⟨Z239, wz240, rfl, h241, X⟩ := hR
 have h242 := Imm.sub ha0 h241
 refine x_v J (r_not rfl (J.ev rfl)) rfl fun U J => ?_
 refine x_m J rfl fun U J => ?_
 refine bcase (b := !y237) (fun hb243 => ?_) fun hb243 => ?_
 ·replace G := ift hb243 G
  refine xO 3 hb243 J rfl fun U J => ?_
  refine x_pickt' hb243 J (fun U J => ?_) rfl
  refine wpList_nil ?_
  exact hj1 true G Z239 wz240 h241 h242 U w (J.sub _ rfl) X
 replace G := iff' hb243 G
 refine x_on' hb243 J ?_ rfl
 refine x_m J rfl fun U J => ?_
 refine x_on' hb243 J ?_ rfl
 refine x_len' uu22 (X.imm 0 h242 rfl).2.1 J (fun U J => ?_) rfl
 refine x_on' hb243 J ?_ rfl
 refine x_v J (r_gtI rfl (J.ev rfl) (J.ev rfl)) rfl fun U J => ?_
 refine x_pickf' hb243 J (fun U J => ?_) rfl
 refine wpList_nil ?_
 exact hj1 (decide (100 < (a0.length : Int))) G Z239 wz240 h241 h242 U w (J.sub _ rfl) X
end Go.Proofs.YteodeedejjcmgaaDoor.M
namespace Go.Proofs.YteodeedejjcmgaaDoor.segmentTurned
open Go Go.RowKit Go.ChangeShapes Go.WideShapes Go.ChangeAt Go.Proofs.YteodeedejjcmgaaDoor.E Go.Proofs.YteodeedejjcmgaaDoor.M
set_option linter.unusedVariables false
theorem own : ownKnob Tryd.prog.godebug = none := by kernel_rfl
theorem laidOut : laidOutB Tryd.prog = true := by kernel_rfl
theorem gN : Tryd.prog.globalNamed "headrace/page.table" = some 0 := by kernel_rfl
theorem gT : (Tryd.prog.globals[0]?).map (·.type) = some 130 := by kernel_rfl
theorem door_met (os : Os) (args : Array Value) : laidMetH Tryd.prog Rows.segmentTurnedRow.laid ((World.doorLaid Tryd.prog 400 os).forCall (fun _ _ => 0) ⟨#[], args, []⟩).memory :=
  laidMetH_of_parts3 (fuel := 8) (laidMet_of_run' 8 (by kernel_rfl) (by kernel_rfl)) (by kernel_rfl) (by kernel_rfl)
theorem of_laid {W : World} (h : laidMetH Tryd.prog Rows.segmentTurnedRow.laid W) : Imm (HeapZ W) W (kI .u32) (some ⟨0, 0, none⟩) 16 16 M.gl_page_table := by
  rw [MakeChecks.laidMetH_plain _ _ _ (by kernel_rfl)] at h
  exact tab_imm gN gT Tryd.underlying130 Tryd.underlying48 ce48 rfl (by decide) h
def Pure : Prop := ∀ (a0 : (List M.S44)) (a1 : Int) (a2 : Int), (gL 48 M.g44) a0 → (gI .u32) a1 → (gI .u32) a2 → M.law07_SegmentTurned a0 a1 a2 = some true
set_option maxRecDepth 100000 in
theorem lifted (hP : Pure) (os : Os) (started : os.Started) (H : Type) (enc : TypeId × Value → H) :
    ReturnsInHanded {} Tryd.checked os 5 .any (fun w args => (Rows.segmentTurnedSpec.pre enc Tryd.prog Tryd.f5 [] false w args ∧ laidMetH Tryd.prog Rows.segmentTurnedRow.laid w) ∧ sizedMet enc Tryd.prog Tryd.f5 (OpenSpec.ofChange Rows.segmentTurnedSpec) false w args)
      (Rows.segmentTurnedSpec.post enc Tryd.prog Tryd.f5 false true false false) := by
  refine returnsInHanded_of_change_and (C := Tryd.checked) (X := fun w _ => laidMetH Tryd.prog Rows.segmentTurnedRow.laid w) (fun _ _ _ hh h => h.of_heap hh) own started (by kernel_rfl) Tryd.func5
    (ChangeSpec.witness_shaped (enc := enc) (C := Tryd.checked) (os := os) (X := fun w _ => laidMetH Tryd.prog Rows.segmentTurnedRow.laid w) false (World.doorLaid Tryd.prog 400 os) #[.slice none 0 0, .int .u32 0, .int .u32 0] 8 rfl (World.shaped_of_RefB (by kernel_rfl) (by kernel_rfl)) (by kernel_rfl) (by kernel_rfl) (by kernel_rfl) (door_met os _)) ?_
  intro W base args ds gs before hval0 hW hcnd hsz0 hL _
  have hsz : (DataW.weightsEach Tryd.prog (Tryd.f5.params.toList ++ Rows.segmentTurnedSpec.plain.varTypes Tryd.prog) (ds ++ gs)).all (· ≤ reachBytes) = true := hsz0
  have hval : ∀ (j : Nat) t v, Tryd.f5.params[j]? = some t → args[j]? = some v → Value.okWide Tryd.prog W .any base t v := hval0
  have hW' := hW
  obtain ⟨p, q, hA0, hV, rfl, hfz, hnd⟩ := hW
  have hA : DataW.TrodAll enc Tryd.prog W 0 (fun _ => true) true Tryd.f5.params.toList args.toList ds p := hA0
  rw [Tryd.params5] at hA hval hsz
  obtain ⟨v0, vs0, d0, ds0, p0, q0, hargs, rfl, rfl, h0, r0⟩ := trodAll_cons hA
  obtain ⟨v1, vs1, d1, ds1, p1, q1, rfl, rfl, rfl, h1, r1⟩ := trodAll_cons r0
  obtain ⟨v2, vs2, d2, ds2, p2, q2, rfl, rfl, rfl, h2, r2⟩ := trodAll_cons r1
  obtain ⟨rfl, rfl, rfl⟩ := trodAll_nil r2
  obtain rfl : args = #[v0, v1, v2] := by cases args; simp_all
  obtain ⟨rfl, rfl⟩ := trodVars_none hV
  have k0 := h0
  have lt0 : ∀ x ∈ p0, x.block < W.heap.size := by obtain ⟨m, hm⟩ := k0; exact DataW.trod_lt m _ _ _ hm
  obtain ⟨x0, hx0, g0⟩ := Opens.arg (opSl Tryd.underlying22 ce44 (Nat.succ_pos _) by44 op44) h0 (Wt.of hsz (j := 0) rfl rfl)
  obtain ⟨A0, n0, c0, rfl⟩ := okWide_slice Tryd.underlying22 (hval 0 22 v0 rfl rfl)
  obtain ⟨A0', n0', c0', he0, i0⟩ := hx0
  cases (show [Value.slice A0 n0 c0] = [Value.slice A0' n0' c0'] from he0)
  have k1 := h1
  have lt1 : ∀ x ∈ p1, x.block < W.heap.size := by obtain ⟨m, hm⟩ := k1; exact DataW.trod_lt m _ _ _ hm
  obtain ⟨x1, hx1, g1⟩ := Opens.arg (opI Tryd.underlying48) h1 (Wt.of hsz (j := 1) rfl rfl)
  obtain ⟨u1, rfl⟩ := okWide_int Tryd.underlying48 (hval 1 48 v1 rfl rfl)
  cases (show [Value.int .u32 u1] = [Value.int .u32 x1] from hx1)
  have k2 := h2
  have lt2 : ∀ x ∈ p2, x.block < W.heap.size := by obtain ⟨m, hm⟩ := k2; exact DataW.trod_lt m _ _ _ hm
  obtain ⟨x2, hx2, g2⟩ := Opens.arg (opI Tryd.underlying48) h2 (Wt.of hsz (j := 2) rfl rfl)
  obtain ⟨u2, rfl⟩ := okWide_int Tryd.underlying48 (hval 2 48 v2 rfl rfl)
  cases (show [Value.int .u32 u2] = [Value.int .u32 x2] from hx2)
  clear hA0 hval0 hsz0 hsz
  refine Calls.mono (M.F_law07_SegmentTurned (Z := HeapZ W) (wz := W) x0 x1 x2 A0 n0 c0 (hP x0 x1 x2 g0 g1 g2) i0 (of_laid hL) (L := []) (SH.start W)) ?_
  rintro e W' ⟨v, rfl, Z', wz', rfl, hs, hS⟩
  have bel := SH.below hS hs
  exact ⟨_, rfl, _, _, _, [], _, [], hW', trodAll_mk1 (shut_bool Tryd.underlying4 _), (trodAll_cons_mk (Below.trod laidOut (by kernel_rfl) (of_decide_eq_true (by kernel_rfl)) k0 bel lt0) (trodAll_cons_mk (Below.trod laidOut (by kernel_rfl) (of_decide_eq_true (by kernel_rfl)) k1 bel lt1) (trodAll_cons_mk (Below.trod laidOut (by kernel_rfl) (of_decide_eq_true (by kernel_rfl)) k2 bel lt2) trodAll_mk0))), rfl, bel.frame _, fun h => by cases h⟩
theorem over (hP : Pure) : Rows.segmentTurnedRow.holds Tryd.pinned (OpenSpec.ofChange Rows.segmentTurnedSpec) :=
  OpenClaim.holds_of_wide 5 Tryd.f5 rfl rfl rfl rfl rfl rfl rfl ⟨rfl, rfl, rfl, rfl, rfl⟩ rfl rfl rfl rfl rfl (by kernel_rfl) Tryd.func5 (by kernel_rfl)
    (of_decide_eq_true (by kernel_rfl)) (by unfold Func.isWrapper; first | (rw [if_pos (by decide +kernel)]; kernel_rfl) | (rw [if_neg (by decide +kernel)]; exact ⟨rfl, rfl⟩))
    (fun os started H enc _ => lifted hP os started H enc)
def hrn : Bool × String := Rows.segmentTurnedCard.stood.harness
theorem card (hP : Pure) : Rows.SegmentTurnedCardSaid :=
  Claim7.holds_tied_plain_at .later [] [.data] true hrn true
    (over hP) (fun _ h => by cases h) (by kernel_rfl) (fun _ h => by cases h) segmentTurned_row_tie rfl ⟨rfl, rfl⟩ (by kernel_rfl) rfl
    (fun f fn hf hfn => by
      obtain rfl : f = 5 := Option.some.inj ((show Tryd.prog.funcNamed "headrace/headracelaw07.SegmentTurned" = some 5 by kernel_rfl).symm.trans hf) |>.symm
      obtain rfl : fn = Tryd.f5 := (Option.some.inj (Tryd.func5.symm.trans hfn)).symm
      exact ⟨by kernel_rfl, fun j t ht => by
        rw [Tryd.params5] at ht
        have hm : t ∈ [22, 48, 48] := by simpa using Array.mem_of_getElem? ht
        have hall : ([22, 48, 48].all fun u => !Tryd.prog.wantsStandIn u) = true := by kernel_rfl
        exact (show Tryd.prog.wantsStandIn t = false by simpa using List.all_eq_true.1 hall t hm)⟩)
    (by kernel_rfl)
end Go.Proofs.YteodeedejjcmgaaDoor.segmentTurned
namespace Go.Proofs.YteodeedejjcmgaaDoor.P
open Go Go.RowKit Go.Proofs.YteodeedejjcmgaaDoor.E Go.Proofs.YteodeedejjcmgaaDoor.M
set_option linter.unusedVariables false
set_option linter.unusedSectionVars false
theorem at_nat {α : Type} (xs : List α) (n : Nat) : at_ xs (n : Int) = xs[n]? := by simp [at_]
theorem at_int {α : Type} {xs : List α} {i : Int} {n : Nat} {x : α} (hi : i = n) (h : xs[n]? = some x) : at_ xs i = some x := by subst hi; rw [at_nat, h]
theorem cut_nat {α : Type} {xs : List α} {l u : Nat} (h : l ≤ u) (hu : u ≤ xs.length) : cut_ xs (l : Int) (u : Int) = some ((xs.take u).drop l) := by
 unfold cut_; rw [if_pos (by omega)]; simp
theorem chk_pos {α : Type} {p : Prop} [Decidable p] {x : Option α} (h : p) : chk p x = x := if_pos h
theorem w64 {n : Int} (h : -9223372036854775808 ≤ n) (h' : n ≤ 9223372036854775807) : IntKind.i64.wrap n = n := IntWalk.i64_in n ⟨h, h'⟩
theorem u64w {n : Int} (h : 0 ≤ n) (h' : n < 18446744073709551616) : IntKind.u64.wrap n = n := IntWalk.u64_in n ⟨h, by omega⟩
theorem u8w {n : Int} (h : 0 ≤ n) (h' : n < 256) : IntKind.u8.wrap n = n := IntWalk.u8_in n ⟨h, by omega⟩
theorem lt_ {α β : Type} (e : α) (f : α → Option β) : ltt e f = f e := rfl
theorem loop_at {σ τ : Type} {b : σ → Option (σ ⊕ τ)} (f : Nat → σ) {t : τ} : ∀ (n : Nat) (i : Nat), (∀ k, i ≤ k → k < i + n → b (f k) = some (.inl (f (k + 1)))) → b (f (i + n)) = some (.inr t) → loop b (f i) = some t
 | 0, i, _, he => loop_end he
 | n + 1, i, hs, he => (loop_nxt (hs i (Nat.le_refl _) (by omega))).trans (loop_at f n (i + 1) (fun k h1 h2 => hs k (by omega) (by omega)) (by rw [show i + 1 + n = i + (n + 1) by omega]; exact he))
theorem loop_to {σ τ : Type} {b : σ → Option (σ ⊕ τ)} (f : Nat → σ) {t : τ} (n : Nat) (hs : ∀ k, k < n → b (f k) = some (.inl (f (k + 1)))) (he : b (f n) = some (.inr t)) : loop b (f 0) = some t :=
 loop_at f n 0 (fun k _ h => hs k (by omega)) (by simpa using he)
theorem ofInt_nat (n a : Nat) : BitVec.ofInt n (a : Int) = BitVec.ofNat n a := BitVec.ofInt_natCast n a
theorem u64_nat (a : Nat) : IntKind.u64.wrap (a : Int) = ((a % 18446744073709551616 : Nat) : Int) := by
 rw [IntKind.wrap_u64]; omega
theorem u8_nat (a : Nat) : IntKind.u8.wrap (a : Int) = ((a % 256 : Nat) : Int) := by rw [IntKind.wrap_u8]; omega
theorem iand_u64 {a b : Nat} (ha : a < 18446744073709551616) (hb : b < 18446744073709551616) : iand .u64 (a : Int) (b : Int) = ((a &&& b : Nat) : Int) := by
 unfold iand
 rw [ofInt_nat, ofInt_nat, u64_nat]
 have h : a &&& b < 18446744073709551616 := Nat.lt_of_le_of_lt Nat.and_le_left ha
 simp only [BitVec.toNat_and, BitVec.toNat_ofNat, show IntKind.u64.bits = 64 from rfl]
 rw [Nat.mod_eq_of_lt (show a < 2 ^ 64 by omega), Nat.mod_eq_of_lt (show b < 2 ^ 64 by omega), Nat.mod_eq_of_lt h]
theorem iand_u8 {a b : Nat} (ha : a < 256) (hb : b < 256) : iand .u8 (a : Int) (b : Int) = ((a &&& b : Nat) : Int) := by
 unfold iand
 rw [ofInt_nat, ofInt_nat, u8_nat]
 have h : a &&& b < 256 := Nat.lt_of_le_of_lt Nat.and_le_left ha
 simp only [BitVec.toNat_and, BitVec.toNat_ofNat, show IntKind.u8.bits = 8 from rfl]
 rw [Nat.mod_eq_of_lt (show a < 2 ^ 8 by omega), Nat.mod_eq_of_lt (show b < 2 ^ 8 by omega), Nat.mod_eq_of_lt h]
theorem ior_u64 {a b : Nat} (ha : a < 18446744073709551616) (hb : b < 18446744073709551616) : ior .u64 (a : Int) (b : Int) = ((a ||| b : Nat) : Int) := by
 unfold ior
 rw [ofInt_nat, ofInt_nat, u64_nat]
 have h : a ||| b < 2 ^ 64 := Nat.or_lt_two_pow (show a < 2 ^ 64 by omega) (show b < 2 ^ 64 by omega)
 simp only [BitVec.toNat_or, BitVec.toNat_ofNat, show IntKind.u64.bits = 64 from rfl]
 rw [Nat.mod_eq_of_lt (show a < 2 ^ 64 by omega), Nat.mod_eq_of_lt (show b < 2 ^ 64 by omega), Nat.mod_eq_of_lt (show a ||| b < 18446744073709551616 from h)]
theorem ior_u8 {a b : Nat} (ha : a < 256) (hb : b < 256) : ior .u8 (a : Int) (b : Int) = ((a ||| b : Nat) : Int) := by
 unfold ior
 rw [ofInt_nat, ofInt_nat, u8_nat]
 have h : a ||| b < 2 ^ 8 := Nat.or_lt_two_pow (show a < 2 ^ 8 by omega) (show b < 2 ^ 8 by omega)
 simp only [BitVec.toNat_or, BitVec.toNat_ofNat, show IntKind.u8.bits = 8 from rfl]
 rw [Nat.mod_eq_of_lt (show a < 2 ^ 8 by omega), Nat.mod_eq_of_lt (show b < 2 ^ 8 by omega), Nat.mod_eq_of_lt (show a ||| b < 256 from h)]
theorem ixor_u64 {a b : Nat} (ha : a < 18446744073709551616) (hb : b < 18446744073709551616) : ixor .u64 (a : Int) (b : Int) = ((a ^^^ b : Nat) : Int) := by
 unfold ixor
 rw [ofInt_nat, ofInt_nat, u64_nat]
 have h : a ^^^ b < 2 ^ 64 := Nat.xor_lt_two_pow (show a < 2 ^ 64 by omega) (show b < 2 ^ 64 by omega)
 simp only [BitVec.toNat_xor, BitVec.toNat_ofNat, show IntKind.u64.bits = 64 from rfl]
 rw [Nat.mod_eq_of_lt (show a < 2 ^ 64 by omega), Nat.mod_eq_of_lt (show b < 2 ^ 64 by omega), Nat.mod_eq_of_lt (show a ^^^ b < 18446744073709551616 from h)]
theorem two_pow (n : Nat) : (2 : Int) ^ n = ((2 ^ n : Nat) : Int) := (Int.natCast_pow 2 n).symm
theorem ishr_nat {k : IntKind} (a n : Nat) (h : n ≤ k.bits) : ishr k (a : Int) (n : Int) = ((a / 2 ^ n : Nat) : Int) := by
 unfold ishr
 rw [Int.toNat_natCast, Nat.min_eq_left h, two_pow, Int.fdiv_eq_ediv_of_nonneg _ (Int.natCast_nonneg _)]
 rfl
theorem ishl_u64 (a n : Nat) (h : n ≤ 64) : ishl .u64 (a : Int) (n : Int) = ((a * 2 ^ n % 18446744073709551616 : Nat) : Int) := by
 unfold ishl
 rw [Int.toNat_natCast, show min n IntKind.u64.bits = n from Nat.min_eq_left h, two_pow, ← Int.natCast_mul, u64_nat]
theorem ishl_u8 (a n : Nat) (h : n ≤ 8) : ishl .u8 (a : Int) (n : Int) = ((a * 2 ^ n % 256 : Nat) : Int) := by
 unfold ishl
 rw [Int.toNat_natCast, show min n IntKind.u8.bits = n from Nat.min_eq_left h, two_pow, ← Int.natCast_mul, u8_nat]
theorem or_top {a n : Nat} (h : a < 2 ^ n) (b : Nat) : a ||| (b * 2 ^ n) = a + b * 2 ^ n := by
 rw [Nat.or_comm, Nat.mul_comm, ← Nat.two_pow_add_eq_or_of_lt h, Nat.add_comm]
def uv (n : Nat) : List Int := if h : n < 128 then [(n : Int)] else ((n % 128 + 128 : Nat) : Int) :: uv (n / 128)
termination_by n
decreasing_by omega
theorem uv_small {n : Nat} (h : n < 128) : uv n = [(n : Int)] := by rw [uv, dif_pos h]
theorem uv_large {n : Nat} (h : ¬ n < 128) : uv n = ((n % 128 + 128 : Nat) : Int) :: uv (n / 128) := by rw [uv, dif_neg h]
theorem uv_length : ∀ (k n : Nat), n < 128 ^ (k + 1) → (uv n).length ≤ k + 1
 | 0, n, h => by rw [uv_small (by simpa using h)]; simp
 | k + 1, n, h => by
  by_cases hn : n < 128
  ·rw [uv_small hn]; simp
  ·rw [uv_large hn, List.length_cons]
   have := uv_length k (n / 128) (by rw [Nat.pow_succ] at h; exact Nat.div_lt_of_lt_mul (by rw [Nat.mul_comm]; exact h))
   omega
theorem uv_length64 {n : Nat} (h : n < 18446744073709551616) : (uv n).length ≤ 10 := uv_length 9 n (by omega)
set_option maxRecDepth 100000 in
theorem or_128 : ∀ m : Fin 256, (m.val ||| 128) = m.val % 128 + 128 := by decide
theorem Uint_app (n : Nat) : ∀ (a0 : List Int), n < 18446744073709551616 → a0.length + (uv n).length ≤ 140737488355328 → column_Uint a0 (n : Int) = some (a0 ++ uv n) := by
 induction n using Nat.strongRecOn with
 | _ n ih =>
  intro a0 h hl
  unfold column_Uint
  by_cases hn : n < 128
  ·rw [loop_end (t := (a0, (n : Int))) (by
    show column_Uint_l1 a0 (n : Int) = _
    unfold column_Uint_l1
    rw [if_neg (by simp only [decide_eq_true_eq]; omega)])]
   simp only [Option.bind_some]
   unfold column_Uint_x1_0 column_Uint_b1
   rw [uv_small hn] at hl ⊢
   rw [lt_, u8w (by omega) (by omega), chk_pos (by simpa using hl)]
  ·have hl' := hl
   rw [uv_large hn, List.length_cons] at hl'
   have e1 : IntKind.u8.wrap (n : Int) = ((n % 256 : Nat) : Int) := u8_nat n
   have e2 : ior .u8 ((n % 256 : Nat) : Int) 128 = ((n % 128 + 128 : Nat) : Int) := by
    have := ior_u8 (a := n % 256) (b := 128) (by omega) (by omega)
    rw [show ((128 : Nat) : Int) = 128 from rfl] at this
    rw [this, or_128 ⟨n % 256, by omega⟩]
    simp only
    omega
   have e3 : ishr .u64 (n : Int) 7 = ((n / 128 : Nat) : Int) := ishr_nat (k := .u64) n 7 (by decide)
   rw [loop_nxt (s' := (a0 ++ [((n % 128 + 128 : Nat) : Int)], ((n / 128 : Nat) : Int))) (by
    show column_Uint_l1 a0 (n : Int) = _
    unfold column_Uint_l1
    rw [if_pos (by simp only [decide_eq_true_eq]; omega), lt_, e1, lt_, e2, chk_pos (by simp; omega), lt_, e3])]
   have := ih (n / 128) (by omega) (a0 ++ [((n % 128 + 128 : Nat) : Int)]) (by omega) (by simp; omega)
   unfold column_Uint at this
   rw [this, uv_large hn]
   simp
def zz (i : Int) : Nat := if i < 0 then (-(i + 1)).toNat * 2 + 1 else i.toNat * 2
def uz (n : Nat) : Int := if n % 2 = 1 then -((n / 2 : Nat) : Int) - 1 else ((n / 2 : Nat) : Int)
theorem uz_zz (i : Int) : uz (zz i) = i := by unfold uz zz; split <;> split <;> omega
def i64 (i : Int) : Prop := -9223372036854775808 ≤ i ∧ i ≤ 9223372036854775807
theorem zz_lt {i : Int} (h : i64 i) : zz i < 18446744073709551616 := by
 unfold i64 at h
 unfold zz; split <;> omega
theorem i64_wrap (x : Int) : i64 (IntKind.i64.wrap x) := by
 rw [IntWalk.i64_left]; unfold wrap64 i64; omega
theorem xor_ones {a : Nat} (h : a < 18446744073709551616) : ixor .u64 (a : Int) 18446744073709551615 = ((18446744073709551615 - a : Nat) : Int) := by
 show IntKind.u64.wrap (((BitVec.ofInt 64 (a : Int) ^^^ BitVec.allOnes 64).toNat : Nat) : Int) = _
 rw [ofInt_nat, BitVec.xor_allOnes, u64_nat, BitVec.toNat_not, BitVec.toNat_ofNat, Nat.mod_eq_of_lt (show a < 2 ^ 64 by omega)]
 omega
theorem zz_eq {i : Int} (h : i64 i) : ixor .u64 (IntKind.u64.wrap (ishl .i64 i 1)) (IntKind.u64.wrap (ishr .i64 i 63)) = (zz i : Int) := by
 unfold i64 at h
 have e1 : ishl .i64 i 1 = IntKind.i64.wrap (i * 2) := rfl
 have e2 : ishr .i64 i 63 = if i < 0 then -1 else 0 := by
  unfold ishr
  rw [show (63 : Int).toNat = 63 from rfl, show min 63 IntKind.i64.bits = 63 from rfl, Int.fdiv_eq_ediv_of_nonneg _ (by decide)]
  split <;> omega
 rw [e1, e2]
 have e3 : IntKind.u64.wrap (IntKind.i64.wrap (i * 2)) = (i * 2) % 18446744073709551616 := by
  rw [IntKind.wrap_u64, IntWalk.i64_left]; unfold wrap64; omega
 rw [e3]
 unfold zz
 by_cases hi : i < 0
 ·rw [if_pos hi, if_pos hi, show IntKind.u64.wrap (-1) = 18446744073709551615 from rfl]
  obtain ⟨m, hm⟩ : ∃ m : Nat, (i * 2) % 18446744073709551616 = (m : Int) := ⟨((i * 2) % 18446744073709551616).toNat, by omega⟩
  rw [hm, xor_ones (by omega)]
  omega
 ·rw [if_neg hi, if_neg hi, show IntKind.u64.wrap 0 = ((0 : Nat) : Int) from rfl]
  obtain ⟨m, hm⟩ : ∃ m : Nat, (i * 2) % 18446744073709551616 = (m : Int) := ⟨((i * 2) % 18446744073709551616).toNat, by omega⟩
  rw [hm, ixor_u64 (by omega) (by omega), Nat.xor_zero]
  omega
theorem Int_app {i : Int} (h : i64 i) (a0 : List Int) (hl : a0.length + 10 ≤ 140737488355328) : column_Int a0 i = some (a0 ++ uv (zz i)) := by
 unfold column_Int
 have := uv_length64 (zz_lt h)
 simp only [lt_, zz_eq h, Uint_app _ a0 (zz_lt h) (by omega), Option.bind_some]
theorem Text_app (s : List UInt8) (a0 : List Int) (hs : s.length ≤ 9223372036854775807) (hl : a0.length + s.length + 10 ≤ 140737488355328) : column_Text a0 s = some (a0 ++ uv s.length ++ stb s) := by
 unfold column_Text
 have := uv_length64 (n := s.length) (by omega)
 rw [lt_, u64w (by omega) (by omega), Uint_app _ a0 (by omega) (by omega)]
 simp only [Option.bind_some]
 rw [chk_pos (by simp; omega)]
def Bs (xs : List Int) : Prop := ∀ b ∈ xs, 0 ≤ b ∧ b < 256
theorem Bs.nil : Bs [] := fun _ h => by cases h
theorem Bs.cons {b : Int} {xs : List Int} (h : Bs (b :: xs)) : (0 ≤ b ∧ b < 256) ∧ Bs xs := ⟨h b List.mem_cons_self, fun c hc => h c (List.mem_cons_of_mem _ hc)⟩
theorem Bs.mk {b : Int} {xs : List Int} (hb : 0 ≤ b ∧ b < 256) (h : Bs xs) : Bs (b :: xs) := fun c hc => by
 rcases List.mem_cons.1 hc with rfl | hc
 ·exact hb
 ·exact h c hc
theorem Bs.app {xs ys : List Int} (h : Bs xs) (h' : Bs ys) : Bs (xs ++ ys) := fun c hc => (List.mem_append.1 hc).elim (h c) (h' c)
theorem Bs.l {xs ys : List Int} (h : Bs (xs ++ ys)) : Bs xs := fun c hc => h c (List.mem_append.2 (.inl hc))
theorem Bs.r {xs ys : List Int} (h : Bs (xs ++ ys)) : Bs ys := fun c hc => h c (List.mem_append.2 (.inr hc))
theorem Bs.drop {xs : List Int} (h : Bs xs) (n : Nat) : Bs (xs.drop n) := fun c hc => h c (List.mem_of_mem_drop hc)
theorem Bs.take {xs : List Int} (h : Bs xs) (n : Nat) : Bs (xs.take n) := fun c hc => h c (List.mem_of_mem_take hc)
theorem Bs.uv (n : Nat) : Bs (uv n) := by
 induction n using Nat.strongRecOn with
 | _ n ih =>
  by_cases hn : n < 128
  ·rw [uv_small hn]; exact Bs.mk (by omega) Bs.nil
  ·rw [uv_large hn]; exact Bs.mk (by omega) (ih _ (by omega))
theorem Bs.stb (s : List UInt8) : Bs (stb s) := by
 intro c hc
 unfold E.stb at hc
 obtain ⟨b, _, rfl⟩ := List.mem_map.1 hc
 have := b.toNat_lt
 omega
def pB : List Int → Option (Int × List Int)
 | [] => none
 | b :: r => some (b, r)
def pV (i n : Nat) : List Int → Option (Nat × List Int)
 | [] => none
 | b :: r => if i < 9 ∨ (i = 9 ∧ b < 2) then
   (if b < 128 then (if i = 0 ∨ 0 < b then some (n + b.toNat % 128 * 2 ^ (7 * i), r) else none) else pV (i + 1) (n + b.toNat % 128 * 2 ^ (7 * i)) r)
  else none
def pU (most : Int) (xs : List Int) : Option (Int × List Int) := match pV 0 0 xs with
 | some (n, r) => if (n : Int) ≤ most then some ((n : Int), r) else none
 | none => none
def pI (xs : List Int) : Option (Int × List Int) := match pU 18446744073709551615 xs with
 | some (n, r) => some (uz n.toNat, r)
 | none => none
def pT (most : Int) (xs : List Int) : Option (List UInt8 × List Int) := match pU (IntKind.u64.wrap most) xs with
 | some (n, r) => if n ≤ (r.length : Int) then some (bts (r.take n.toNat), r.drop n.toNat) else none
 | none => none
def IsR {ρ : Type} (o : Option ((ρ × S106) ⊕ S106)) (p : Option (ρ × List Int)) : Prop :=
 match p with
 | some (a, r) => o = some (.inl (a, ⟨r⟩))
 | none => ∃ s, o = some (.inr s)
theorem IsR.cases {ρ : Type} {o : Option ((ρ × S106) ⊕ S106)} {p : Option (ρ × List Int)} (h : IsR o p) : (∃ a r, p = some (a, r) ∧ o = some (.inl (a, ⟨r⟩))) ∨ (p = none ∧ ∃ s, o = some (.inr s)) := by
 unfold IsR at h
 split at h
 ·exact .inl ⟨_, _, rfl, h⟩
 ·exact .inr ⟨rfl, h⟩
theorem s_inl {α β γ : Type} (a : α) (f : α → Option γ) (g : β → Option γ) : sum_ (.inl a) f g = f a := rfl
theorem Check_t (s : S106) : column_Reader_Check s true = some (.inl s) := rfl
theorem Check_f (s : S106) : column_Reader_Check s false = some (.inr s) := rfl
theorem Byte_is (xs : List Int) : IsR (column_Reader_Byte ⟨xs⟩) (pB xs) := by
 unfold column_Reader_Byte
 cases xs with
 | nil => exact ⟨_, rfl⟩
 | cons b r =>
  rw [show decide (0 < (((⟨b :: r⟩ : S106).f0.length : Nat) : Int)) = true by simp, Check_t]
  simp only [Option.bind_some, s_inl]
  have h1 : at_ (b :: r) 0 = some b := rfl
  have h2 : cut_ (b :: r) 1 ((b :: r).length : Int) = some r := by
   have := cut_nat (xs := b :: r) (l := 1) (u := (b :: r).length) (by simp) (Nat.le_refl _)
   rw [show ((1 : Nat) : Int) = 1 from rfl, List.take_length] at this
   exact this
  rw [h1]
  simp only [Option.bind_some]
  rw [h2]
  rfl
theorem and_127 (a : Nat) : a &&& 127 = a % 128 := Nat.and_two_pow_sub_one_eq_mod a 7
theorem pV_lt : ∀ (xs : List Int) (i n m : Nat) (r : List Int), n < 2 ^ (7 * i) → n < 18446744073709551616 → pV i n xs = some (m, r) → m < 18446744073709551616 ∧ ∃ p, xs = p ++ r ∧ 0 < p.length
 | [], i, n, m, r, _, _, h => by cases h
 | b :: xs, i, n, m, r, h1, h2, h => by
  unfold pV at h
  split at h
  ·rename_i hc
   have hlt : n + b.toNat % 128 * 2 ^ (7 * i) < 18446744073709551616 ∧ n + b.toNat % 128 * 2 ^ (7 * i) < 2 ^ (7 * (i + 1)) := by
    have hp : 2 ^ (7 * (i + 1)) = 128 * 2 ^ (7 * i) := by rw [show 7 * (i + 1) = 7 + 7 * i by omega, Nat.pow_add]
    have hm : b.toNat % 128 * 2 ^ (7 * i) ≤ 127 * 2 ^ (7 * i) := Nat.mul_le_mul_right _ (by omega)
    refine ⟨?_, by rw [hp]; omega⟩
    rcases hc with hc | ⟨hc, hb⟩
    ·have : 2 ^ (7 * i) ≤ 2 ^ 56 := Nat.pow_le_pow_right (by decide) (by omega)
     omega
    ·subst hc
     have : b.toNat % 128 * 2 ^ (7 * 9) ≤ 1 * 2 ^ (7 * 9) := Nat.mul_le_mul_right _ (by omega)
     omega
   split at h
   ·split at h
    ·cases h
     exact ⟨hlt.1, [b], rfl, by simp⟩
    ·cases h
   ·obtain ⟨q1, p, rfl, q3⟩ := pV_lt xs (i + 1) _ m r hlt.2 hlt.1 h
    exact ⟨q1, b :: p, rfl, by simp⟩
  ·cases h
theorem Uloop (most : Int) : ∀ (xs : List Int) (i n : Nat), Bs xs → i ≤ 10 → n < 2 ^ (7 * i) → n < 18446744073709551616 →
  IsR (loop (fun s : List Int × Int × Int => column_Reader_Uint_l1 most s.1 s.2.1 s.2.2) (xs, (n : Int), (i : Int))) (match pV i n xs with | some (m, r) => if (m : Int) ≤ most then some ((m : Int), r) else none | none => none)
 | [], i, n, hB, hi, h1, h2 => ⟨⟨[]⟩, loop_end rfl⟩
 | b :: xs, i, n, hB, hi, h1, h2 => by
  obtain ⟨hb, hB'⟩ := hB.cons
  generalize hpv : pV i n (b :: xs) = pv
  have hby : column_Reader_Byte ⟨b :: xs⟩ = some (.inl (b, ⟨xs⟩)) := Byte_is (b :: xs)
  obtain ⟨c, rfl⟩ : ∃ c : Nat, b = (c : Int) := ⟨b.toNat, by omega⟩
  have hcase : (c : Int) < 128 ∨ 128 ≤ (c : Int) := by omega
  by_cases hc : i < 9 ∨ (i = 9 ∧ (c : Int) < 2)
  · -- the byte is taken
   have hp : 2 ^ (7 * (i + 1)) = 128 * 2 ^ (7 * i) := by rw [show 7 * (i + 1) = 7 + 7 * i by omega, Nat.pow_add]
   have hm : c % 128 * 2 ^ (7 * i) ≤ 127 * 2 ^ (7 * i) := Nat.mul_le_mul_right _ (by omega)
   have hlt : c % 128 * 2 ^ (7 * i) < 18446744073709551616 ∧ n + c % 128 * 2 ^ (7 * i) < 18446744073709551616 := by
    rcases hc with hc | ⟨hc, hb⟩
    ·have : 2 ^ (7 * i) ≤ 2 ^ 56 := Nat.pow_le_pow_right (by decide) (by omega)
     omega
    ·subst hc
     have : c % 128 * 2 ^ (7 * 9) ≤ 1 * 2 ^ (7 * 9) := Nat.mul_le_mul_right _ (by omega)
     omega
   have hlt2 : n + c % 128 * 2 ^ (7 * i) < 2 ^ (7 * (i + 1)) := by rw [hp]; omega
   obtain ⟨m, hm'⟩ : ∃ m, m = n + c % 128 * 2 ^ (7 * i) := ⟨_, rfl⟩
   have e1 : iand .u8 (c : Int) 127 = ((c % 128 : Nat) : Int) := by
    have := iand_u8 (a := c) (b := 127) (by omega) (by omega)
    rw [show ((127 : Nat) : Int) = 127 from rfl] at this
    rw [this, and_127]
   have e2 : IntKind.i64.wrap (7 * (i : Int)) = ((7 * i : Nat) : Int) := by rw [w64 (by omega) (by omega)]; omega
   have e3 : ishl .u64 ((c % 128 : Nat) : Int) ((7 * i : Nat) : Int) = ((c % 128 * 2 ^ (7 * i) : Nat) : Int) := by
    rw [ishl_u64 _ _ (by omega), Nat.mod_eq_of_lt hlt.1]
   have e4 : ior .u64 (n : Int) ((c % 128 * 2 ^ (7 * i) : Nat) : Int) = (m : Int) := by rw [ior_u64 h2 hlt.1, or_top h1, hm']
   have hl1 : column_Reader_Uint_l1 most ((c : Int) :: xs) (n : Int) (i : Int) = column_Reader_Uint_j1 most (n : Int) (i : Int) ((c : Int), ⟨xs⟩) xs := by
    unfold column_Reader_Uint_l1
    rw [hby]
    simp only [Option.bind_some, s_inl]
    rcases hc with hc | ⟨hc, hc2⟩
    ·rw [if_pos (by simp only [decide_eq_true_eq]; omega), Check_t]; rfl
    ·rw [if_neg (by simp only [decide_eq_true_eq]; omega), if_pos (by subst hc; rfl), show decide ((c : Int) < 2) = true by simpa using hc2, Check_t]; rfl
   have hj : column_Reader_Uint_j1 most (n : Int) (i : Int) ((c : Int), ⟨xs⟩) xs = if (c : Int) < 128 then (if (m : Int) ≤ most ∧ (i = 0 ∨ 0 < (c : Int)) then some (.inr (.inl ((m : Int), ⟨xs⟩))) else some (.inr (.inr ⟨xs⟩))) else some (.inl (xs, (m : Int), ((i + 1 : Nat) : Int))) := by
    unfold column_Reader_Uint_j1
    simp only [lt_]
    rw [e1, u64w (by omega) (by omega), e2, chk_pos (by omega), e3, e4]
    by_cases hc1 : (c : Int) < 128
    ·rw [if_pos (by simpa using hc1), if_pos hc1]
     by_cases hmo : (m : Int) ≤ most
     ·rw [if_pos (by simpa using hmo)]
      by_cases hi0 : i = 0
      ·subst hi0
       rw [if_pos (by rfl), Check_t, if_pos ⟨hmo, .inl rfl⟩]
       rfl
      ·rw [if_neg (by simpa using hi0)]
       by_cases hc0 : 0 < (c : Int)
       ·rw [show decide (0 < (c : Int)) = true by simpa using hc0, Check_t, if_pos ⟨hmo, .inr hc0⟩]; rfl
       ·rw [show decide (0 < (c : Int)) = false by simpa using hc0, Check_f, if_neg (by rintro ⟨_, q | q⟩; exact hi0 q; exact hc0 q)]; rfl
     ·rw [if_neg (by simpa using hmo), Check_f, if_neg (fun q => hmo q.1)]; rfl
    ·rw [if_neg (by simpa using hc1), if_neg hc1, w64 (by omega) (by omega)]; rfl
   rw [pV, if_pos hc, Int.toNat_natCast, ← hm'] at hpv
   rcases hcase with hc1 | hc1
   ·rw [if_pos hc1] at hj hpv
    by_cases h0 : i = 0 ∨ 0 < (c : Int)
    ·rw [if_pos h0] at hpv
     subst hpv
     simp only
     by_cases hmo : (m : Int) ≤ most
     ·rw [if_pos ⟨hmo, h0⟩] at hj
      rw [if_pos hmo]
      exact loop_end (hl1.trans hj)
     ·rw [if_neg (fun q => hmo q.1)] at hj
      rw [if_neg hmo]
      exact ⟨_, loop_end (hl1.trans hj)⟩
    ·rw [if_neg h0] at hpv
     subst hpv
     rw [if_neg (fun q => h0 q.2)] at hj
     exact ⟨_, loop_end (hl1.trans hj)⟩
   ·rw [if_neg (Int.not_lt.2 hc1)] at hj hpv
    rw [loop_nxt (hl1.trans hj)]
    subst hpv
    exact Uloop most xs (i + 1) m hB' (by omega) (by rw [hm']; exact hlt2) (by rw [hm']; exact hlt.2)
  ·rw [pV, if_neg hc] at hpv
   subst hpv
   refine ⟨_, loop_end (t := Sum.inr ⟨xs⟩) ?_⟩
   show column_Reader_Uint_l1 most ((c : Int) :: xs) (n : Int) (i : Int) = _
   unfold column_Reader_Uint_l1
   rw [hby]
   simp only [Option.bind_some, s_inl]
   rw [if_neg (by simp only [decide_eq_true_eq]; omega)]
   by_cases hi9 : i = 9
   ·rw [if_pos (by subst hi9; rfl), show decide ((c : Int) < 2) = false by simp; omega, Check_f]; rfl
   ·rw [if_neg (by simp; omega), Check_f]; rfl
theorem Uint_is (most : Int) {xs : List Int} (hB : Bs xs) : IsR (column_Reader_Uint ⟨xs⟩ most) (pU most xs) := by
 unfold column_Reader_Uint pU
 have := Uloop most xs 0 0 hB (by omega) (by simp) (by omega)
 simp only [Int.natCast_zero] at this
 rcases this.cases with ⟨a, r, h1, h2⟩ | ⟨h1, s, h2⟩
 ·rw [h1]; show _ = _; rw [h2]; rfl
 ·rw [h1]; exact ⟨s, by rw [h2]; rfl⟩
theorem pU_some {most : Int} {xs r : List Int} {n : Int} (h : pU most xs = some (n, r)) : (0 ≤ n ∧ n < 18446744073709551616 ∧ n ≤ most) ∧ ∃ p, xs = p ++ r ∧ 0 < p.length := by
 unfold pU at h
 split at h
 ·rename_i m r' he
  split at h
  ·cases h
   obtain ⟨h1, h2⟩ := pV_lt _ _ _ _ _ (by simp) (by omega) he
   exact ⟨⟨by omega, by omega, by assumption⟩, h2⟩
  ·cases h
 ·cases h
theorem pU_bs {most : Int} {xs r : List Int} {n : Int} (hB : Bs xs) (h : pU most xs = some (n, r)) : Bs r := by
 obtain ⟨_, p, rfl, _⟩ := pU_some h
 exact hB.r
theorem and_1 (a : Nat) : a &&& 1 = a % 2 := Nat.and_two_pow_sub_one_eq_mod a 1
theorem xor_m1 {a : Nat} (h : a < 9223372036854775808) : ixor .i64 (a : Int) (-1) = -(a : Int) - 1 := by
 show IntKind.i64.wrap (((BitVec.ofInt 64 (a : Int) ^^^ BitVec.allOnes 64).toNat : Nat) : Int) = _
 rw [ofInt_nat, BitVec.xor_allOnes, BitVec.toNat_not, BitVec.toNat_ofNat, Nat.mod_eq_of_lt (show a < 2 ^ 64 by omega), IntWalk.i64_left]
 unfold wrap64
 omega
theorem xor_0 {a : Nat} (h : a < 9223372036854775808) : ixor .i64 (a : Int) 0 = (a : Int) := by
 show IntKind.i64.wrap (((BitVec.ofInt 64 (a : Int) ^^^ 0#64).toNat : Nat) : Int) = _
 rw [ofInt_nat, BitVec.xor_zero, BitVec.toNat_ofNat, Nat.mod_eq_of_lt (show a < 2 ^ 64 by omega), w64 (by omega) (by omega)]
theorem uz_eq {n : Nat} (h : n < 18446744073709551616) : ixor .i64 (IntKind.i64.wrap (ishr .u64 (n : Int) 1)) (IntKind.i64.wrap (0 - IntKind.i64.wrap (iand .u64 (n : Int) 1))) = uz n := by
 have e1 : ishr .u64 (n : Int) 1 = ((n / 2 : Nat) : Int) := ishr_nat (k := .u64) n 1 (by decide)
 have e2 : iand .u64 (n : Int) 1 = ((n % 2 : Nat) : Int) := by
  have := iand_u64 (a := n) (b := 1) h (by omega)
  rw [show ((1 : Nat) : Int) = 1 from rfl] at this
  rw [this, and_1]
 rw [e1, e2, w64 (n := ((n / 2 : Nat) : Int)) (by omega) (by omega), w64 (n := ((n % 2 : Nat) : Int)) (by omega) (by omega), w64 (by omega) (by omega)]
 unfold uz
 by_cases ho : n % 2 = 1
 ·rw [if_pos ho, ho, show (0 : Int) - ((1 : Nat) : Int) = -1 from rfl, xor_m1 (by omega)]
 ·rw [if_neg ho, show n % 2 = 0 by omega, show (0 : Int) - ((0 : Nat) : Int) = 0 from rfl, xor_0 (by omega)]
theorem Int_is {xs : List Int} (hB : Bs xs) : IsR (column_Reader_Int ⟨xs⟩) (pI xs) := by
 unfold column_Reader_Int pI
 rcases (Uint_is 18446744073709551615 hB).cases with ⟨a, r, h1, h2⟩ | ⟨h1, s, h2⟩
 ·rw [h1, h2]
  obtain ⟨⟨q1, q2, _⟩, _⟩ := pU_some h1
  simp only [Option.bind_some, s_inl, lt_]
  have := uz_eq (n := a.toNat) (by omega)
  rw [show ((a.toNat : Nat) : Int) = a by omega] at this
  show _ = _
  rw [this]
 ·rw [h1, h2]
  exact ⟨s, rfl⟩
theorem pI_bs {xs r : List Int} {n : Int} (hB : Bs xs) (h : pI xs = some (n, r)) : Bs r ∧ i64 n ∧ ∃ p, xs = p ++ r ∧ 0 < p.length := by
 unfold pI at h
 split at h
 ·rename_i m r' he
  cases h
  refine ⟨pU_bs hB he, ?_, (pU_some he).2⟩
  have := (pU_some he).1
  unfold i64 uz
  split <;> omega
 ·cases h
theorem Text_is (most : Int) {xs : List Int} (hB : Bs xs) (hl : xs.length < 9223372036854775808) : IsR (column_Reader_Text ⟨xs⟩ most) (pT most xs) := by
 unfold column_Reader_Text pT
 rw [lt_]
 rcases (Uint_is (IntKind.u64.wrap most) hB).cases with ⟨a, r, h1, h2⟩ | ⟨h1, s, h2⟩
 ·rw [h1, h2]
  obtain ⟨⟨q1, q2, _⟩, p, hp, _⟩ := pU_some h1
  have hr : r.length ≤ xs.length := by rw [hp]; simp
  simp only [Option.bind_some, s_inl, lt_]
  rw [u64w (by omega) (by omega)]
  obtain ⟨n, rfl⟩ : ∃ n : Nat, a = (n : Int) := ⟨a.toNat, by omega⟩
  by_cases hn : (n : Int) ≤ (r.length : Int)
  ·rw [show decide ((n : Int) ≤ (r.length : Int)) = true by simpa using hn, Check_t, if_pos hn]
   simp only [Option.bind_some, s_inl]
   have c1 := cut_nat (xs := r) (l := 0) (u := n) (by omega) (by omega)
   have c2 := cut_nat (xs := r) (l := n) (u := r.length) (by omega) (by omega)
   rw [show ((0 : Nat) : Int) = 0 from rfl, List.drop_zero] at c1
   rw [List.take_length] at c2
   rw [c1]
   simp only [Option.bind_some]
   rw [c2]
   rfl
  ·rw [show decide ((n : Int) ≤ (r.length : Int)) = false by simpa using hn, Check_f, if_neg hn]
   exact ⟨_, rfl⟩
 ·rw [h1, h2]
  exact ⟨s, rfl⟩
theorem pV_uv : ∀ (k : Nat) (m i n : Nat) (r : List Int), m < 128 ^ (k + 1) → k + i ≤ 9 → m * 2 ^ (7 * i) + n < 18446744073709551616 → (0 < i → 0 < m) → pV i n (uv m ++ r) = some (n + m * 2 ^ (7 * i), r)
 | k, m, i, n, r, h, hi, hlt, h0 => by
  by_cases hm : m < 128
  ·rw [uv_small hm, List.singleton_append, pV]
   have h9 : i < 9 ∨ (i = 9 ∧ (m : Int) < 2) := by
    rcases Nat.lt_or_ge i 9 with q | q
    ·exact .inl q
    ·have : i = 9 := by omega
     subst this
     refine .inr ⟨rfl, ?_⟩
     rcases Nat.lt_or_ge m 2 with q2 | q2
     ·omega
     ·have : 2 * 2 ^ (7 * 9) ≤ m * 2 ^ (7 * 9) := Nat.mul_le_mul_right _ q2
      omega
   rw [if_pos h9, if_pos (by omega), if_pos (by rcases Nat.eq_zero_or_pos i with q | q; exact .inl q; have := h0 q; exact .inr (by omega)), Int.toNat_natCast, Nat.mod_eq_of_lt hm]
  ·rw [uv_large hm, List.cons_append, pV]
   match k, h, hi with
   | 0, h, _ => exact absurd (by simpa using h) hm
   | k + 1, h, hi =>
    rw [if_pos (.inl (by omega)), if_neg (by omega), Int.toNat_natCast, show (m % 128 + 128) % 128 = m % 128 by omega]
    have hp : 2 ^ (7 * (i + 1)) = 128 * 2 ^ (7 * i) := by rw [show 7 * (i + 1) = 7 + 7 * i by omega, Nat.pow_add]
    have hdiv : m / 128 * (128 * 2 ^ (7 * i)) + m % 128 * 2 ^ (7 * i) = m * 2 ^ (7 * i) := by
     rw [← Nat.mul_assoc, ← Nat.add_mul]
     congr 1
     omega
    rw [pV_uv k (m / 128) (i + 1) _ r (by rw [Nat.pow_succ] at h; exact Nat.div_lt_of_lt_mul (by rw [Nat.mul_comm]; exact h)) (by omega) (by rw [hp]; omega) (fun _ => by omega), hp]
    congr 2
    omega
theorem pU_uv {m : Nat} (h : m < 18446744073709551616) (r : List Int) {most : Int} (hm : (m : Int) ≤ most) : pU most (uv m ++ r) = some ((m : Int), r) := by
 unfold pU
 rw [pV_uv 9 m 0 0 r (by omega) (by omega) (by simp; omega) (fun q => absurd q (by omega))]
 simp only [Nat.mul_zero, Nat.pow_zero, Nat.mul_one, Nat.zero_add]
 rw [if_pos hm]
theorem pI_uv {x : Int} (h : i64 x) (r : List Int) : pI (uv (zz x) ++ r) = some (x, r) := by
 unfold pI
 have := zz_lt h
 rw [pU_uv this r (by omega)]
 simp only [Int.toNat_natCast, uz_zz]
def bl (n : Nat) : Nat := if h : n = 0 then 0 else bl (n / 2) + 1
termination_by n
decreasing_by omega
theorem bl_zero : bl 0 = 0 := by rw [bl, dif_pos rfl]
theorem bl_pos {n : Nat} (h : 0 < n) : bl n = bl (n / 2) + 1 := by rw [bl, dif_neg (by omega)]
theorem bl_lt (n : Nat) : n < 2 ^ bl n := by
 induction n using Nat.strongRecOn with
 | _ n ih =>
  rcases Nat.eq_zero_or_pos n with rfl | h
  ·rw [bl_zero]; decide
  ·rw [bl_pos h, Nat.pow_succ]
   have := ih (n / 2) (by omega)
   omega
theorem bl_le : ∀ (k n : Nat), n < 2 ^ k → bl n ≤ k
 | 0, n, h => by
  have : n = 0 := by simpa using h
  rw [this, bl_zero]; exact Nat.le_refl _
 | k + 1, n, h => by
  rcases Nat.eq_zero_or_pos n with rfl | hp
  ·rw [bl_zero]; omega
  ·rw [bl_pos hp]
   have := bl_le k (n / 2) (by rw [Nat.pow_succ] at h; omega)
   omega
theorem bl_shift : ∀ (k n : Nat), 2 ^ k ≤ n → bl n = k + bl (n / 2 ^ k)
 | 0, n, _ => by simp
 | k + 1, n, h => by
  have hp : 0 < 2 ^ k := Nat.two_pow_pos k
  rw [Nat.pow_succ] at h
  rw [bl_pos (by omega), bl_shift k (n / 2) (by omega), Nat.div_div_eq_div_mul, Nat.pow_succ, Nat.mul_comm (2 ^ k) 2]
  omega
def V (w : Nat) : List Nat → Nat
 | [] => 0
 | d :: ds => d + 2 ^ w * V w ds
def Lt (w : Nat) (ds : List Nat) : Prop := ∀ d ∈ ds, d < 2 ^ w
theorem Lt.tail {w d : Nat} {ds : List Nat} (h : Lt w (d :: ds)) : d < 2 ^ w ∧ Lt w ds := ⟨h d List.mem_cons_self, fun x hx => h x (List.mem_cons_of_mem _ hx)⟩
theorem V_lt {w : Nat} : ∀ {ds : List Nat}, Lt w ds → V w ds < 2 ^ (ds.length * w)
 | [], _ => by simp [V]
 | d :: ds, h => by
  have h1 := h.tail.1
  have h2 := V_lt h.tail.2
  simp only [V, List.length_cons]
  rw [Nat.add_mul, Nat.one_mul, Nat.pow_add, Nat.mul_comm (2 ^ (ds.length * w))]
  have : 2 ^ w * V w ds + 2 ^ w ≤ 2 ^ w * 2 ^ (ds.length * w) := by
   rw [← Nat.mul_succ]; exact Nat.mul_le_mul_left _ h2
  omega
theorem V_drop {w : Nat} : ∀ {ds : List Nat}, Lt w ds → ∀ i, V w ds / 2 ^ (i * w) = V w (ds.drop i)
 | ds, _, 0 => by simp
 | [], _, i + 1 => by simp [V]
 | d :: ds, h, i + 1 => by
  rw [List.drop_succ_cons, ← V_drop h.tail.2 i, Nat.add_mul, Nat.one_mul, Nat.add_comm (i * w), Nat.pow_add, ← Nat.div_div_eq_div_mul]
  congr 1
  simp only [V]
  rw [Nat.add_mul_div_left _ _ (Nat.two_pow_pos w), Nat.div_eq_of_lt h.tail.1, Nat.zero_add]
theorem V_get {w : Nat} {ds : List Nat} (h : Lt w ds) {i d : Nat} (hd : ds[i]? = some d) : V w ds / 2 ^ (i * w) % 2 ^ w = d := by
 rw [V_drop h, List.drop_eq_getElem_cons (List.getElem?_eq_some_iff.1 hd).1, (List.getElem?_eq_some_iff.1 hd).2, V, Nat.add_mul_mod_self_left]
 exact Nat.mod_eq_of_lt (h d (List.mem_of_getElem? hd))
def by_ (m v : Nat) : List Nat := (List.range m).map fun j => v / 2 ^ (8 * j) % 256
theorem by_length (m v : Nat) : (by_ m v).length = m := by simp [by_]
theorem by_get {m v j : Nat} (h : j < m) : (by_ m v)[j]? = some (v / 2 ^ (8 * j) % 256) := by
 unfold by_
 rw [List.getElem?_map, List.getElem?_range h]; rfl
theorem by_lt (m v : Nat) : Lt 8 (by_ m v) := by
 intro d hd
 unfold by_ at hd
 obtain ⟨j, _, rfl⟩ := List.mem_map.1 hd
 exact Nat.mod_lt _ (by decide)
theorem by_ext {xs ys : List Nat} (hl : xs.length = ys.length) (h : ∀ j : Nat, j < xs.length → xs[j]? = ys[j]?) : xs = ys := by
 apply List.ext_getElem? fun j => ?_
 rcases Nat.lt_or_ge j xs.length with hj | hj
 ·exact h j hj
 ·rw [List.getElem?_eq_none hj, List.getElem?_eq_none (by omega)]
theorem V_by : ∀ (m v : Nat), v < 2 ^ (8 * m) → V 8 (by_ m v) = v
 | 0, v, h => by
  have : v = 0 := by simpa using h
  subst this; rfl
 | m + 1, v, h => by
  have e : by_ (m + 1) v = v % 256 :: by_ m (v / 256) := by
   refine by_ext (by simp [by_length]) fun j hj => ?_
   rw [by_length] at hj
   rw [by_get hj]
   cases j with
   | zero => simp
   | succ j =>
    rw [List.getElem?_cons_succ, by_get (by omega), show 8 * (j + 1) = 8 + 8 * j by omega, Nat.pow_add, Nat.div_div_eq_div_mul]
  rw [e, V, V_by m (v / 256) (by rw [show 8 * (m + 1) = 8 + 8 * m by omega, Nat.pow_add] at h; exact Nat.div_lt_of_lt_mul h)]
  exact Nat.mod_add_div v 256
def bt (v i : Nat) : Nat := v / 2 ^ i % 2
theorem bt_lt (v i : Nat) : bt v i < 2 := Nat.mod_lt _ (by decide)
theorem mod_succ (v i : Nat) : v % 2 ^ (i + 1) = v % 2 ^ i + bt v i * 2 ^ i := by
 rw [Nat.pow_succ, Nat.mod_mul, bt, Nat.mul_comm]
theorem bt_V {w : Nat} {ds : List Nat} (h : Lt w ds) {i k d : Nat} (hd : ds[i]? = some d) (hk : k < w) : bt (V w ds) (i * w + k) = bt d k := by
 unfold bt
 have hm := V_get h hd
 rw [Nat.pow_add, ← Nat.div_div_eq_div_mul]
 conv => rhs; rw [← hm]
 obtain ⟨x, hx⟩ : ∃ x, x = V w ds / 2 ^ (i * w) := ⟨_, rfl⟩
 rw [← hx]
 obtain ⟨j, rfl⟩ : ∃ j, w = k + (j + 1) := ⟨w - k - 1, by omega⟩
 rw [Nat.pow_add, Nat.mod_mul_right_div_self, Nat.pow_succ, Nat.mul_comm (2 ^ j) 2, Nat.mod_mul_right_mod]
theorem part_same (v i q w : Nat) (hw : 0 < w) (hq : q ≠ i / w) : v % 2 ^ (i + 1) / 2 ^ (q * w) % 2 ^ w = v % 2 ^ i / 2 ^ (q * w) % 2 ^ w := by
 rw [mod_succ]
 rcases Nat.lt_or_ge (i / w) q with hlt | hge
 · -- above
  have h1 : (i / w + 1) * w ≤ q * w := Nat.mul_le_mul_right _ hlt
  have h2 : i < (i / w + 1) * w := by have h := Nat.div_add_mod i w; have h' := Nat.mod_lt i hw; rw [Nat.add_mul, Nat.one_mul, Nat.mul_comm (i / w)]; omega
  have h3 : 2 ^ (i + 1) ≤ 2 ^ (q * w) := Nat.pow_le_pow_right (by decide) (by omega)
  have h4 : v % 2 ^ i < 2 ^ i := Nat.mod_lt _ (Nat.two_pow_pos i)
  have h5 := bt_lt v i
  have h6 : bt v i * 2 ^ i ≤ 1 * 2 ^ i := Nat.mul_le_mul_right _ (by omega)
  rw [Nat.pow_succ] at h3
  rw [Nat.div_eq_of_lt (by omega), Nat.div_eq_of_lt (by omega)]
 · -- below
  have hlt : q < i / w := by omega
  have h1 : (q + 1) * w ≤ i / w * w := Nat.mul_le_mul_right _ hlt
  have h2 : i / w * w ≤ i := Nat.div_mul_le_self i w
  obtain ⟨j, rfl⟩ : ∃ j, i = q * w + w + j := ⟨i - (q * w + w), by rw [Nat.add_mul] at h1; omega⟩
  have e : bt v (q * w + w + j) * 2 ^ (q * w + w + j) = 2 ^ (q * w) * (2 ^ w * (2 ^ j * bt v (q * w + w + j))) := by
   rw [Nat.pow_add, Nat.pow_add]; ac_rfl
  rw [e, Nat.add_mul_div_left _ _ (Nat.two_pow_pos _), Nat.add_mul_mod_self_left]
theorem part_new (v i w : Nat) (hw : 0 < w) : v % 2 ^ (i + 1) / 2 ^ (i / w * w) % 2 ^ w = v % 2 ^ i / 2 ^ (i / w * w) % 2 ^ w + bt v i * 2 ^ (i % w) ∧ v % 2 ^ i / 2 ^ (i / w * w) % 2 ^ w < 2 ^ (i % w) := by
 obtain ⟨q, hq⟩ : ∃ q, q = i / w * w := ⟨_, rfl⟩
 obtain ⟨k, hk⟩ : ∃ k, k = i % w := ⟨_, rfl⟩
 have hi : i = q + k := by rw [hq, hk, Nat.mul_comm]; exact (Nat.div_add_mod i w).symm
 have hkw : k < w := by rw [hk]; exact Nat.mod_lt _ hw
 rw [← hq, ← hk, mod_succ, hi]
 have hlt : v % 2 ^ (q + k) / 2 ^ q < 2 ^ k := Nat.div_lt_of_lt_mul (by rw [← Nat.pow_add]; exact Nat.mod_lt _ (Nat.two_pow_pos _))
 have hkk : 2 ^ (k + 1) ≤ 2 ^ w := Nat.pow_le_pow_right (by decide) hkw
 rw [Nat.pow_succ] at hkk
 have hb := bt_lt v (q + k)
 have hb2 : bt v (q + k) * 2 ^ k ≤ 1 * 2 ^ k := Nat.mul_le_mul_right _ (by omega)
 have e : bt v (q + k) * 2 ^ (q + k) = 2 ^ q * (bt v (q + k) * 2 ^ k) := by rw [Nat.pow_add, ← Nat.mul_assoc, ← Nat.mul_assoc, Nat.mul_comm (bt v (q + k))]
 rw [e, Nat.add_mul_div_left _ _ (Nat.two_pow_pos q), Nat.mod_eq_of_lt (show v % 2 ^ (q + k) / 2 ^ q + bt v (q + k) * 2 ^ k < 2 ^ w by omega), Nat.mod_eq_of_lt (show v % 2 ^ (q + k) / 2 ^ q < 2 ^ w by omega)]
 exact ⟨rfl, hlt⟩
def b0 (l : List Int) : List Int := (l.map fun x => uv (zz x)).flatten
def lastOf : Int → List Int → Int
 | a, [] => a
 | _, x :: l => lastOf x l
def bD : Int → List Int → List Int
 | _, [] => []
 | a, x :: l => uv (zz (IntKind.i64.wrap (x - a))) ++ bD x l
def bR : Nat → List Int → List Int
 | _, [] => []
 | k, [x] => uv (zz x) ++ uv k
 | k, x :: y :: l => if y = x then bR (k + 1) (y :: l) else uv (zz x) ++ uv k ++ bR 0 (y :: l)
def mn : Int → List Int → Int
 | m, [] => m
 | m, x :: l => mn (if x < m then x else m) l
def ds (lo : Int) (l : List Int) : List Nat := l.map fun x => (x - lo).toNat
def wdt (D : List Nat) : Nat := D.foldl (fun w d => if w < bl d then bl d else w) 0
def ofN (l : List Nat) : List Int := l.map fun (n : Nat) => (n : Int)
def pk : List Int → List Int
 | [] => []
 | x :: l => uv (zz (mn x l)) ++ [(wdt (ds (mn x l) (x :: l)) : Int)] ++ ofN (by_ (((x :: l).length * wdt (ds (mn x l) (x :: l)) + 7) / 8) (V (wdt (ds (mn x l) (x :: l))) (ds (mn x l) (x :: l))))
def body : Nat → List Int → List Int
 | 0, l => b0 l
 | 1, l => bD 0 l
 | 2, l => bR 0 l
 | _, l => pk l
def asL (w : Nat) (l : List Int) : List Int := (w : Int) :: (uv l.length ++ body w l)
def I64 (l : List Int) : Prop := ∀ x ∈ l, i64 x
theorem I64.get {l : List Int} (h : I64 l) {i : Nat} {x : Int} (hx : l[i]? = some x) : i64 x := h x (List.mem_of_getElem? hx)
theorem len_b0 : ∀ {l : List Int}, I64 l → (b0 l).length ≤ 10 * l.length
 | [], _ => by simp [b0]
 | x :: l, h => by
  have h1 := uv_length64 (zz_lt (h x List.mem_cons_self))
  have h2 := len_b0 (l := l) fun y hy => h y (List.mem_cons_of_mem _ hy)
  simp only [b0, List.map_cons, List.flatten_cons, List.length_append, List.length_cons] at h2 ⊢
  omega
theorem len_bD : ∀ (l : List Int) (a : Int), (bD a l).length ≤ 10 * l.length
 | [], _ => by simp [bD]
 | x :: l, a => by
  have h1 := uv_length64 (zz_lt (i64_wrap (x - a)))
  have h2 := len_bD l x
  simp only [bD, List.length_append, List.length_cons]
  omega
theorem len_bR : ∀ (l : List Int) (k : Nat), I64 l → k + l.length < 18446744073709551616 → (bR k l).length ≤ 20 * l.length
 | [], _, _, _ => by simp [bR]
 | [x], k, h, hk => by
  have h1 := uv_length64 (zz_lt (h x List.mem_cons_self))
  have h2 := uv_length64 (n := k) (by simp at hk; omega)
  simp only [bR, List.length_append, List.length_cons, List.length_nil]
  omega
 | x :: y :: l, k, h, hk => by
  have h1 := uv_length64 (zz_lt (h x List.mem_cons_self))
  simp only [List.length_cons] at hk
  have h2 := uv_length64 (n := k) (by omega)
  have h' : I64 (y :: l) := fun z hz => h z (List.mem_cons_of_mem _ hz)
  unfold bR
  split
  ·have := len_bR (y :: l) (k + 1) h' (by simp only [List.length_cons]; omega)
   simp only [List.length_cons] at this ⊢
   omega
  ·have := len_bR (y :: l) 0 h' (by simp only [List.length_cons]; omega)
   simp only [List.length_append, List.length_cons] at this ⊢
   omega
theorem b0_snoc (l : List Int) (x : Int) : b0 (l ++ [x]) = b0 l ++ uv (zz x) := by simp [b0]
theorem bD_snoc : ∀ (l : List Int) (a x : Int), bD a (l ++ [x]) = bD a l ++ uv (zz (IntKind.i64.wrap (x - lastOf a l)))
 | [], a, x => by simp [bD, lastOf]
 | y :: l, a, x => by simp [bD, lastOf, bD_snoc l y x]
theorem lastOf_snoc : ∀ (l : List Int) (a x : Int), lastOf a (l ++ [x]) = x
 | [], a, x => rfl
 | y :: l, a, x => lastOf_snoc l y x
theorem take_snoc {l : List Int} {k : Nat} {x : Int} (h : l[k]? = some x) : l.take (k + 1) = l.take k ++ [x] := by rw [List.take_add_one, h]; rfl
theorem I64.take {l : List Int} (h : I64 l) (k : Nat) : I64 (l.take k) := fun x hx => h x (List.mem_of_mem_take hx)
section
variable {l pre : List Int} (hl : l.length ≤ 4096) (hi : I64 l) (hp : pre.length ≤ 20)
include hl hi hp
theorem col0 : loop (fun s : List Int × Int => column_As_l1 l s.1 s.2) (pre, 0) = some (pre ++ b0 l) := by
 have := loop_to (b := fun s : List Int × Int => column_As_l1 l s.1 s.2) (fun k => (pre ++ b0 (l.take k), (k : Int))) (t := pre ++ b0 l) l.length (fun k hk => by
  have hx := List.getElem?_eq_getElem hk
  have hlen := len_b0 (hi.take k)
  rw [List.length_take] at hlen
  show column_As_l1 l (pre ++ b0 (l.take k)) (k : Int) = _
  unfold column_As_l1
  rw [if_pos (by simp only [decide_eq_true_eq]; omega), at_int rfl hx]
  simp only [Option.bind_some]
  rw [Int_app (hi.get hx) _ (by simp only [List.length_append]; omega)]
  simp only [Option.bind_some, lt_]
  rw [w64 (by omega) (by omega), take_snoc hx, b0_snoc, List.append_assoc]
  rfl) (by
  show column_As_l1 l (pre ++ b0 (l.take l.length)) (l.length : Int) = _
  unfold column_As_l1
  rw [if_neg (by simp), List.take_length])
 simpa [b0] using this
omit hi in
theorem col1 : loop (fun s : List Int × Int × Int => column_As_l2 l s.1 s.2.1 s.2.2) (pre, 0, 0) = some (pre ++ bD 0 l) := by
 have := loop_to (b := fun s : List Int × Int × Int => column_As_l2 l s.1 s.2.1 s.2.2) (fun k => (pre ++ bD 0 (l.take k), lastOf 0 (l.take k), (k : Int))) (t := pre ++ bD 0 l) l.length (fun k hk => by
  have hx := List.getElem?_eq_getElem hk
  have hlen := len_bD (l.take k) 0
  rw [List.length_take] at hlen
  show column_As_l2 l (pre ++ bD 0 (l.take k)) (lastOf 0 (l.take k)) (k : Int) = _
  unfold column_As_l2
  rw [if_pos (by simp only [decide_eq_true_eq]; omega), at_int rfl hx]
  simp only [Option.bind_some, lt_]
  rw [Int_app (i64_wrap _) _ (by simp only [List.length_append]; omega)]
  simp only [Option.bind_some]
  rw [w64 (n := (k : Int) + 1) (by omega) (by omega), take_snoc hx, bD_snoc, lastOf_snoc, List.append_assoc]
  rfl) (by
  show column_As_l2 l (pre ++ bD 0 (l.take l.length)) (lastOf 0 (l.take l.length)) (l.length : Int) = _
  unfold column_As_l2
  rw [if_neg (by simp), List.take_length])
 simpa [bD, lastOf] using this
end
theorem run_split (x : Int) : ∀ rest : List Int, ∃ (m : Nat) (tl : List Int), rest = List.replicate m x ++ tl ∧ ∀ y, tl[0]? = some y → y ≠ x
 | [] => ⟨0, [], rfl, by simp⟩
 | y :: rest => by
  by_cases h : y = x
  ·obtain ⟨m, tl, h1, h2⟩ := run_split x rest
   exact ⟨m + 1, tl, by rw [h, h1]; rfl, h2⟩
  ·exact ⟨0, y :: rest, rfl, fun z hz => by cases hz; exact h⟩
theorem bR_run (x : Int) (tl : List Int) (h : ∀ y, tl[0]? = some y → y ≠ x) : ∀ (m k : Nat), bR k (x :: (List.replicate m x ++ tl)) = uv (zz x) ++ uv (k + m) ++ bR 0 tl
 | 0, k => by
  cases tl with
  | nil => simp [bR]
  | cons y tl =>
   have := h y rfl
   simp only [List.replicate_zero, List.nil_append, bR, if_neg this, Nat.add_zero]
 | m + 1, k => by
  rw [List.replicate_succ, List.cons_append, bR, if_pos rfl, bR_run x tl h m (k + 1), show k + 1 + m = k + (m + 1) by omega]
section
variable {l pre : List Int} (hl : l.length ≤ 4096) (hi : I64 l) (hp : pre.length ≤ 20)
include hl hi hp
theorem col2 : loop (fun s : List Int × Int => column_As_l3 l s.1 s.2) (pre, 0) = some (pre ++ bR 0 l) := by
 obtain ⟨t, ht, rfl⟩ := loop_good (b := fun s : List Int × Int => column_As_l3 l s.1 s.2) (s := (pre, 0))
  (fun s => ∃ i : Nat, s.2 = i ∧ i ≤ l.length ∧ s.1.length ≤ 20 + 20 * i ∧ s.1 ++ bR 0 (l.drop i) = pre ++ bR 0 l)
  (fun s => ((l.length : Int) - s.2).toNat) (fun t => t = pre ++ bR 0 l) ⟨0, rfl, by omega, by simpa using hp, by simp⟩ (by
   rintro ⟨acc, q⟩ ⟨i, hq, hil, hacc, hinv⟩
   simp only at hq hacc hinv
   subst hq
   show (∃ s', column_As_l3 l acc (i : Int) = some (.inl s') ∧ _) ∨ ∃ t, column_As_l3 l acc (i : Int) = some (.inr t) ∧ _
   unfold column_As_l3
   by_cases hlt : i < l.length
   ·rw [if_pos (by simp only [decide_eq_true_eq]; omega)]
    have hx := List.getElem?_eq_getElem hlt
    obtain ⟨x, hxe⟩ : ∃ x, x = l[i] := ⟨_, rfl⟩
    rw [← hxe] at hx
    have hd : l.drop i = x :: l.drop (i + 1) := by rw [List.drop_eq_getElem_cons hlt, ← hxe]
    obtain ⟨m, tl, hm, htl⟩ := run_split x (l.drop (i + 1))
    have hlen : l.length = i + 1 + m + tl.length := by
     have := congrArg List.length hm
     simp only [List.length_drop, List.length_append, List.length_replicate] at this
     omega
    have hget : ∀ k, k < m → l[i + 1 + k]? = some x := by
     intro k hk
     have : (l.drop (i + 1))[k]? = some x := by rw [hm, List.getElem?_append_left (by simpa using hk)]; simp [hk]
     rwa [List.getElem?_drop] at this
    have hdr : l.drop (i + 1 + m) = tl := by
     rw [← List.drop_drop, hm]
     exact List.drop_left' (by simp)
    -- how many are alike
    have hin := loop_to (b := fun s : Int => column_As_l4 l (i : Int) s) (fun k => ((k + 1 : Nat) : Int)) (t := ((m + 1 : Nat) : Int)) m (fun k hk => by
     show column_As_l4 l (i : Int) ((k + 1 : Nat) : Int) = _
     unfold column_As_l4
     rw [lt_, w64 (by omega) (by omega), if_pos (by simp only [decide_eq_true_eq]; omega), at_int (n := i + 1 + k) (by omega) (hget k hk), at_int rfl hx]
     simp only [Option.bind_some]
     unfold column_As_j1
     rw [if_pos (by simp), lt_, w64 (by omega) (by omega)]
     rfl) (by
     show column_As_l4 l (i : Int) ((m + 1 : Nat) : Int) = _
     unfold column_As_l4
     rw [lt_, w64 (by omega) (by omega)]
     by_cases htz : tl.length = 0
     ·rw [if_neg (by simp only [decide_eq_true_eq]; omega)]
      unfold column_As_j1
      rw [if_neg (by simp)]
     ·obtain ⟨y, hy⟩ : ∃ y, tl[0]? = some y := ⟨_, List.getElem?_eq_getElem (by omega)⟩
      have hy' : l[i + 1 + m]? = some y := by rw [← hdr, List.getElem?_drop] at hy; exact hy
      rw [if_pos (by simp only [decide_eq_true_eq]; omega), at_int (n := i + 1 + m) (by omega) hy', at_int rfl hx]
      simp only [Option.bind_some]
      unfold column_As_j1
      rw [if_neg (by simpa using htl y hy)])
    rw [show (1 : Int) = ((0 + 1 : Nat) : Int) from rfl, hin]
    simp only [Option.bind_some]
    unfold column_As_x4_7 column_As_b5
    have hz := uv_length64 (zz_lt (hi.get hx))
    have hum := uv_length64 (n := m) (by omega)
    rw [at_int rfl hx]
    simp only [Option.bind_some]
    rw [Int_app (hi.get hx) _ (by omega)]
    simp only [Option.bind_some, lt_]
    rw [w64 (n := ((m + 1 : Nat) : Int) - 1) (by omega) (by omega), show ((m + 1 : Nat) : Int) - 1 = (m : Int) by omega, u64w (by omega) (by omega), Uint_app m _ (by omega) (by simp only [List.length_append]; omega)]
    simp only [Option.bind_some]
    rw [w64 (by omega) (by omega)]
    refine .inl ⟨_, rfl, ⟨i + 1 + m, ?_, by omega, ?_, ?_⟩, ?_⟩
    ·simp only; omega
    ·simp only [List.length_append]; omega
    ·rw [hdr, ← hinv, hd, hm, bR_run x tl htl m 0]
     simp
    ·simp only; omega
   ·rw [if_neg (by simp only [decide_eq_true_eq]; omega)]
    refine .inr ⟨_, rfl, ?_⟩
    rw [← hinv, show i = l.length by omega, List.drop_length]
    simp [bR])
 exact ht
end
theorem bl_eq {k m : Nat} (h1 : 2 ^ k ≤ m) (h2 : m < 2 ^ (k + 1)) : bl m = k + 1 := by
 have e : m / 2 ^ k = 1 := by
  rw [Nat.pow_succ] at h2
  have := (Nat.le_div_iff_mul_le (Nat.two_pow_pos k)).2 (show 1 * 2 ^ k ≤ m by omega)
  have := (Nat.div_lt_iff_lt_mul (Nat.two_pow_pos k)).2 (show m < 2 * 2 ^ k by omega)
  omega
 rw [bl_shift k m h1, e, bl_pos (by decide), show 1 / 2 = 0 from rfl, bl_zero]
def steps (m : Nat) : Nat := if m < 1 then 0 else if m < 2 then 1 else if m < 4 then 2 else if m < 8 then 3 else if m < 16 then 4 else if m < 32 then 5 else if m < 64 then 6 else if m < 128 then 7 else 8
theorem bl_steps {m : Nat} (h : m < 256) : bl m = steps m := by
 unfold steps
 repeat' split
 ·rw [show m = 0 by omega, bl_zero]
 ·exact bl_eq (k := 0) (by omega) (by omega)
 ·exact bl_eq (k := 1) (by omega) (by omega)
 ·exact bl_eq (k := 2) (by omega) (by omega)
 ·exact bl_eq (k := 3) (by omega) (by omega)
 ·exact bl_eq (k := 4) (by omega) (by omega)
 ·exact bl_eq (k := 5) (by omega) (by omega)
 ·exact bl_eq (k := 6) (by omega) (by omega)
 ·exact bl_eq (k := 7) (by omega) (by omega)
set_option maxRecDepth 100000 in
theorem j3_eq {m : Nat} (h : m < 256) (a : Int) (ha : 0 ≤ a) (ha' : a ≤ 64) : bits_Len64_j3 (m : Int) a = some (a + (bl m : Int)) := by
 unfold bits_Len64_j3
 rw [lt_, u8w (by omega) (by omega), at_nat]
 have key : ∀ tb : List UInt8, (∀ i : Fin 256, (tb[i.val]?).map (fun b : UInt8 => b.toNat) = some (steps i.val)) → ((tb[m]?).bind fun x133 => (ltt (IntKind.i64.wrap (x133.toNat : Int)) fun x135 => (ltt (IntKind.i64.wrap (a + x135)) fun x137 => (some x137)))) = some (a + (bl m : Int)) := by
  intro tb ht
  have := ht ⟨m, h⟩
  simp only [Option.map_eq_some_iff] at this
  obtain ⟨b, hb, hs⟩ := this
  rw [hb]
  have : steps m ≤ 8 := by unfold steps; (repeat' split) <;> omega
  simp only [Option.bind_some, lt_]
  rw [hs, w64 (n := ((steps m : Nat) : Int)) (by omega) (by omega), w64 (by omega) (by omega), bl_steps h]
 exact key _ (by decide +kernel)
theorem sh {n k : Nat} (hk : k ≤ 64) : ishr .u64 (n : Int) (k : Int) = ((n / 2 ^ k : Nat) : Int) := ishr_nat (k := .u64) n k hk
theorem Len_eq {n : Nat} (h : n < 18446744073709551616) : bits_Len64 (n : Int) = some (bl n : Int) := by
 have j2 : ∀ (m a : Nat), m < 65536 → a ≤ 56 → bits_Len64_j2 (m : Int) (a : Int) = some ((a : Int) + (bl m : Int)) := by
  intro m a hm ha
  unfold bits_Len64_j2
  by_cases hc : 256 ≤ m
  ·rw [if_pos (by simp only [decide_eq_true_eq]; omega), lt_, lt_]
   have e := sh (n := m) (k := 8) (by omega)
   rw [show ((8 : Nat) : Int) = 8 from rfl] at e
   rw [e, w64 (by omega) (by omega), j3_eq (by omega) _ (by omega) (by omega), bl_shift 8 m (by omega)]
   congr 1
   omega
  ·rw [if_neg (by simp only [decide_eq_true_eq]; omega), j3_eq (by omega) _ (by omega) (by omega)]
 have j1 : ∀ (m a : Nat), m < 4294967296 → a ≤ 32 → bits_Len64_j1 (m : Int) (a : Int) = some ((a : Int) + (bl m : Int)) := by
  intro m a hm ha
  unfold bits_Len64_j1
  by_cases hc : 65536 ≤ m
  ·rw [if_pos (by simp only [decide_eq_true_eq]; omega), lt_, lt_]
   have e := sh (n := m) (k := 16) (by omega)
   rw [show ((16 : Nat) : Int) = 16 from rfl] at e
   rw [e, w64 (by omega) (by omega), show (a : Int) + 16 = ((a + 16 : Nat) : Int) by omega, j2 _ _ (by omega) (by omega), bl_shift 16 m (by omega)]
   congr 1
   omega
  ·rw [if_neg (by simp only [decide_eq_true_eq]; omega), j2 _ _ (by omega) (by omega)]
 unfold bits_Len64
 by_cases hc : 4294967296 ≤ n
 ·rw [if_pos (by simp only [decide_eq_true_eq]; omega), lt_]
  have e := sh (n := n) (k := 32) (by omega)
  rw [show ((32 : Nat) : Int) = 32 from rfl] at e
  rw [e, show (32 : Int) = ((32 : Nat) : Int) from rfl, j1 _ _ (by omega) (by omega), bl_shift 32 n (by omega)]
  congr 1
 ·rw [if_neg (by simp only [decide_eq_true_eq]; omega), show (0 : Int) = ((0 : Nat) : Int) from rfl, j1 _ _ (by omega) (by omega)]
  simp
theorem mn_snoc : ∀ (l : List Int) (m x : Int), mn m (l ++ [x]) = if x < mn m l then x else mn m l
 | [], m, x => rfl
 | y :: l, m, x => mn_snoc l _ x
theorem mn_le : ∀ (l : List Int) (m : Int), mn m l ≤ m ∧ ∀ x ∈ l, mn m l ≤ x
 | [], m => ⟨Int.le_refl _, fun x h => by cases h⟩
 | y :: l, m => by
  obtain ⟨h1, h2⟩ := mn_le l (if y < m then y else m)
  have h3 : (if y < m then y else m) ≤ m ∧ (if y < m then y else m) ≤ y := by split <;> omega
  refine ⟨Int.le_trans h1 h3.1, fun x hx => ?_⟩
  rcases List.mem_cons.1 hx with rfl | hx
  ·exact Int.le_trans h1 h3.2
  ·exact h2 x hx
theorem mn_mem : ∀ (l : List Int) (m : Int), mn m l = m ∨ mn m l ∈ l
 | [], m => .inl rfl
 | y :: l, m => by
  rcases mn_mem l (if y < m then y else m) with h | h
  ·simp only [mn]
   rw [h]
   split
   ·exact .inr List.mem_cons_self
   ·exact .inl rfl
  ·exact .inr (List.mem_cons_of_mem _ h)
theorem mn_i64 {x : Int} {l : List Int} (h : I64 (x :: l)) : i64 (mn x l) := by
 rcases mn_mem l x with e | e
 ·rw [e]; exact h x List.mem_cons_self
 ·exact h _ (List.mem_cons_of_mem _ e)
theorem d_eq {x lo : Int} (hx : i64 x) (hlo : i64 lo) (h : lo ≤ x) : IntKind.u64.wrap (IntKind.i64.wrap (x - lo)) = (((x - lo).toNat : Nat) : Int) ∧ (x - lo).toNat < 18446744073709551616 := by
 unfold i64 at hx hlo
 refine ⟨?_, by omega⟩
 rw [IntKind.wrap_u64, IntWalk.i64_left]
 unfold wrap64
 omega
theorem wdt_snoc (D : List Nat) (d : Nat) : wdt (D ++ [d]) = if wdt D < bl d then bl d else wdt D := by
 unfold wdt; rw [List.foldl_append]; rfl
theorem wdt_ge : ∀ (k : Nat) (D : List Nat), D.length = k → ∀ d ∈ D, bl d ≤ wdt D
 | 0, D, hk, d, hd => by rw [List.eq_nil_of_length_eq_zero hk] at hd; cases hd
 | k + 1, D, hk, d, hd => by
  obtain ⟨c, x, rfl⟩ : ∃ c x, D = c ++ [x] := ⟨D.dropLast, D.getLast (by intro e; rw [e] at hk; cases hk), (List.dropLast_concat_getLast _).symm⟩
  rw [wdt_snoc]
  rcases List.mem_append.1 hd with h | h
  ·have := wdt_ge k c (by simpa using hk) d h
   split <;> omega
  ·rw [List.mem_singleton.1 h]
   split <;> omega
theorem wdt_le (b : Nat) : ∀ (k : Nat) (D : List Nat), D.length = k → (∀ d ∈ D, bl d ≤ b) → wdt D ≤ b
 | 0, D, hk, _ => by rw [List.eq_nil_of_length_eq_zero hk]; simp [wdt]
 | k + 1, D, hk, h => by
  obtain ⟨c, x, rfl⟩ : ∃ c x, D = c ++ [x] := ⟨D.dropLast, D.getLast (by intro e; rw [e] at hk; cases hk), (List.dropLast_concat_getLast _).symm⟩
  rw [wdt_snoc]
  have h1 := wdt_le b k c (by simpa using hk) fun d hd => h d (List.mem_append.2 (.inl hd))
  have h2 := h x (List.mem_append.2 (.inr (List.mem_singleton.2 rfl)))
  split <;> omega
theorem Lt_wdt (D : List Nat) : Lt (wdt D) D := fun d hd => Nat.lt_of_lt_of_le (bl_lt d) (Nat.pow_le_pow_right (by decide) (wdt_ge _ D rfl d hd))
theorem ds_get {lo x : Int} {l : List Int} {i : Nat} (h : l[i]? = some x) : (ds lo l)[i]? = some (x - lo).toNat := by simp [ds, h]
theorem ds_length (lo : Int) (l : List Int) : (ds lo l).length = l.length := by simp [ds]
theorem by_step {m v at' : Nat} (h : at' / 8 < m) : (ofN (by_ m (v % 2 ^ at'))).set (at' / 8) ((v % 2 ^ at' / 2 ^ (8 * (at' / 8)) % 256 + bt v at' * 2 ^ (at' % 8) : Nat) : Int) = ofN (by_ m (v % 2 ^ (at' + 1))) := by
 unfold ofN
 rw [← List.map_set]
 congr 1
 refine by_ext (by simp [by_length]) fun j hj => ?_
 rw [List.length_set, by_length] at hj
 rw [by_get hj]
 by_cases e : at' / 8 = j
 ·subst e
  have := (part_new v at' 8 (by decide)).1
  rw [Nat.mul_comm (at' / 8) 8, show 2 ^ 8 = 256 from rfl] at this
  rw [List.getElem?_set_self (by rw [by_length]; exact hj), this]
 ·have := part_same v at' j 8 (by decide) (Ne.symm e)
  rw [Nat.mul_comm j 8, show 2 ^ 8 = 256 from rfl] at this
  rw [List.getElem?_set_ne e, by_get hj, this]
theorem ofN_get {D : List Nat} {j d : Nat} (h : D[j]? = some d) : (ofN D)[j]? = some (d : Int) := by simp [ofN, h]
theorem ofN_length (D : List Nat) : (ofN D).length = D.length := by simp [ofN]
section
variable {l : List Int} {lo : Int} {w : Nat} (hl : l.length ≤ 4096) (hi : I64 l) (hlo : i64 lo) (hle : ∀ x ∈ l, lo ≤ x) (hw : w ≤ 64) (hL : Lt w (ds lo l))
include hl hi hlo hle hw hL
omit hl in
theorem bit_eq {i : Nat} {x : Int} (hx : l[i]? = some x) {k : Nat} (hk : k < w) :
  ishr .u64 (IntKind.u64.wrap (IntKind.i64.wrap (x - lo))) (k : Int) = (((x - lo).toNat / 2 ^ k : Nat) : Int) ∧ bt (V w (ds lo l)) (i * w + k) = (x - lo).toNat / 2 ^ k % 2 ∧ (x - lo).toNat / 2 ^ k < 18446744073709551616 := by
 obtain ⟨e, e'⟩ := d_eq (hi.get hx) hlo (hle x (List.mem_of_getElem? hx))
 rw [e]
 exact ⟨sh (by omega), bt_V hL (ds_get hx) hk, Nat.lt_of_le_of_lt (Nat.div_le_self _ _) e'⟩
omit hi hlo hle hL in
theorem at_lt {i k : Nat} (hil : i < l.length) (hk : k < w) : i * w + k < l.length * w ∧ l.length * w ≤ 262144 ∧ (i * w + k) / 8 < (l.length * w + 7) / 8 := by
 have h1 : (i + 1) * w ≤ l.length * w := Nat.mul_le_mul_right _ hil
 have h2 : l.length * w ≤ 4096 * 64 := Nat.mul_le_mul hl hw
 rw [Nat.add_mul] at h1
 refine ⟨by omega, by omega, by omega⟩
theorem col_bits {i : Nat} {x : Int} (hx : l[i]? = some x) :
  loop (fun s : Int × List Int × Int => column_pack_l2 lo (w : Int) x s.1 s.2.1 s.2.2) (((i * w : Nat) : Int), ofN (by_ ((l.length * w + 7) / 8) (V w (ds lo l) % 2 ^ (i * w))), 0)
   = some ((((i + 1) * w : Nat) : Int), ofN (by_ ((l.length * w + 7) / 8) (V w (ds lo l) % 2 ^ ((i + 1) * w)))) := by
 have hil := (List.getElem?_eq_some_iff.1 hx).1
 have := loop_to (b := fun s : Int × List Int × Int => column_pack_l2 lo (w : Int) x s.1 s.2.1 s.2.2) (fun k => (((i * w + k : Nat) : Int), ofN (by_ ((l.length * w + 7) / 8) (V w (ds lo l) % 2 ^ (i * w + k))), (k : Int))) (t := ((((i + 1) * w : Nat) : Int), ofN (by_ ((l.length * w + 7) / 8) (V w (ds lo l) % 2 ^ ((i + 1) * w))))) w (fun k hk => by
  obtain ⟨h1, h2, h3⟩ := at_lt hl hw hil hk
  obtain ⟨e1, e2, e3⟩ := bit_eq hi hlo hle hw hL hx hk
  show column_pack_l2 lo (w : Int) x ((i * w + k : Nat) : Int) (ofN (by_ ((l.length * w + 7) / 8) (V w (ds lo l) % 2 ^ (i * w + k)))) (k : Int) = _
  have hstep := by_step (v := V w (ds lo l)) h3
  have hcur : V w (ds lo l) % 2 ^ (i * w + k) / 2 ^ (8 * ((i * w + k) / 8)) % 256 < 2 ^ ((i * w + k) % 8) := by
   have := (part_new (V w (ds lo l)) (i * w + k) 8 (by decide)).2
   rwa [Nat.mul_comm ((i * w + k) / 8) 8] at this
  rw [show i * w + (k + 1) = i * w + k + 1 by omega]
  generalize i * w + k = a at h1 h3 e2 hstep hcur ⊢
  have hget := ofN_get (by_get (v := V w (ds lo l) % 2 ^ a) h3)
  unfold column_pack_l2
  rw [if_pos (by simp only [decide_eq_true_eq]; omega), lt_, show ((a : Nat) : Int).tdiv 8 = ((a / 8 : Nat) : Int) from rfl, w64 (n := ((a / 8 : Nat) : Int)) (by omega) (by omega), at_int rfl hget]
  simp only [Option.bind_some, lt_]
  rw [chk_pos (by omega), e1, show ((a : Nat) : Int).tmod 8 = ((a % 8 : Nat) : Int) from rfl, chk_pos (by omega)]
  have hand : iand .u64 (((x - lo).toNat / 2 ^ k : Nat) : Int) 1 = ((bt (V w (ds lo l)) a : Nat) : Int) := by
   have := iand_u64 (a := (x - lo).toNat / 2 ^ k) (b := 1) e3 (by omega)
   rw [show ((1 : Nat) : Int) = 1 from rfl] at this
   rw [this, and_1, e2]
  have hb := bt_lt (V w (ds lo l)) a
  have hp8 : 2 ^ (a % 8) ≤ 2 ^ 7 := Nat.pow_le_pow_right (by decide) (by omega)
  have hbp : bt (V w (ds lo l)) a * 2 ^ (a % 8) ≤ 1 * 2 ^ (a % 8) := Nat.mul_le_mul_right _ (by omega)
  have hm : bt (V w (ds lo l)) a * 2 ^ (a % 8) % 256 = bt (V w (ds lo l)) a * 2 ^ (a % 8) := Nat.mod_eq_of_lt (by omega)
  rw [hand, u8w (by omega) (by omega), ishl_u8 _ _ (by omega), hm, ior_u8 (by omega) (by omega), or_top hcur, w64 (by omega) (by omega), w64 (by omega) (by omega), Int.toNat_natCast, hstep]
  rfl) (by
  show column_pack_l2 lo (w : Int) x ((i * w + w : Nat) : Int) (ofN (by_ ((l.length * w + 7) / 8) (V w (ds lo l) % 2 ^ (i * w + w)))) (w : Int) = _
  unfold column_pack_l2
  rw [if_neg (by simp), show i * w + w = (i + 1) * w by rw [Nat.add_mul, Nat.one_mul]])
 simpa using this
theorem col_all : loop (fun s : Int × List Int × Int => column_pack_l1 l lo (w : Int) s.1 s.2.1 s.2.2) (0, List.replicate ((l.length * w + 7) / 8) 0, 0) = some (ofN (by_ ((l.length * w + 7) / 8) (V w (ds lo l)))) := by
 have := loop_to (b := fun s : Int × List Int × Int => column_pack_l1 l lo (w : Int) s.1 s.2.1 s.2.2) (fun i => (((i * w : Nat) : Int), ofN (by_ ((l.length * w + 7) / 8) (V w (ds lo l) % 2 ^ (i * w))), (i : Int))) (t := ofN (by_ ((l.length * w + 7) / 8) (V w (ds lo l)))) l.length (fun i hil => by
  have hx := List.getElem?_eq_getElem hil
  show column_pack_l1 l lo (w : Int) ((i * w : Nat) : Int) (ofN (by_ ((l.length * w + 7) / 8) (V w (ds lo l) % 2 ^ (i * w)))) (i : Int) = _
  unfold column_pack_l1
  rw [if_pos (by simp only [decide_eq_true_eq]; omega), at_int rfl hx]
  simp only [Option.bind_some]
  rw [col_bits hl hi hlo hle hw hL hx]
  simp only [Option.bind_some]
  unfold column_pack_x2_4 column_pack_b3
  rw [lt_, w64 (by omega) (by omega)]
  rfl) (by
  show column_pack_l1 l lo (w : Int) ((l.length * w : Nat) : Int) (ofN (by_ ((l.length * w + 7) / 8) (V w (ds lo l) % 2 ^ (l.length * w)))) (l.length : Int) = _
  unfold column_pack_l1
  have hv := V_lt hL
  rw [ds_length] at hv
  rw [if_neg (by simp), Nat.mod_eq_of_lt hv])
 have e0 : ofN (by_ ((l.length * w + 7) / 8) (V w (ds lo l) % 2 ^ (0 * w))) = List.replicate ((l.length * w + 7) / 8) 0 := by
  rw [Nat.zero_mul, Nat.pow_zero, Nat.mod_one]
  unfold ofN by_
  rw [List.map_map, List.eq_replicate_iff]
  refine ⟨by simp, fun b hb => ?_⟩
  obtain ⟨j, _, rfl⟩ := List.mem_map.1 hb
  simp
 rw [e0] at this
 simpa using this
end
section
variable {l : List Int} {lo : Int} {w : Nat} (hl : l.length ≤ 4096) (hi : I64 l) (hlo : i64 lo) (hle : ∀ x ∈ l, lo ≤ x) (hw : w ≤ 64) (hL : Lt w (ds lo l)) {pre : List Int} (hp : pre.length ≤ 100)
include hl hi hlo hle hw hL hp
end
theorem col_min {x : Int} {l : List Int} (hl : (x :: l).length ≤ 4096) : slices_Min_int64_int64 (x :: l) = some (mn x l) := by
 simp only [List.length_cons] at hl
 unfold slices_Min_int64_int64
 rw [if_neg (by simp only [decide_eq_true_eq, List.length_cons]; omega), show at_ (x :: l) 0 = some x from rfl]
 simp only [Option.bind_some]
 have := loop_to (b := fun s : Int × Int => slices_Min_int64_int64_l1 (x :: l) s.1 s.2) (fun k => (mn x (l.take k), ((k + 1 : Nat) : Int))) (t := mn x l) l.length (fun k hk => by
  have hx := List.getElem?_eq_getElem hk
  show slices_Min_int64_int64_l1 (x :: l) (mn x (l.take k)) ((k + 1 : Nat) : Int) = _
  unfold slices_Min_int64_int64_l1
  rw [if_pos (by simp only [decide_eq_true_eq, List.length_cons]; omega), at_int rfl (by rw [List.getElem?_cons_succ]; exact hx)]
  simp only [Option.bind_some, lt_]
  rw [w64 (by omega) (by omega), take_snoc hx, mn_snoc]
  rfl) (by
  show slices_Min_int64_int64_l1 (x :: l) (mn x (l.take l.length)) ((l.length + 1 : Nat) : Int) = _
  unfold slices_Min_int64_int64_l1
  rw [if_neg (by simp), List.take_length])
 rw [show ((x, 1) : Int × Int) = (fun k => (mn x (l.take k), ((k + 1 : Nat) : Int))) 0 from rfl, this]
 rfl
section
variable {l : List Int} {lo : Int} (hl : l.length ≤ 4096) (hi : I64 l) (hlo : i64 lo) (hle : ∀ x ∈ l, lo ≤ x)
include hl hi hlo hle
omit hl in
theorem ds_bl : ∀ d ∈ ds lo l, bl d ≤ 64 := by
 intro d hd
 obtain ⟨x, hx, rfl⟩ := List.mem_map.1 hd
 exact bl_le 64 _ (d_eq (hi x hx) hlo (hle x hx)).2
omit hl in
theorem wdt_64 (k : Nat) : wdt ((ds lo l).take k) ≤ 64 := wdt_le 64 _ _ rfl fun d hd => ds_bl hi hlo hle d (List.mem_of_mem_take hd)
theorem col_wdt : loop (fun s : Int × Int => column_pack_l3 l lo s.1 s.2) (0, 0) = some (wdt (ds lo l) : Int) := by
 have := loop_to (b := fun s : Int × Int => column_pack_l3 l lo s.1 s.2) (fun k => ((wdt ((ds lo l).take k) : Int), (k : Int))) (t := (wdt (ds lo l) : Int)) l.length (fun k hk => by
  have hx := List.getElem?_eq_getElem hk
  obtain ⟨e, e'⟩ := d_eq (hi.get hx) hlo (hle _ (List.mem_of_getElem? hx))
  show column_pack_l3 l lo (wdt ((ds lo l).take k) : Int) (k : Int) = _
  unfold column_pack_l3
  rw [if_pos (by simp only [decide_eq_true_eq]; omega), at_int rfl hx]
  simp only [Option.bind_some, lt_]
  rw [e, Len_eq e']
  simp only [Option.bind_some]
  rw [w64 (by omega) (by omega), List.take_add_one (i := k), ds_get hx]
  show some (Sum.inl _) = some (Sum.inl (((wdt ((ds lo l).take k ++ [(l[k] - lo).toNat]) : Nat) : Int), ((k + 1 : Nat) : Int)))
  rw [wdt_snoc]
  congr 3
  split <;> split <;> omega) (by
  show column_pack_l3 l lo (wdt ((ds lo l).take l.length) : Int) (l.length : Int) = _
  unfold column_pack_l3
  rw [if_neg (by simp), List.take_of_length_le (by rw [ds_length]; exact Nat.le_refl _)])
 simpa [wdt] using this
end
theorem mn_all {x : Int} {l : List Int} : ∀ y ∈ x :: l, mn x l ≤ y := fun y hy => by
 rcases List.mem_cons.1 hy with rfl | h
 ·exact (mn_le l y).1
 ·exact (mn_le l x).2 y h
theorem col3 {l pre : List Int} (hl : l.length ≤ 4096) (hi : I64 l) (hp : pre.length ≤ 20) : column_pack pre l = some (pre ++ pk l) := by
 cases l with
 | nil => simp [column_pack, pk]
 | cons x l =>
  have hlo := mn_i64 hi
  have hle := mn_all (x := x) (l := l)
  unfold column_pack
  rw [if_neg (by simp; omega), col_min hl]
  simp only [Option.bind_some]
  rw [col_wdt hl hi hlo hle]
  simp only [Option.bind_some]
  have hw : wdt (ds (mn x l) (x :: l)) ≤ 64 := by
   have := wdt_64 hi hlo hle (x :: l).length
   rwa [List.take_of_length_le (by rw [ds_length]; exact Nat.le_refl _)] at this
  have hL := Lt_wdt (ds (mn x l) (x :: l))
  have hz := uv_length64 (zz_lt hlo)
  simp only [pk]
  generalize wdt (ds (mn x l) (x :: l)) = w at hw hL ⊢
  have h2 : (x :: l).length * w ≤ 4096 * 64 := Nat.mul_le_mul hl hw
  unfold column_pack_x3_0 column_pack_b1
  rw [Int_app hlo _ (by omega)]
  simp only [Option.bind_some, lt_]
  rw [u8w (n := (w : Int)) (by omega) (by omega), chk_pos (by simp only [List.length_append, List.length_singleton]; omega), ← Int.natCast_mul, w64 (n := (((x :: l).length * w : Nat) : Int)) (by omega) (by omega), w64 (n := (((x :: l).length * w : Nat) : Int) + 7) (by omega) (by omega),
   show ((((x :: l).length * w : Nat) : Int) + 7).tdiv 8 = ((((x :: l).length * w + 7) / 8 : Nat) : Int) from rfl, w64 (by omega) (by omega), chk_pos (by omega), Int.toNat_natCast, col_all hl hi hlo hle hw hL]
  simp only [Option.bind_some]
  unfold column_pack_x1_2 column_pack_b2
  rw [chk_pos (by simp only [List.length_append, List.length_singleton, ofN_length, by_length]; omega)]
  simp
theorem As_col {w : Nat} {l : List Int} (hw : w < 4) (hl : l.length ≤ 4096) (hi : I64 l) : column_As (w : Int) l = some (asL w l) := by
 have hu := uv_length64 (n := l.length) (by omega)
 unfold column_As
 rw [lt_, u64w (by omega) (by omega), Uint_app _ _ (by omega) (by simp; omega)]
 simp only [Option.bind_some]
 have hp : ([(w : Int)] ++ uv l.length).length ≤ 20 := by simp; omega
 unfold asL
 match w, hw with
 | 0, _ =>
  rw [if_pos (by rfl), col0 hl hi hp]
  simp [column_As_x1_1, column_As_b2, column_As_b1, body]
 | 1, _ =>
  rw [if_neg (by decide), if_pos (by rfl), col1 hl hp]
  simp [column_As_x2_3, column_As_b3, column_As_b1, body]
 | 2, _ =>
  rw [if_neg (by decide), if_neg (by decide), if_pos (by rfl), col2 hl hi hp]
  simp [column_As_x3_5, column_As_b4, column_As_b1, body]
 | 3, _ =>
  rw [if_neg (by decide), if_neg (by decide), if_neg (by decide), if_pos (by rfl), col3 hl hi hp]
  simp [column_As_b1, body]
def shorter (a b : List Int) : List Int := if b.length < a.length then b else a
def intsL (l : List Int) : List Int := shorter (shorter (shorter (asL 0 l) (asL 1 l)) (asL 2 l)) (asL 3 l)
theorem Ints_col {l : List Int} (hl : l.length ≤ 4096) (hi : I64 l) : column_Ints l = some (intsL l) := by
 have hA : ∀ w : Nat, w < 4 → column_As (w : Int) l = some (asL w l) := fun w hw => As_col hw hl hi
 unfold intsL
 unfold column_Ints
 obtain ⟨p, hp⟩ : ∃ p : Nat → List Int, ∀ w, p w = asL w l := ⟨_, fun _ => rfl⟩
 have step : ∀ (b : List Int) (w : Nat), 1 ≤ w → w < 4 → column_Ints_l1 l b (w : Int) = some (.inl (shorter b (p w), ((w + 1 : Nat) : Int))) := by
  intro b w h1 h4
  unfold column_Ints_l1 column_Ints_b2 shorter
  rw [if_pos (by simp only [decide_eq_true_eq]; omega), hA w h4, hp]
  simp only [Option.bind_some, lt_]
  rw [u8w (by omega) (by omega)]
  by_cases h : (asL w l).length < b.length
  ·rw [if_pos (by simp only [decide_eq_true_eq]; omega), if_pos h]; rfl
  ·rw [if_neg (by simp only [decide_eq_true_eq]; omega), if_neg h]; rfl
 have h0 := hA 0 (by decide)
 rw [show ((0 : Nat) : Int) = 0 from rfl] at h0
 rw [h0, ← hp 0, ← hp 1, ← hp 2, ← hp 3]
 clear hA h0 hp
 simp only [Option.bind_some]
 have h4 : ∀ b, column_Ints_l1 l b ((4 : Nat) : Int) = some (.inr b) := by
  intro b
  unfold column_Ints_l1
  rw [if_neg (by decide)]
 have := ((loop_nxt (b := fun s : List Int × Int => column_Ints_l1 l s.1 s.2) (s := (p 0, ((1 : Nat) : Int))) (step (p 0) 1 (by decide) (by decide))).trans
  ((loop_nxt (b := fun s : List Int × Int => column_Ints_l1 l s.1 s.2) (s := (shorter (p 0) (p 1), ((2 : Nat) : Int))) (step _ 2 (by decide) (by decide))).trans
  ((loop_nxt (b := fun s : List Int × Int => column_Ints_l1 l s.1 s.2) (s := (shorter (shorter (p 0) (p 1)) (p 2), ((3 : Nat) : Int))) (step _ 3 (by decide) (by decide))).trans (loop_end (b := fun s : List Int × Int => column_Ints_l1 l s.1 s.2) (s := (shorter (shorter (shorter (p 0) (p 1)) (p 2)) (p 3), ((4 : Nat) : Int))) (h4 _)))))
 rw [show (1 : Int) = ((1 : Nat) : Int) from rfl, this]
 rfl
def pMany : Nat → List Int → Option (List Int × List Int)
 | 0, xs => some ([], xs)
 | n + 1, xs => match pI xs with
  | some (x, r) => match pMany n r with
   | some (l, r') => some (x :: l, r')
   | none => none
  | none => none
def pD : Int → Nat → List Int → Option (List Int × List Int)
 | _, 0, xs => some ([], xs)
 | a, n + 1, xs => match pI xs with
  | some (x, r) => match pD (IntKind.i64.wrap (a + x)) n r with
   | some (l, r') => some (IntKind.i64.wrap (a + x) :: l, r')
   | none => none
  | none => none
def pR : Nat → Nat → List Int → Option (List Int × List Int)
 | 0, _, xs => some ([], xs)
 | f + 1, n, xs => if n = 0 then some ([], xs) else match pI xs with
  | some (x, r) => match pU ((n - 1 : Nat) : Int) r with
   | some (k, r') => match pR f (n - (k.toNat + 1)) r' with
    | some (l, r'') => some (List.replicate (k.toNat + 1) x ++ l, r'')
    | none => none
   | none => none
  | none => none
def toN (xs : List Int) : List Nat := xs.map Int.toNat
def part (n w v : Nat) : List Int := (List.range n).map fun q => IntKind.i64.wrap ((v / 2 ^ (q * w) % 2 ^ w : Nat) : Int)
def pP (n : Nat) (xs : List Int) : Option (List Int × List Int) := match pI xs with
 | some (lo, r) => match pB r with
  | some (w, r') => if w ≤ 64 ∧ r'.length = (n * w.toNat + 7) / 8 ∧ V 8 (toN r') < 2 ^ (n * w.toNat) then some ((part n w.toNat (V 8 (toN r'))).map fun x => IntKind.i64.wrap (x + lo), []) else none
  | none => none
 | none => none
def pBody (w : Int) (n : Nat) (r : List Int) : Option (List Int × List Int) :=
 if w = 0 then pMany n r else if w = 1 then pD 0 n r else if w = 2 then pR n n r else if 0 < n then pP n r else some ([], r)
def pInts (xs : List Int) : Option (List Int × List Int) := match pB xs with
 | some (w, r) => if w ≤ 3 then (match pU 4096 r with
  | some (n, r') => pBody w n.toNat r'
  | none => none) else none
 | none => none
theorem pB_bs {xs r : List Int} {b : Int} (hB : Bs xs) (h : pB xs = some (b, r)) : (0 ≤ b ∧ b < 256) ∧ Bs r ∧ xs = b :: r := by
 cases xs with
 | nil => cases h
 | cons c xs => cases h; exact ⟨hB.cons.1, hB.cons.2, rfl⟩
theorem list_loop (n : Nat) (hn : n ≤ 4096) : ∀ (m k : Nat) (acc xs : List Int), Bs xs → k + m = n → acc.length = k →
  ∃ y, loop (fun s : List Int × List Int × Int => column_list_int64_l1 (n : Int) s.1 s.2.1 s.2.2) (xs, acc, (k : Int)) = some y ∧ match pMany m xs with
   | some (l, r) => y = .inl (r, acc ++ l)
   | none => ∃ s, y = .inr (.inr s)
 | 0, k, acc, xs, hB, hk, ha => by
  refine ⟨_, loop_end (t := Sum.inl (xs, acc)) ?_, by simp [pMany]⟩
  show column_list_int64_l1 (n : Int) xs acc (k : Int) = _
  unfold column_list_int64_l1
  rw [if_neg (by simp only [decide_eq_true_eq]; omega)]
 | m + 1, k, acc, xs, hB, hk, ha => by
  unfold pMany
  rcases (Int_is hB).cases with ⟨x, r, h1, h2⟩ | ⟨h1, s, h2⟩
  ·rw [h1]
   obtain ⟨y, hy, hm⟩ := list_loop n hn m (k + 1) (acc ++ [x]) r (pI_bs hB h1).1 (by omega) (by simp [ha])
   refine ⟨y, (loop_nxt (s' := (r, acc ++ [x], ((k + 1 : Nat) : Int))) ?_).trans hy, ?_⟩
   ·show column_list_int64_l1 (n : Int) xs acc (k : Int) = _
    unfold column_list_int64_l1
    rw [if_pos (by simp only [decide_eq_true_eq]; omega), h2]
    simp only [Option.bind_some, s_inl, lt_]
    rw [chk_pos (by simp; omega), w64 (by omega) (by omega)]
    rfl
   ·simp only
    revert hm
    cases pMany m r with
    | none => exact id
    | some q => intro hm; simpa using hm
  ·rw [h1]
   refine ⟨_, loop_end (t := Sum.inr (.inr s)) ?_, s, rfl⟩
   show column_list_int64_l1 (n : Int) xs acc (k : Int) = _
   unfold column_list_int64_l1
   rw [if_pos (by simp only [decide_eq_true_eq]; omega), h2]
   rfl
theorem list_is {n : Nat} (hn : n ≤ 4096) {xs : List Int} (hB : Bs xs) : IsR (column_list_int64 (n : Int) ⟨xs⟩) (pMany n xs) := by
 obtain ⟨y, hy, hm⟩ := list_loop n hn n 0 [] xs hB (by omega) rfl
 unfold column_list_int64
 rw [show (0 : Int) = ((0 : Nat) : Int) from rfl, hy]
 simp only [Option.bind_some]
 revert hm
 cases pMany n xs with
 | none => rintro ⟨s, rfl⟩; exact ⟨s, rfl⟩
 | some q => intro hm; subst hm; rfl
theorem dl_loop (n : Nat) (hn : n ≤ 4096) : ∀ (m k : Nat) (a : Int) (acc xs : List Int), Bs xs → k + m = n → acc.length = k →
  ∃ y, loop (fun s : List Int × List Int × Int × Int => column_ints_l1 (n : Int) s.1 s.2.1 s.2.2.1 s.2.2.2) (xs, acc, a, (k : Int)) = some y ∧ match pD a m xs with
   | some (l, r) => y = .inl (r, acc ++ l)
   | none => ∃ s, y = .inr (.inr s)
 | 0, k, a, acc, xs, hB, hk, ha => by
  refine ⟨_, loop_end (t := Sum.inl (xs, acc)) ?_, by simp [pD]⟩
  show column_ints_l1 (n : Int) xs acc a (k : Int) = _
  unfold column_ints_l1
  rw [if_neg (by simp only [decide_eq_true_eq]; omega)]
 | m + 1, k, a, acc, xs, hB, hk, ha => by
  unfold pD
  rcases (Int_is hB).cases with ⟨x, r, h1, h2⟩ | ⟨h1, s, h2⟩
  ·rw [h1]
   obtain ⟨y, hy, hm⟩ := dl_loop n hn m (k + 1) (IntKind.i64.wrap (a + x)) (acc ++ [IntKind.i64.wrap (a + x)]) r (pI_bs hB h1).1 (by omega) (by simp [ha])
   refine ⟨y, (loop_nxt (s' := (r, acc ++ [IntKind.i64.wrap (a + x)], IntKind.i64.wrap (a + x), ((k + 1 : Nat) : Int))) ?_).trans hy, ?_⟩
   ·show column_ints_l1 (n : Int) xs acc a (k : Int) = _
    unfold column_ints_l1
    rw [if_pos (by simp only [decide_eq_true_eq]; omega), h2]
    simp only [Option.bind_some, s_inl, lt_]
    rw [chk_pos (by simp; omega), w64 (n := (k : Int) + 1) (by omega) (by omega)]
    rfl
   ·simp only
    revert hm
    cases pD (IntKind.i64.wrap (a + x)) m r with
    | none => exact id
    | some q => intro hm; simpa using hm
  ·rw [h1]
   refine ⟨_, loop_end (t := Sum.inr (.inr s)) ?_, s, rfl⟩
   show column_ints_l1 (n : Int) xs acc a (k : Int) = _
   unfold column_ints_l1
   rw [if_pos (by simp only [decide_eq_true_eq]; omega), h2]
   rfl
theorem rep_loop (y : Int × S106) (k : Nat) (acc : List Int) (h : acc.length + k ≤ 8192) : loop (fun s : List Int × Int => column_ints_l3 y (k : Int) s.1 s.2) (acc, 0) = some (acc ++ List.replicate k y.1) := by
 have := loop_to (b := fun s : List Int × Int => column_ints_l3 y (k : Int) s.1 s.2) (fun j => (acc ++ List.replicate j y.1, (j : Int))) (t := acc ++ List.replicate k y.1) k (fun j hj => by
  show column_ints_l3 y (k : Int) (acc ++ List.replicate j y.1) (j : Int) = _
  unfold column_ints_l3
  rw [if_pos (by simp only [decide_eq_true_eq]; omega), chk_pos (by simp; omega), lt_, u64w (by omega) (by omega), List.replicate_succ', List.append_assoc]
  rfl) (by
  show column_ints_l3 y (k : Int) (acc ++ List.replicate k y.1) (k : Int) = _
  unfold column_ints_l3
  rw [if_neg (by simp)])
 simpa using this
theorem rl_loop (n : Nat) (hn : n ≤ 4096) : ∀ (f m : Nat) (acc xs : List Int), Bs xs → acc.length + m = n → m ≤ f →
  ∃ y, loop (fun s : List Int × List Int => column_ints_l2 (n : Int) s.1 s.2) (xs, acc) = some y ∧ match pR f m xs with
   | some (l, r) => y = .inl (r, acc ++ l)
   | none => ∃ s, y = .inr (.inr s)
 | 0, m, acc, xs, hB, hk, hf => by
  refine ⟨_, loop_end (t := Sum.inl (xs, acc)) ?_, by simp [pR]⟩
  show column_ints_l2 (n : Int) xs acc = _
  unfold column_ints_l2
  rw [if_neg (by simp only [decide_eq_true_eq]; omega)]
 | f + 1, m, acc, xs, hB, hk, hf => by
  unfold pR
  by_cases hm0 : m = 0
  ·rw [if_pos hm0]
   refine ⟨_, loop_end (t := Sum.inl (xs, acc)) ?_, by simp⟩
   show column_ints_l2 (n : Int) xs acc = _
   unfold column_ints_l2
   rw [if_neg (by simp only [decide_eq_true_eq]; omega)]
  ·rw [if_neg hm0]
   rcases (Int_is hB).cases with ⟨x, r, h1, h2⟩ | ⟨h1, s, h2⟩
   ·rw [h1]
    simp only
    have hBr := (pI_bs hB h1).1
    have e1 : IntKind.u64.wrap (IntKind.i64.wrap (IntKind.i64.wrap ((n : Int) - (acc.length : Int)) - 1)) = ((m - 1 : Nat) : Int) := by
     rw [w64 (n := (n : Int) - (acc.length : Int)) (by omega) (by omega), w64 (by omega) (by omega), u64w (by omega) (by omega)]
     omega
    rcases (Uint_is ((m - 1 : Nat) : Int) hBr).cases with ⟨k, r', h3, h4⟩ | ⟨h3, s, h4⟩
    ·rw [h3]
     simp only
     obtain ⟨q1, q2, q3⟩ := (pU_some h3).1
     obtain ⟨c, rfl⟩ : ∃ c : Nat, k = (c : Int) := ⟨k.toNat, by omega⟩
     rw [Int.toNat_natCast]
     obtain ⟨y, hy, hm⟩ := rl_loop n hn f (m - (c + 1)) (acc ++ List.replicate (c + 1) x) r' (pU_bs hBr h3) (by simp; omega) (by omega)
     refine ⟨y, (loop_nxt (s' := (r', acc ++ List.replicate (c + 1) x)) ?_).trans hy, ?_⟩
     ·show column_ints_l2 (n : Int) xs acc = _
      unfold column_ints_l2
      rw [if_pos (by simp only [decide_eq_true_eq]; omega), h2]
      simp only [Option.bind_some, s_inl, lt_]
      rw [e1, h4]
      simp only [Option.bind_some, s_inl]
      rw [u64w (by omega) (by omega), show (1 : Int) + (c : Int) = ((c + 1 : Nat) : Int) by omega, rep_loop _ _ _ (by omega)]
      rfl
     ·revert hm
      cases pR f (m - (c + 1)) r' with
      | none => exact id
      | some q => intro hm; simpa using hm
    ·rw [h3]
     refine ⟨_, loop_end (t := Sum.inr (.inr s)) ?_, s, rfl⟩
     show column_ints_l2 (n : Int) xs acc = _
     unfold column_ints_l2
     rw [if_pos (by simp only [decide_eq_true_eq]; omega), h2]
     simp only [Option.bind_some, s_inl, lt_]
     rw [e1, h4]
     rfl
   ·rw [h1]
    refine ⟨_, loop_end (t := Sum.inr (.inr s)) ?_, s, rfl⟩
    show column_ints_l2 (n : Int) xs acc = _
    unfold column_ints_l2
    rw [if_pos (by simp only [decide_eq_true_eq]; omega), h2]
    rfl
theorem toN_get {xs : List Int} (hB : Bs xs) {j : Nat} (h : j < xs.length) : ∃ b : Nat, xs[j]? = some (b : Int) ∧ (toN xs)[j]? = some b ∧ b < 256 := by
 have hx := List.getElem?_eq_getElem h
 have := hB _ (List.mem_of_getElem? hx)
 refine ⟨xs[j].toNat, by rw [hx]; congr 1; omega, by simp [toN, hx], by omega⟩
theorem toN_lt {xs : List Int} (hB : Bs xs) : Lt 8 (toN xs) := by
 intro d hd
 obtain ⟨b, hb, rfl⟩ := List.mem_map.1 hd
 have := hB b hb
 omega
theorem part_length (n w v : Nat) : (part n w v).length = n := by simp [part]
theorem part_get {n w v q : Nat} (h : q < n) : (part n w v)[q]? = some (IntKind.i64.wrap ((v / 2 ^ (q * w) % 2 ^ w : Nat) : Int)) := by
 unfold part
 rw [List.getElem?_map, List.getElem?_range h]; rfl
theorem ext_int {xs ys : List Int} (hl : xs.length = ys.length) (h : ∀ j : Nat, j < xs.length → xs[j]? = ys[j]?) : xs = ys := by
 apply List.ext_getElem? fun j => ?_
 rcases Nat.lt_or_ge j xs.length with hj | hj
 ·exact h j hj
 ·rw [List.getElem?_eq_none hj, List.getElem?_eq_none (by omega)]
theorem ofInt_wrap (a : Nat) : BitVec.ofInt 64 (IntKind.i64.wrap (a : Int)) = BitVec.ofNat 64 a := by
 apply BitVec.eq_of_toNat_eq
 rw [BitVec.toNat_ofInt, BitVec.toNat_ofNat, IntWalk.i64_left]
 unfold wrap64
 omega
theorem ior_wrap (a b : Nat) (ha : a < 18446744073709551616) (hb : b < 18446744073709551616) : ior .i64 (IntKind.i64.wrap (a : Int)) (IntKind.i64.wrap (b : Int)) = IntKind.i64.wrap ((a ||| b : Nat) : Int) := by
 show IntKind.i64.wrap (((BitVec.ofInt 64 (IntKind.i64.wrap (a : Int)) ||| BitVec.ofInt 64 (IntKind.i64.wrap (b : Int))).toNat : Nat) : Int) = _
 rw [ofInt_wrap, ofInt_wrap, BitVec.toNat_or, BitVec.toNat_ofNat, BitVec.toNat_ofNat, Nat.mod_eq_of_lt (show a < 2 ^ 64 by omega), Nat.mod_eq_of_lt (show b < 2 ^ 64 by omega)]
theorem part_step {n w v i : Nat} (hw : 0 < w) (h : i / w < n) : (part n w (v % 2 ^ i)).set (i / w) (IntKind.i64.wrap ((v % 2 ^ i / 2 ^ (i / w * w) % 2 ^ w + bt v i * 2 ^ (i % w) : Nat) : Int)) = part n w (v % 2 ^ (i + 1)) := by
 refine ext_int (by simp [part_length]) fun j hj => ?_
 rw [List.length_set, part_length] at hj
 rw [part_get hj]
 by_cases e : i / w = j
 ·subst e
  rw [List.getElem?_set_self (by rw [part_length]; exact hj), (part_new v i w hw).1]
 ·rw [List.getElem?_set_ne e, part_get hj, part_same v i j w hw (Ne.symm e)]
theorem unpack_loop {n w : Nat} (hn : n ≤ 4096) (hw : w ≤ 64) {xs : List Int} (hB : Bs xs) (hlen : xs.length = (n * w + 7) / 8) :
  ∃ y, loop (fun s : List Int × List Int × Int => column_unpack_l2 (n : Int) (w : Int) ((8 * xs.length : Nat) : Int) s.1 s.2.1 s.2.2) (xs, List.replicate n 0, 0) = some y ∧
   ((V 8 (toN xs) < 2 ^ (n * w) ∧ y = .inl (xs, part n w (V 8 (toN xs)))) ∨ (¬ V 8 (toN xs) < 2 ^ (n * w) ∧ ∃ s, y = .inr (.inr s))) := by
 have hnw : n * w ≤ 4096 * 64 := Nat.mul_le_mul hn hw
 have hL := toN_lt hB
 have hvt : V 8 (toN xs) < 2 ^ (8 * xs.length) := by
  have := V_lt hL
  rw [show (toN xs).length = xs.length by simp [toN], Nat.mul_comm] at this
  exact this
 obtain ⟨v, hv⟩ : ∃ v, v = V 8 (toN xs) := ⟨_, rfl⟩
 have hbt : ∀ j t b, (toN xs)[j]? = some b → t < 8 → bt v (j * 8 + t) = bt b t := fun j t b hb ht => by rw [hv]; exact bt_V hL hb ht
 rw [← hv] at hvt ⊢
 clear hv hL
 refine loop_good (b := fun s : List Int × List Int × Int => column_unpack_l2 (n : Int) (w : Int) ((8 * xs.length : Nat) : Int) s.1 s.2.1 s.2.2) (s := (xs, List.replicate n 0, 0))
  (fun s => ∃ i : Nat, s = (xs, part n w (v % 2 ^ i), (i : Int)) ∧ i ≤ 8 * xs.length ∧ (n * w ≤ i → v % 2 ^ i < 2 ^ (n * w))) (fun s => (((8 * xs.length : Nat) : Int) - s.2.2).toNat)
  (fun y => (v < 2 ^ (n * w) ∧ y = .inl (xs, part n w v)) ∨ (¬ v < 2 ^ (n * w) ∧ ∃ s, y = .inr (.inr s))) ⟨0, ?_, by omega, fun _ => by rw [Nat.pow_zero, Nat.mod_one]; exact Nat.two_pow_pos _⟩ ?_
 ·rw [Nat.pow_zero, Nat.mod_one, show part n w 0 = List.replicate n 0 by
   unfold part
   rw [List.eq_replicate_iff]
   refine ⟨by simp, fun b hb => ?_⟩
   obtain ⟨q, _, rfl⟩ := List.mem_map.1 hb
   simp
   rfl]
  rfl
 ·rintro s ⟨i, rfl, hit, hz⟩
  show (∃ s', column_unpack_l2 (n : Int) (w : Int) ((8 * xs.length : Nat) : Int) xs (part n w (v % 2 ^ i)) (i : Int) = some (.inl s') ∧ _) ∨ ∃ t, column_unpack_l2 (n : Int) (w : Int) ((8 * xs.length : Nat) : Int) xs (part n w (v % 2 ^ i)) (i : Int) = some (.inr t) ∧ _
  unfold column_unpack_l2
  by_cases hlt : i < 8 * xs.length
  ·obtain ⟨b, hb1, hb2, hb3⟩ := toN_get hB (j := i / 8) (by omega)
   have hbit := hbt (i / 8) (i % 8) b hb2 (by omega)
   rw [show i / 8 * 8 + i % 8 = i by omega] at hbit
   have hb := bt_lt v i
   have e1 : ishr .u8 (b : Int) ((i % 8 : Nat) : Int) = ((b / 2 ^ (i % 8) : Nat) : Int) := ishr_nat (k := .u8) b (i % 8) (by show _ ≤ 8; omega)
   have e0 : b / 2 ^ (i % 8) ≤ b := Nat.div_le_self _ _
   have e2 : iand .u64 ((b / 2 ^ (i % 8) : Nat) : Int) 1 = ((bt v i : Nat) : Int) := by
    have := iand_u64 (a := b / 2 ^ (i % 8)) (b := 1) (by omega) (by omega)
    rw [show ((1 : Nat) : Int) = 1 from rfl] at this
    rw [this, and_1, hbit]; rfl
   rw [if_pos (by simp only [decide_eq_true_eq]; omega), lt_, show (i : Int).tdiv 8 = ((i / 8 : Nat) : Int) from rfl, w64 (by omega) (by omega), at_int rfl hb1]
   simp only [Option.bind_some, lt_]
   rw [show (i : Int).tmod 8 = ((i % 8 : Nat) : Int) from rfl, chk_pos (by omega), e1, u64w (Int.natCast_nonneg _) (by omega), e2, ← Int.natCast_mul, w64 (n := ((n * w : Nat) : Int)) (by omega) (by omega)]
   by_cases hin : i < n * w
   · -- a bit of a number
    have hw0 : 0 < w := by rcases Nat.eq_zero_or_pos w with h | h; rw [h] at hin; simp at hin; exact h
    have hq : i / w < n := (Nat.div_lt_iff_lt_mul hw0).2 hin
    have hk : i % w < w := Nat.mod_lt _ hw0
    rw [if_neg (by simp only [decide_eq_true_eq]; omega), chk_pos (by omega), show (i : Int).tdiv (w : Int) = ((i / w : Nat) : Int) from rfl, w64 (n := ((i / w : Nat) : Int)) (Int.le_trans (by decide) (Int.natCast_nonneg _)) (by omega), at_int rfl (part_get hq)]
    simp only [Option.bind_some]
    obtain ⟨hnew, hcur⟩ := part_new v i w hw0
    have hstep := part_step (v := v) hw0 hq
    have hp : 2 ^ (i % w) ≤ 2 ^ 63 := Nat.pow_le_pow_right (by decide) (by omega)
    have hbp : bt v i * 2 ^ (i % w) ≤ 1 * 2 ^ (i % w) := Nat.mul_le_mul_right _ (by omega)
    have hm : bt v i * 2 ^ (i % w) % 18446744073709551616 = bt v i * 2 ^ (i % w) := Nat.mod_eq_of_lt (by omega)
    rw [chk_pos (by omega), show (i : Int).tmod (w : Int) = ((i % w : Nat) : Int) from rfl, chk_pos (by omega), ishl_u64 _ _ (by omega), hm, ior_wrap _ _ (by omega) (by omega), or_top hcur, Int.toNat_natCast, hstep]
    unfold column_unpack_b3
    rw [lt_, w64 (n := (i : Int) + 1) (by omega) (by omega)]
    exact .inl ⟨_, rfl, ⟨i + 1, rfl, by omega, fun h => by
     have h1 : v % 2 ^ (i + 1) < 2 ^ (i + 1) := Nat.mod_lt _ (Nat.two_pow_pos _)
     have h2 : i + 1 = n * w := by omega
     rw [h2] at h1 ⊢
     exact h1⟩, by simp only; omega⟩
   ·rw [if_pos (by simp only [decide_eq_true_eq]; omega)]
    have hms := mod_succ v i
    by_cases hb0 : bt v i = 0
    ·rw [hb0, show (((0 : Nat) : Int) == 0) = true from rfl, Check_t]
     simp only [Option.bind_some, s_inl]
     unfold column_unpack_b3
     rw [lt_, w64 (n := (i : Int) + 1) (by omega) (by omega)]
     rw [hb0, Nat.zero_mul, Nat.add_zero] at hms
     exact .inl ⟨_, rfl, ⟨i + 1, by rw [hms]; rfl, by omega, fun _ => by rw [hms]; exact hz (by omega)⟩, by simp only; omega⟩
    ·have hb1' : bt v i = 1 := by omega
     rw [hb1', show (((1 : Nat) : Int) == 0) = false from rfl, Check_f]
     refine .inr ⟨_, rfl, .inr ⟨fun hlt' => ?_, _, rfl⟩⟩
     have h1 : 2 ^ (n * w) ≤ 2 ^ i := Nat.pow_le_pow_right (by decide) (by omega)
     unfold bt at hb1'
     rw [Nat.div_eq_of_lt (by omega)] at hb1'
     cases hb1'
  ·have hie : i = 8 * xs.length := by omega
   rw [if_neg (by simp only [decide_eq_true_eq]; omega)]
   have hvv : v % 2 ^ i = v := Nat.mod_eq_of_lt (by rw [hie]; exact hvt)
   rw [hvv]
   refine .inr ⟨_, rfl, .inl ⟨?_, rfl⟩⟩
   have := hz (by omega)
   rwa [hvv] at this
theorem unpack_add (lo : Int) (y : Int × S106) (hy : y.1 = lo) (L : List Int) (h : L.length ≤ 4096) : loop (fun s : List Int × Int => column_unpack_l1 y L s.1 s.2) (L, 0) = some (L.map fun x => IntKind.i64.wrap (x + lo)) := by
 have := loop_to (b := fun s : List Int × Int => column_unpack_l1 y L s.1 s.2) (fun k => ((L.take k).map (fun x => IntKind.i64.wrap (x + lo)) ++ L.drop k, (k : Int))) (t := L.map fun x => IntKind.i64.wrap (x + lo)) L.length (fun k hk => by
  have hx := List.getElem?_eq_getElem hk
  have hd : L.drop k = L[k] :: L.drop (k + 1) := List.drop_eq_getElem_cons hk
  have hlen : ((L.take k).map (fun x => IntKind.i64.wrap (x + lo))).length = k := by simp; omega
  show column_unpack_l1 y L ((L.take k).map (fun x => IntKind.i64.wrap (x + lo)) ++ L.drop k) (k : Int) = _
  unfold column_unpack_l1
  rw [if_pos (by simp only [decide_eq_true_eq]; omega), at_int (n := k) (x := L[k]) rfl (by rw [List.getElem?_append_right (by omega), hlen, Nat.sub_self, hd]; rfl)]
  simp only [Option.bind_some, lt_]
  rw [hy, w64 (n := (k : Int) + 1) (by omega) (by omega), Int.toNat_natCast, take_snoc hx, List.map_append, List.append_assoc, List.set_append_right _ _ (by omega), hlen, Nat.sub_self, hd]
  rfl) (by
  show column_unpack_l1 y L _ (L.length : Int) = _
  unfold column_unpack_l1
  rw [if_neg (by simp), List.take_length, List.drop_length, List.append_nil])
 simpa using this
theorem unpack_is {n : Nat} (hn : n ≤ 4096) {xs : List Int} (hB : Bs xs) (hl : xs.length < 1099511627776) : IsR (column_unpack ⟨xs⟩ (n : Int)) (pP n xs) := by
 unfold column_unpack pP
 rcases (Int_is hB).cases with ⟨lo, r, h1, h2⟩ | ⟨h1, s, h2⟩
 ·rw [h1, h2]
  obtain ⟨hBr, hlo, p, hp, _⟩ := pI_bs hB h1
  have hrl : r.length ≤ xs.length := by rw [hp]; simp
  simp only [Option.bind_some, s_inl]
  rcases (IsR.cases (Byte_is r)) with ⟨wb, r', h3, h4⟩ | ⟨h3, s, h4⟩
  ·rw [h3, h4]
   obtain ⟨hwb, hBr', hr'⟩ := pB_bs hBr h3
   have hrl' : r'.length ≤ r.length := by rw [hr']; simp
   obtain ⟨w, rfl⟩ : ∃ w : Nat, wb = (w : Int) := ⟨wb.toNat, by omega⟩
   simp only [Option.bind_some, s_inl, lt_, Int.toNat_natCast]
   rw [w64 (n := (w : Int)) (by omega) (by omega)]
   by_cases hw : w ≤ 64
   ·have hnw : n * w ≤ 4096 * 64 := Nat.mul_le_mul hn hw
    rw [if_pos (by simp only [decide_eq_true_eq]; omega), ← Int.natCast_mul, w64 (n := ((n * w : Nat) : Int)) (by omega) (by omega), w64 (n := ((n * w : Nat) : Int) + 7) (by omega) (by omega),
     show (((n * w : Nat) : Int) + 7).tdiv 8 = (((n * w + 7) / 8 : Nat) : Int) from rfl, w64 (by omega) (by omega)]
    by_cases hlen : r'.length = (n * w + 7) / 8
    ·rw [show ((r'.length : Int) == (((n * w + 7) / 8 : Nat) : Int)) = true by rw [hlen]; simp, Check_t]
     simp only [Option.bind_some, s_inl]
     unfold column_unpack_j1
     rw [chk_pos (by omega), lt_, w64 (by omega) (by omega), Int.toNat_natCast]
     obtain ⟨y, hy, hcase⟩ := unpack_loop hn hw hBr' hlen
     rw [show (8 : Int) * (r'.length : Int) = ((8 * r'.length : Nat) : Int) by omega, hy]
     simp only [Option.bind_some]
     rcases hcase with ⟨hv, rfl⟩ | ⟨hv, s, rfl⟩
     ·rw [if_pos ⟨by omega, hlen, hv⟩]
      simp only
      unfold column_unpack_x2_0 column_unpack_b1
      rw [unpack_add lo _ rfl _ (by rw [part_length]; exact hn)]
      rfl
     ·rw [if_neg (fun q => hv q.2.2)]
      exact ⟨s, rfl⟩
    ·rw [show ((r'.length : Int) == (((n * w + 7) / 8 : Nat) : Int)) = false by simp; omega, Check_f, if_neg (fun q => hlen q.2.1)]
     exact ⟨_, rfl⟩
   ·rw [if_neg (by simp only [decide_eq_true_eq]; omega), Check_f, if_neg (fun q => hw (by omega))]
    exact ⟨_, rfl⟩
  ·rw [h3, h4]
   exact ⟨s, rfl⟩
 ·rw [h1, h2]
  exact ⟨s, rfl⟩
theorem ints_is {xs : List Int} (hB : Bs xs) (hl : xs.length < 1099511627776) : IsR (column_ints ⟨xs⟩) (pInts xs) := by
 unfold column_ints pInts
 rcases (IsR.cases (Byte_is xs)) with ⟨w, r, h1, h2⟩ | ⟨h1, s, h2⟩
 ·rw [h1, h2]
  obtain ⟨hw, hBr, hr⟩ := pB_bs hB h1
  have hrl : r.length ≤ xs.length := by rw [hr]; simp
  simp only [Option.bind_some, s_inl]
  by_cases hw3 : w ≤ 3
  ·rw [show decide (w ≤ 3) = true by simpa using hw3, Check_t, if_pos hw3]
   simp only [Option.bind_some, s_inl]
   rcases (Uint_is 4096 hBr).cases with ⟨n, r', h3, h4⟩ | ⟨h3, s, h4⟩
   ·rw [h3, h4]
    obtain ⟨⟨q1, q2, q3⟩, p, hp, _⟩ := pU_some h3
    have hBr' := pU_bs hBr h3
    have hrl' : r'.length ≤ r.length := by rw [hp]; simp
    obtain ⟨n, rfl⟩ : ∃ m : Nat, n = (m : Int) := ⟨n.toNat, by omega⟩
    simp only [Option.bind_some, s_inl, lt_, Int.toNat_natCast]
    rw [w64 (by omega) (by omega)]
    unfold pBody
    by_cases w0 : w = 0
    ·rw [if_pos (by simpa using w0), if_pos w0]
     rcases (list_is (n := n) (by omega) hBr').cases with ⟨l, r'', h5, h6⟩ | ⟨h5, s, h6⟩
     ·rw [h5, h6]; rfl
     ·rw [h5, h6]; exact ⟨s, rfl⟩
    rw [if_neg (by simpa using w0), if_neg w0]
    by_cases w1 : w = 1
    ·rw [if_pos (by simpa using w1), if_pos w1]
     obtain ⟨y, hy, hm⟩ := dl_loop n (by omega) n 0 0 [] r' hBr' (by omega) rfl
     rw [show ((0 : Nat) : Int) = 0 from rfl] at hy
     rw [hy]
     revert hm
     cases pD 0 n r' with
     | none => rintro ⟨s, rfl⟩; exact ⟨s, rfl⟩
     | some q => intro hm; subst hm; rfl
    rw [if_neg (by simpa using w1), if_neg w1]
    by_cases w2 : w = 2
    ·rw [if_pos (by simpa using w2), if_pos w2]
     obtain ⟨y, hy, hm⟩ := rl_loop n (by omega) n n [] r' hBr' (by simp) (Nat.le_refl _)
     rw [hy]
     revert hm
     cases pR n n r' with
     | none => rintro ⟨s, rfl⟩; exact ⟨s, rfl⟩
     | some q => intro hm; subst hm; rfl
    rw [if_neg (by simpa using w2), if_neg w2, if_pos (by simp; omega)]
    by_cases hn0 : 0 < n
    ·rw [if_pos (by simp only [decide_eq_true_eq]; omega), if_pos hn0]
     rcases (unpack_is (n := n) (by omega) hBr' (by omega)).cases with ⟨l, r'', h5, h6⟩ | ⟨h5, s, h6⟩
     ·rw [h5, h6]; rfl
     ·rw [h5, h6]; exact ⟨s, rfl⟩
    ·rw [if_neg (by simp only [decide_eq_true_eq]; omega), if_neg hn0]
     rfl
   ·rw [h3, h4]
    exact ⟨s, rfl⟩
  ·rw [show decide (w ≤ 3) = false by simpa using hw3, Check_f, if_neg hw3]
   exact ⟨_, rfl⟩
 ·rw [h1, h2]
  exact ⟨s, rfl⟩
def readL (xs : List Int) : Option (List Int) := match pInts xs with
 | some (l, []) => some l
 | _ => none
theorem ReadInts_col {xs : List Int} (hB : Bs xs) (hl : xs.length < 1099511627776) : column_ReadInts xs = some (match readL xs with | some l => (l, 0) | none => ([], 3)) := by
 unfold column_ReadInts Try_column_ReadInts_1 column_ReadInts_1 readL
 rcases (ints_is hB hl).cases with ⟨l, r, h1, h2⟩ | ⟨h1, s, h2⟩
 ·rw [h1, h2]
  simp only [Option.bind_some, s_inl]
  cases r with
  | nil => rfl
  | cons b r => rfl
 ·rw [h1, h2]
  rfl
theorem pMany_b0 : ∀ (l r : List Int), I64 l → pMany l.length (b0 l ++ r) = some (l, r)
 | [], r, _ => rfl
 | x :: l, r, h => by
  have e : b0 (x :: l) ++ r = uv (zz x) ++ (b0 l ++ r) := by simp [b0]
  rw [e, List.length_cons, pMany, pI_uv (h x List.mem_cons_self)]
  simp only
  rw [pMany_b0 l r fun y hy => h y (List.mem_cons_of_mem _ hy)]
theorem wrap_back (a x : Int) (h : i64 x) : IntKind.i64.wrap (a + IntKind.i64.wrap (x - a)) = x := by
 unfold i64 at h
 rw [IntWalk.i64_left, IntWalk.i64_left]
 unfold wrap64
 omega
theorem pD_bD : ∀ (l r : List Int) (a : Int), I64 l → pD a l.length (bD a l ++ r) = some (l, r)
 | [], r, a, _ => rfl
 | x :: l, r, a, h => by
  rw [bD, List.length_cons, pD, List.append_assoc, pI_uv (i64_wrap _)]
  simp only
  rw [wrap_back a x (h x List.mem_cons_self), pD_bD l r x fun y hy => h y (List.mem_cons_of_mem _ hy)]
theorem pR_bR : ∀ (f : Nat) (l r : List Int), I64 l → l.length ≤ f → l.length ≤ 4096 → pR f l.length (bR 0 l ++ r) = some (l, r)
 | 0, l, r, _, hf, _ => by
  have : l = [] := List.eq_nil_of_length_eq_zero (by omega)
  subst this
  rfl
 | f + 1, [], r, _, _, _ => rfl
 | f + 1, x :: l, r, h, hf, hl => by
  obtain ⟨m, tl, hm, htl⟩ := run_split x l
  subst hm
  have hlen : (x :: (List.replicate m x ++ tl)).length = m + 1 + tl.length := by simp; omega
  rw [hlen] at hf hl ⊢
  rw [pR, if_neg (by omega), bR_run x tl htl m 0, Nat.zero_add, List.append_assoc, List.append_assoc, pI_uv (h x List.mem_cons_self)]
  simp only
  rw [pU_uv (by omega) _ (by omega)]
  simp only [Int.toNat_natCast]
  rw [show m + 1 + tl.length - (m + 1) = tl.length by omega, pR_bR f tl r (fun y hy => h y (List.mem_cons_of_mem _ (List.mem_append.2 (.inr hy)))) (by omega) (by omega)]
  simp only [List.replicate_succ, List.cons_append]
theorem toN_ofN (D : List Nat) : toN (ofN D) = D := by
 unfold toN ofN
 rw [List.map_map]
 have : (Int.toNat ∘ fun (n : Nat) => (n : Int)) = id := by funext n; simp
 rw [this, List.map_id]
theorem pk_back {x lo : Int} (hm : i64 x) (hlo : i64 lo) (h : lo ≤ x) : IntKind.i64.wrap (IntKind.i64.wrap (((x - lo).toNat : Nat) : Int) + lo) = x := by
 unfold i64 at hm hlo
 rw [IntWalk.i64_left, IntWalk.i64_left]
 unfold wrap64
 omega
theorem V_by_V {n w : Nat} {D : List Nat} (hv : V w D < 2 ^ (n * w)) : V 8 (by_ ((n * w + 7) / 8) (V w D)) = V w D := by
 refine V_by _ _ (Nat.lt_of_lt_of_le hv (Nat.pow_le_pow_right (by decide) ?_))
 generalize n * w = a
 omega
theorem pP_pk {x : Int} {l : List Int} (hl : (x :: l).length ≤ 4096) (hi : I64 (x :: l)) : pP (x :: l).length (pk (x :: l)) = some (x :: l, []) := by
 have hlo := mn_i64 hi
 have hle := mn_all (x := x) (l := l)
 have hw : wdt (ds (mn x l) (x :: l)) ≤ 64 := by
  have := wdt_64 hi hlo hle (x :: l).length
  rwa [List.take_of_length_le (by rw [ds_length]; exact Nat.le_refl _)] at this
 have hL := Lt_wdt (ds (mn x l) (x :: l))
 have hv := V_lt hL
 rw [ds_length] at hv
 unfold pP
 simp only [pk]
 generalize wdt (ds (mn x l) (x :: l)) = w at hw hL hv ⊢
 rw [List.append_assoc, pI_uv hlo]
 simp only [List.singleton_append, pB, Int.toNat_natCast]
 have hV8 := V_by_V hv
 rw [toN_ofN, hV8, if_pos ⟨by omega, by rw [ofN_length, by_length], hv⟩]
 congr 2
 refine ext_int (by simp [part_length]) fun j hj => ?_
 rw [List.length_map, part_length] at hj
 have hx := List.getElem?_eq_getElem hj
 have hm := hi.get hx
 have hmle := hle _ (List.mem_of_getElem? hx)
 rw [List.getElem?_map, part_get hj, V_get hL (ds_get hx), hx]
 simp only [Option.map_some, Option.some.injEq]
 exact pk_back hm hlo hmle
theorem read_as {w : Nat} {l : List Int} (hw : w < 4) (hl : l.length ≤ 4096) (hi : I64 l) : readL (asL w l) = some l := by
 unfold readL pInts asL
 simp only [pB]
 rw [if_pos (by omega), pU_uv (by omega) _ (by omega)]
 simp only [Int.toNat_natCast]
 have key : pBody (w : Int) l.length (body w l) = some (l, []) := by
  unfold pBody
  match w, hw with
  | 0, _ =>
   rw [if_pos (by rfl)]
   have := pMany_b0 l [] hi
   rwa [List.append_nil] at this
  | 1, _ =>
   rw [if_neg (by decide), if_pos (by rfl)]
   have := pD_bD l [] 0 hi
   rwa [List.append_nil] at this
  | 2, _ =>
   rw [if_neg (by decide), if_neg (by decide), if_pos (by rfl)]
   have := pR_bR l.length l [] hi (Nat.le_refl _) hl
   rwa [List.append_nil] at this
  | 3, _ =>
   rw [if_neg (by decide), if_neg (by decide), if_neg (by decide)]
   cases l with
   | nil => rfl
   | cons x l => rw [if_pos (by simp)]; exact pP_pk hl hi
 rw [key]
theorem shorter_or (a b : List Int) : shorter a b = a ∨ shorter a b = b := by
 unfold shorter
 split
 ·exact .inr rfl
 ·exact .inl rfl
theorem shorter_le (a b : List Int) : (shorter a b).length ≤ a.length ∧ (shorter a b).length ≤ b.length := by
 unfold shorter
 split <;> omega
theorem intsL_as (l : List Int) : ∃ w < 4, intsL l = asL w l := by
 unfold intsL
 rcases shorter_or (shorter (shorter (asL 0 l) (asL 1 l)) (asL 2 l)) (asL 3 l) with h | h
 ·rw [h]
  rcases shorter_or (shorter (asL 0 l) (asL 1 l)) (asL 2 l) with h | h
  ·rw [h]
   rcases shorter_or (asL 0 l) (asL 1 l) with h | h
   ·exact ⟨0, by decide, h⟩
   ·exact ⟨1, by decide, h⟩
  ·exact ⟨2, by decide, h⟩
 ·exact ⟨3, by decide, h⟩
theorem intsL_le (l : List Int) {w : Nat} (hw : w < 4) : (intsL l).length ≤ (asL w l).length := by
 have h3 := shorter_le (shorter (shorter (asL 0 l) (asL 1 l)) (asL 2 l)) (asL 3 l)
 have h2 := shorter_le (shorter (asL 0 l) (asL 1 l)) (asL 2 l)
 have h1 := shorter_le (asL 0 l) (asL 1 l)
 unfold intsL
 match w, hw with
 | 0, _ => omega
 | 1, _ => omega
 | 2, _ => omega
 | 3, _ => omega
theorem read_ints {l : List Int} (hl : l.length ≤ 4096) (hi : I64 l) : readL (intsL l) = some l := by
 obtain ⟨w, hw, e⟩ := intsL_as l
 rw [e, read_as hw hl hi]
theorem Bs.ofN {D : List Nat} (h : Lt 8 D) : Bs (ofN D) := by
 intro b hb
 obtain ⟨d, hd, rfl⟩ := List.mem_map.1 hb
 have := h d hd
 omega
theorem Bs_b0 : ∀ (l : List Int), Bs (b0 l)
 | [] => Bs.nil
 | x :: l => by
  have e : b0 (x :: l) = uv (zz x) ++ b0 l := by simp [b0]
  rw [e]
  exact (Bs.uv _).app (Bs_b0 l)
theorem Bs_bD : ∀ (l : List Int) (a : Int), Bs (bD a l)
 | [], _ => Bs.nil
 | x :: l, a => (Bs.uv _).app (Bs_bD l x)
theorem Bs_bR : ∀ (l : List Int) (k : Nat), Bs (bR k l)
 | [], _ => Bs.nil
 | [x], k => (Bs.uv _).app (Bs.uv _)
 | x :: y :: l, k => by
  unfold bR
  split
  ·exact Bs_bR (y :: l) _
  ·exact ((Bs.uv _).app (Bs.uv _)).app (Bs_bR (y :: l) _)
theorem Bs_pk {l : List Int} (hi : I64 l) : Bs (pk l) := by
 cases l with
 | nil => exact Bs.nil
 | cons x l =>
  have hlo := mn_i64 hi
  have hle := mn_all (x := x) (l := l)
  have hw : wdt (ds (mn x l) (x :: l)) ≤ 64 := by
   have := wdt_64 hi hlo hle (x :: l).length
   rwa [List.take_of_length_le (by rw [ds_length]; exact Nat.le_refl _)] at this
  exact ((Bs.uv _).app (Bs.mk (by omega) Bs.nil)).app (Bs.ofN (by_lt _ _))
theorem Bs_as {w : Nat} {l : List Int} (hw : w < 4) (hi : I64 l) : Bs (asL w l) := by
 refine Bs.mk (by omega) ((Bs.uv _).app ?_)
 match w, hw with
 | 0, _ => exact Bs_b0 l
 | 1, _ => exact Bs_bD l 0
 | 2, _ => exact Bs_bR l 0
 | 3, _ => exact Bs_pk hi
theorem len_pk {l : List Int} (hl : l.length ≤ 4096) (hi : I64 l) : (pk l).length ≤ 11 + (l.length * 64 + 7) / 8 := by
 cases l with
 | nil => simp [pk]
 | cons x l =>
  have hlo := mn_i64 hi
  have hle := mn_all (x := x) (l := l)
  have hw : wdt (ds (mn x l) (x :: l)) ≤ 64 := by
   have := wdt_64 hi hlo hle (x :: l).length
   rwa [List.take_of_length_le (by rw [ds_length]; exact Nat.le_refl _)] at this
  have hz := uv_length64 (zz_lt hlo)
  have := Nat.mul_le_mul_left (x :: l).length hw
  simp only [pk, List.length_append, List.length_singleton, ofN_length, by_length]
  generalize (x :: l).length = n at *
  omega
theorem len_as {w : Nat} {l : List Int} (hw : w < 4) (hl : l.length ≤ 4096) (hi : I64 l) : (asL w l).length ≤ 1048576 := by
 have hu := uv_length64 (n := l.length) (by omega)
 unfold asL
 simp only [List.length_cons, List.length_append]
 match w, hw with
 | 0, _ => have := len_b0 hi; simp only [body]; omega
 | 1, _ => have := len_bD l 0; simp only [body]; omega
 | 2, _ => have := len_bR l 0 hi (by omega); simp only [body]; omega
 | 3, _ => have := len_pk hl hi; simp only [body]; omega
def nanB (a : Nat) : Bool := a / 4503599627370496 % 2048 == 2047 && a % 4503599627370496 != 0
theorem order_self (d : Ieee.Datum) : (d.order d == some .eq) = !d.isNaN := by
 cases d with
 | number s m p => simp [Ieee.Datum.order, Ieee.Datum.isNaN]
 | infinity s => simp [Ieee.Datum.order, Ieee.Datum.isNaN]
 | nan s f => simp [Ieee.Datum.order, Ieee.Datum.isNaN]
theorem feq_self (a : Nat) : feq a a = !nanB a := by
 unfold feq Ieee.Format.order
 rw [order_self]
 congr 1
 unfold Ieee.Format.read nanB
 have e1 : FloatKind.f64.format.signWeight = 9223372036854775808 := by decide
 have e2 : FloatKind.f64.format.binade = 4503599627370496 := by decide
 have e3 : FloatKind.f64.format.infRung = 9218868437227405312 := by decide
 simp only [e1, e2, e3]
 rw [Bool.eq_iff_iff]
 simp only [Bool.and_eq_true, beq_iff_eq, bne_iff_ne, ne_eq]
 split
 ·simp [Ieee.Datum.isNaN]; omega
 ·split
  ·simp [Ieee.Datum.isNaN]; omega
  ·split
   ·simp [Ieee.Datum.isNaN]; omega
   ·simp [Ieee.Datum.isNaN]; omega
def canon (a : Nat) : Nat := if nanB a then 9221120237041090560 else a
theorem canon_canon (a : Nat) : canon (canon a) = canon a := by
 unfold canon
 cases h : nanB a with
 | true => rw [if_pos rfl, if_pos (by decide)]
 | false => simp [h]
theorem canon_lt {a : Nat} (h : a < 18446744073709551616) : canon a < 18446744073709551616 := by
 unfold canon; split <;> omega
theorem rBits_eq (a : Nat) : r01_Bits a = some (canon a : Int) := by
 unfold r01_Bits r01_Bits_j1 canon nanB
 have e1 : ishr .u64 (a : Int) 52 = ((a / 4503599627370496 : Nat) : Int) := ishr_nat (k := .u64) a 52 (by decide)
 have e2 : (((a / 4503599627370496 : Nat) : Int)).tmod 2048 = ((a / 4503599627370496 % 2048 : Nat) : Int) := rfl
 have e3 : ((a : Int)).tmod 4503599627370496 = ((a % 4503599627370496 : Nat) : Int) := rfl
 simp only [lt_]
 rw [e1, e2, e3]
 by_cases h1 : a / 4503599627370496 % 2048 = 2047
 ·by_cases h2 : a % 4503599627370496 = 0
  ·simp [h1, h2]
  ·simp [h1, h2]; omega
 ·have : ((a / 4503599627370496 % 2048 : Nat) : Int) ≠ 2047 := by omega
  simp only [beq_iff_eq, this, if_false]
  simp [h1]
theorem cCanon_eq (a : Nat) : real_Canon a = some (canon a) := by
 unfold real_Canon math_IsNaN canon
 simp only [Option.bind_some, feq_self]
 cases nanB a <;> rfl
theorem cBits_eq (a : Nat) : real_Bits a = some (canon a : Int) := by
 unfold real_Bits
 rw [cCanon_eq]; rfl
theorem cOf_eq (a : Int) : real_Of a = some (canon a.toNat) := by
 unfold real_Of
 rw [cCanon_eq]; rfl
theorem rSame_eq (a b : Nat) : r01_Same a b = some ((canon a : Int) == (canon b : Int)) := by
 unfold r01_Same
 rw [rBits_eq, rBits_eq]; rfl
def rl (l : List Nat) : List Int := l.map fun x => IntKind.i64.wrap (canon x : Int)
theorem rl_i64 (l : List Nat) : I64 (rl l) := fun x hx => by
 obtain ⟨y, _, rfl⟩ := List.mem_map.1 hx
 exact i64_wrap _
theorem rl_length (l : List Nat) : (rl l).length = l.length := by simp [rl]
theorem rl_snoc {l : List Nat} {k x : Nat} (h : l[k]? = some x) : rl (l.take (k + 1)) = rl (l.take k) ++ [IntKind.i64.wrap (canon x : Int)] := by
 unfold rl
 rw [List.take_add_one, h, List.map_append]; rfl
theorem Reals_col {l : List Nat} (h : l.length ≤ 4096) : column_Reals l = some (intsL (rl l)) := by
 unfold column_Reals
 have := loop_to (b := fun s : List Int × Int => column_Reals_l1 l s.1 s.2) (fun k => (rl (l.take k), (k : Int))) (t := rl l) l.length (fun k hk => by
  have hx := List.getElem?_eq_getElem hk
  have hlen : (rl (l.take k)).length = k := by rw [rl_length, List.length_take]; omega
  show column_Reals_l1 l (rl (l.take k)) (k : Int) = _
  unfold column_Reals_l1
  rw [if_pos (by simp only [decide_eq_true_eq]; omega), at_int rfl hx]
  simp only [Option.bind_some]
  rw [cBits_eq]
  simp only [Option.bind_some, lt_]
  rw [chk_pos (by rw [hlen]; simp only [List.length_singleton]; omega), w64 (n := (k : Int) + 1) (by omega) (by omega), ← rl_snoc hx]
  rfl) (by
  show column_Reals_l1 l (rl (l.take l.length)) (l.length : Int) = _
  unfold column_Reals_l1
  rw [if_neg (by simp), List.take_length])
 rw [show (([], 0) : List Int × Int) = (fun k => (rl (l.take k), (k : Int))) 0 by simp [rl], this]
 simp only [Option.bind_some]
 unfold column_Reals_x1_0 column_Reals_b1
 rw [Ints_col (by rw [rl_length]; exact h) (rl_i64 l)]
 rfl
def ub (b : Int) : Nat := (IntKind.u64.wrap b).toNat
theorem ub_eq (b : Int) : IntKind.u64.wrap b = (ub b : Int) := by
 unfold ub
 rw [IntKind.wrap_u64]; omega
def realsL (l : List Int) : Option (List Nat) := if l.all (fun b => canon (ub b) == ub b) = true then some (l.map ub) else none
theorem reals_loop (l : List Int) (f : Int) (h : l.length ≤ 4096) : ∀ (m k : Nat), k + m = l.length → (∀ b ∈ l.take k, canon (ub b) = ub b) →
  loop (fun s : List Nat × Int => column_ReadReals_l1 (l, f) s.1 s.2) ((l.take k).map ub, (k : Int)) = some (if (l.drop k).all (fun b => canon (ub b) == ub b) = true then .inl (l.map ub) else .inr ([], 3))
 | 0, k, hk, ha => by
  rw [loop_end (t := Sum.inl (l.map ub)) (by
   show column_ReadReals_l1 (l, f) ((l.take k).map ub) (k : Int) = _
   unfold column_ReadReals_l1
   rw [if_neg (by simp only [decide_eq_true_eq]; omega), show k = l.length by omega, List.take_length]), show k = l.length by omega, List.drop_length]
  rfl
 | m + 1, k, hk, ha => by
  have hkl : k < l.length := by omega
  have hx := List.getElem?_eq_getElem hkl
  have hd : l.drop k = l[k] :: l.drop (k + 1) := List.drop_eq_getElem_cons hkl
  rw [hd, List.all_cons]
  have hlen : ((l.take k).map ub).length = k := by simp; omega
  by_cases hc : canon (ub l[k]) = ub l[k]
  ·rw [show (canon (ub l[k]) == ub l[k]) = true by simpa using hc, Bool.true_and, loop_nxt (s' := ((l.take (k + 1)).map ub, ((k + 1 : Nat) : Int))) (by
    show column_ReadReals_l1 (l, f) ((l.take k).map ub) (k : Int) = _
    unfold column_ReadReals_l1
    rw [if_pos (by simp only [decide_eq_true_eq]; omega), at_int rfl hx]
    simp only [Option.bind_some, lt_]
    rw [ub_eq, cOf_eq]
    simp only [Option.bind_some]
    rw [cBits_eq]
    simp only [Option.bind_some, Int.toNat_natCast]
    rw [canon_canon, hc, if_neg (by simp), chk_pos (by rw [hlen]; simp only [List.length_singleton]; omega), w64 (by omega) (by omega), take_snoc hx, List.map_append]
    rfl)]
   exact reals_loop l f h m (k + 1) (by omega) (fun b hb => by
    rw [take_snoc hx] at hb
    rcases List.mem_append.1 hb with q | q
    ·exact ha b q
    ·rw [List.mem_singleton.1 q]; exact hc)
  ·rw [show (canon (ub l[k]) == ub l[k]) = false by simpa using hc, Bool.false_and, if_neg (by simp)]
   refine loop_end ?_
   show column_ReadReals_l1 (l, f) ((l.take k).map ub) (k : Int) = _
   unfold column_ReadReals_l1
   rw [if_pos (by simp only [decide_eq_true_eq]; omega), at_int rfl hx]
   simp only [Option.bind_some, lt_]
   rw [ub_eq, cOf_eq]
   simp only [Option.bind_some]
   rw [cBits_eq]
   simp only [Option.bind_some, Int.toNat_natCast]
   rw [canon_canon, if_pos (by simp only [bne_iff_ne, ne_eq, Int.natCast_inj]; exact hc)]
theorem pMany_len : ∀ (n : Nat) (xs : List Int) {l r : List Int}, pMany n xs = some (l, r) → l.length = n
 | 0, xs, l, r, h => by cases h; rfl
 | n + 1, xs, l, r, h => by
  unfold pMany at h
  split at h
  ·split at h
   ·rename_i he
    cases h
    simp [pMany_len n _ he]
   ·cases h
  ·cases h
theorem pD_len : ∀ (n : Nat) (a : Int) (xs : List Int) {l r : List Int}, pD a n xs = some (l, r) → l.length = n
 | 0, a, xs, l, r, h => by cases h; rfl
 | n + 1, a, xs, l, r, h => by
  unfold pD at h
  split at h
  ·split at h
   ·rename_i he
    cases h
    simp [pD_len n _ _ he]
   ·cases h
  ·cases h
theorem pR_len : ∀ (f n : Nat) (xs : List Int) {l r : List Int}, pR f n xs = some (l, r) → l.length ≤ n
 | 0, n, xs, l, r, h => by cases h; simp
 | f + 1, n, xs, l, r, h => by
  unfold pR at h
  split at h
  ·cases h; simp
  ·split at h
   ·split at h
    ·rename_i hk
     split at h
     ·rename_i he
      cases h
      have := pR_len f _ _ he
      have := (pU_some hk).1
      simp only [List.length_append, List.length_replicate]
      omega
     ·cases h
    ·cases h
   ·cases h
theorem pP_len (n : Nat) (xs : List Int) {l r : List Int} (h : pP n xs = some (l, r)) : l.length = n := by
 unfold pP at h
 split at h
 ·split at h
  ·split at h
   ·cases h
    rw [List.length_map, part_length]
   ·cases h
  ·cases h
 ·cases h
theorem pBody_len (w : Int) (n : Nat) (xs : List Int) {l r : List Int} (h : pBody w n xs = some (l, r)) : l.length ≤ n := by
 unfold pBody at h
 split at h
 ·exact Nat.le_of_eq (pMany_len _ _ h)
 ·split at h
  ·exact Nat.le_of_eq (pD_len _ _ _ h)
  ·split at h
   ·exact pR_len _ _ _ h
   ·split at h
    ·exact Nat.le_of_eq (pP_len _ _ h)
    ·cases h; simp
theorem pInts_len {xs l r : List Int} (h : pInts xs = some (l, r)) : l.length ≤ 4096 := by
 unfold pInts at h
 split at h
 ·split at h
  ·split at h
   ·rename_i hu
    have := pBody_len _ _ _ h
    have := (pU_some hu).1
    omega
   ·cases h
  ·cases h
 ·cases h
theorem readL_len {xs l : List Int} (h : readL xs = some l) : l.length ≤ 4096 := by
 unfold readL at h
 split at h
 ·cases h; exact pInts_len (by assumption)
 ·cases h
theorem ReadReals_col {xs : List Int} (hB : Bs xs) (hl : xs.length < 1099511627776) : column_ReadReals xs = some (match (readL xs).bind realsL with | some l => (l, 0) | none => ([], 3)) := by
 unfold column_ReadReals
 rw [ReadInts_col hB hl]
 simp only [Option.bind_some]
 cases h : readL xs with
 | none => rfl
 | some l =>
  simp only [Option.bind_some]
  rw [if_neg (by simp)]
  have := reals_loop l 0 (readL_len h) l.length 0 (by omega) (fun b hb => by simp at hb)
  simp only [List.take_zero, List.map_nil, List.drop_zero] at this
  rw [show ((0 : Nat) : Int) = 0 from rfl] at this
  rw [this]
  unfold realsL
  simp only [Option.bind_some]
  cases (l.all fun b => canon (ub b) == ub b)
  ·rfl
  ·rfl
theorem reals_back {l : List Nat} (h : ∀ x ∈ l, x < 18446744073709551616) : realsL (rl l) = some (l.map canon) := by
 have hu : ∀ x ∈ l, ub (IntKind.i64.wrap (canon x : Int)) = canon x := by
  intro x hx
  have := canon_lt (h x hx)
  unfold ub
  rw [IntKind.wrap_u64, IntWalk.i64_left]
  unfold wrap64
  omega
 unfold realsL rl
 rw [if_pos]
 ·rw [List.map_map]
  congr 1
  exact List.map_congr_left fun x hx => hu x hx
 ·rw [List.all_eq_true]
  intro b hb
  obtain ⟨x, hx, rfl⟩ := List.mem_map.1 hb
  rw [hu x hx, canon_canon]
  simp
def IsT (B acc : List Int) (t : List Int × Int × List Int) (p : Option (List Int × List Int)) : Prop :=
 match p with
 | some (l, r) => ∃ q : Nat, t = (B, (q : Int), acc ++ l) ∧ q ≤ B.length ∧ B.drop q = r
 | none => ∃ a, t = (B, -1, a)
theorem IsT.cons {B acc : List Int} {t : List Int × Int × List Int} {p : Option (List Int × List Int)} (x : List Int) (h : IsT B (acc ++ x) t p) :
  IsT B acc t (match (generalizing := false) p with | some (l, r) => some (x ++ l, r) | none => none) := by
 cases p with
 | none => exact h
 | some y =>
  obtain ⟨q, h1, h2, h3⟩ := h
  exact ⟨q, by rw [h1, List.append_assoc], h2, h3⟩
section
variable {B : List Int} (hBs : Bs B) (hB : B.length < 1099511627776)
include hBs hB
end
section
variable {B : List Int} (hBs : Bs B) (hB : B.length < 1099511627776)
include hBs hB
end
section
variable {B xs : List Int} {p : Nat} (hp : p ≤ B.length) (hx : B.drop p = xs) (hBs : Bs xs) (hB : B.length < 1099511627776) (hs : xs.length ≤ 32768)
include hp hx hBs hB hs
end
def rises (acc : List (List UInt8)) (t : List UInt8) : Bool := match acc[acc.length - 1]? with
 | some y => Op.bytesLess y t
 | none => true
def pDict (acc : List (List UInt8)) : Nat → List Int → Option (List (List UInt8) × List Int)
 | 0, xs => some (acc, xs)
 | n + 1, xs => match pT 32 xs with
  | some (t, r) => if rises acc t = true then pDict (acc ++ [t]) n r else none
  | none => none
def okI (n : Nat) (ix : List Int) : Bool := ix.all fun i => decide (0 ≤ i ∧ i < (n : Int))
def usd (n : Nat) (ix : List Int) : List Bool := (List.range n).map fun (j : Nat) => decide ((j : Int) ∈ ix)
def tx (ds : List (List UInt8)) (ix : List Int) : List (List UInt8) := ix.map fun i => ds.getD i.toNat []
def pTexts (xs : List Int) : Option (List (List UInt8) × List Int) := match pU 4096 xs with
 | some (n, r) => match pDict [] n.toNat r with
  | some (ds, r') => match pInts r' with
   | some (ix, r'') => if okI ds.length ix = true ∧ false ∉ usd ds.length ix then some (tx ds ix, r'') else none
   | none => none
  | none => none
 | none => none
theorem pT_bs {most : Int} {xs r : List Int} {t : List UInt8} (hB : Bs xs) (h : pT most xs = some (t, r)) : Bs r ∧ r.length ≤ xs.length := by
 unfold pT at h
 split at h
 ·rename_i n r' he
  obtain ⟨_, p, hp, _⟩ := pU_some he
  have hb := pU_bs hB he
  split at h
  ·cases h
   refine ⟨hb.drop _, ?_⟩
   rw [hp]; simp; omega
  ·cases h
 ·cases h
theorem pDict_bs : ∀ (n : Nat) (acc : List (List UInt8)) (xs : List Int) {ds : List (List UInt8)} {r : List Int}, Bs xs → pDict acc n xs = some (ds, r) → Bs r ∧ r.length ≤ xs.length ∧ ds.length = acc.length + n
 | 0, acc, xs, ds, r, hB, h => by cases h; exact ⟨hB, Nat.le_refl _, rfl⟩
 | n + 1, acc, xs, ds, r, hB, h => by
  unfold pDict at h
  split at h
  ·rename_i t r' he
   obtain ⟨h1, h2⟩ := pT_bs hB he
   split at h
   ·obtain ⟨g1, g2, g3⟩ := pDict_bs n _ _ h1 h
    refine ⟨g1, by omega, ?_⟩
    rw [g3, List.length_append, List.length_singleton]; omega
   ·cases h
  ·cases h
theorem contains_eq (l : List Bool) (b : Bool) (h : l.length < 1099511627776) : slices_Contains_bool_bool l b = some (decide (b ∈ l)) := by
 unfold slices_Contains_bool_bool slices_Index_bool_bool
 have key : ∀ (m k : Nat), k + m = l.length → ∃ y, loop (fun s : Int => slices_Index_bool_bool_l1 l b s) (k : Int) = some y ∧ if b ∈ l.drop k then ∃ j : Nat, y = .inr (j : Int) else y = .inl () := by
  intro m
  induction m with
  | zero =>
   intro k hk
   refine ⟨.inl (), loop_end ?_, ?_⟩
   ·unfold slices_Index_bool_bool_l1
    rw [if_neg (by simp only [decide_eq_true_eq]; omega)]
   ·rw [List.drop_of_length_le (by omega), if_neg (by simp)]
  | succ m ih =>
   intro k hk
   have hkl : k < l.length := by omega
   have hx := List.getElem?_eq_getElem hkl
   have hd : l.drop k = l[k] :: l.drop (k + 1) := List.drop_eq_getElem_cons hkl
   rw [hd]
   by_cases hb : b = l[k]
   ·refine ⟨.inr (k : Int), loop_end ?_, ?_⟩
    ·unfold slices_Index_bool_bool_l1
     rw [if_pos (by simp only [decide_eq_true_eq]; omega), at_int rfl hx]
     simp only [Option.bind_some]
     rw [if_pos (by simpa using hb)]
    ·rw [if_pos (by rw [hb]; exact List.mem_cons_self)]
     exact ⟨k, rfl⟩
   ·obtain ⟨y, hy, hm⟩ := ih (k + 1) (by omega)
    refine ⟨y, (loop_nxt (s' := ((k + 1 : Nat) : Int)) ?_).trans hy, ?_⟩
    ·unfold slices_Index_bool_bool_l1
     rw [if_pos (by simp only [decide_eq_true_eq]; omega), at_int rfl hx]
     simp only [Option.bind_some]
     rw [if_neg (by simpa using hb), lt_, w64 (by omega) (by omega)]
     rfl
    ·have he : (b ∈ l[k] :: l.drop (k + 1)) = (b ∈ l.drop (k + 1)) := propext ⟨fun h => (List.mem_cons.1 h).resolve_left hb, fun h => List.mem_cons_of_mem _ h⟩
     simpa only [he] using hm
 obtain ⟨y, hy, hm⟩ := key l.length 0 (by omega)
 rw [show ((0 : Nat) : Int) = 0 from rfl] at hy
 rw [hy, List.drop_zero] at *
 by_cases hb : b ∈ l
 ·rw [if_pos hb] at hm
  obtain ⟨j, rfl⟩ := hm
  simp only [Option.bind_some]
  rw [show decide (0 ≤ (j : Int)) = true by simp, show decide (b ∈ l) = true by simpa using hb]
 ·rw [if_neg hb] at hm
  subst hm
  rw [show decide (b ∈ l) = false by simpa using hb]
  rfl
theorem okI_snoc (n : Nat) (ix : List Int) (k : Nat) {x : Int} (h : ix[k]? = some x) : okI n (ix.take (k + 1)) = (okI n (ix.take k) && decide (0 ≤ x ∧ x < (n : Int))) := by
 unfold okI
 rw [take_snoc h, List.all_append]
 simp
theorem okI_take {n : Nat} {ix : List Int} (h : okI n ix = true) (k : Nat) : okI n (ix.take k) = true := by
 unfold okI at *
 rw [List.all_eq_true] at *
 exact fun x hx => h x (List.mem_of_mem_take hx)
theorem usd_snoc (n : Nat) (ix : List Int) {x : Int} (hx : 0 ≤ x ∧ x < (n : Int)) : usd n (ix ++ [x]) = (usd n ix).set x.toNat true := by
 apply List.ext_getElem? fun j => ?_
 unfold usd
 rw [List.getElem?_set]
 simp only [List.getElem?_map, List.length_map, List.length_range]
 rcases Nat.lt_or_ge j n with hj | hj
 ·rw [List.getElem?_range hj]
  by_cases e : x.toNat = j
  ·rw [if_pos e, if_pos (by omega)]
   simp
   right; omega
  ·rw [if_neg e]
   have : ¬ (j : Int) = x := by omega
   simp [this]
 ·rw [List.getElem?_eq_none (by simpa using hj)]
  rw [if_neg (by omega)]
  rfl
theorem usd_nil (n : Nat) : usd n [] = List.replicate n false := by
 unfold usd
 rw [List.eq_replicate_iff]
 refine ⟨by simp, fun b hb => ?_⟩
 obtain ⟨q, _, rfl⟩ := List.mem_map.1 hb
 simp
theorem usd_length (n : Nat) (ix : List Int) : (usd n ix).length = n := by simp [usd]
theorem usd_at (n : Nat) (ix : List Int) {x : Int} (hx : 0 ≤ x ∧ x < (n : Int)) : ∃ b, at_ (usd n ix) x = some b := by
 have : x.toNat < (usd n ix).length := by rw [usd_length]; omega
 exact ⟨_, at_int (n := x.toNat) (by omega) (List.getElem?_eq_getElem this)⟩
theorem ds_at (ds : List (List UInt8)) {x : Int} (hx : 0 ≤ x ∧ x < (ds.length : Int)) : at_ ds x = some (ds.getD x.toNat []) := by
 have : x.toNat < ds.length := by omega
 refine at_int (n := x.toNat) (by omega) ?_
 rw [List.getD_eq_getElem?_getD, List.getElem?_eq_getElem this]
 rfl
theorem tx_snoc (ds : List (List UInt8)) (ix : List Int) (x : Int) : tx ds (ix ++ [x]) = tx ds ix ++ [ds.getD x.toNat []] := by
 unfold tx; rw [List.map_append]; rfl
theorem tx_length (ds : List (List UInt8)) (ix : List Int) : (tx ds ix).length = ix.length := by simp [tx]
theorem cidx_loop (ds : List (List UInt8)) (ix : List Int) (Y : S106) (xs : List Int) (hl : ix.length ≤ 4096) : ∀ (m k : Nat), k + m = ix.length → okI ds.length (ix.take k) = true →
  ∃ y, loop (fun s : List Int × List (List UInt8) × List Bool × Int => column_ReadTexts_1_l1 ds (ix, Y) s.1 s.2.1 s.2.2.1 s.2.2.2) (xs, tx ds (ix.take k), usd ds.length (ix.take k), (k : Int)) = some y ∧
   if okI ds.length ix = true then y = .inl (xs, tx ds ix, usd ds.length ix) else ∃ s, y = .inr (.inr s)
 | 0, k, hk, ha => by
  have hke : k = ix.length := by omega
  subst hke
  rw [List.take_length] at ha ⊢
  refine ⟨.inl (xs, tx ds ix, usd ds.length ix), loop_end ?_, by rw [if_pos ha]⟩
  show column_ReadTexts_1_l1 ds (ix, Y) xs (tx ds ix) (usd ds.length ix) (ix.length : Int) = _
  unfold column_ReadTexts_1_l1
  rw [if_neg (by simp)]
 | m + 1, k, hk, ha => by
  have hkl : k < ix.length := by omega
  have hx := List.getElem?_eq_getElem hkl
  have hok := okI_snoc ds.length ix k hx
  have hno : ∀ s, column_ReadTexts_1_l1 ds (ix, Y) xs (tx ds (ix.take k)) (usd ds.length (ix.take k)) (k : Int) = some (.inr (.inr (.inr s))) → ¬ (0 ≤ ix[k] ∧ ix[k] < (ds.length : Int)) →
    ∃ y, loop (fun s : List Int × List (List UInt8) × List Bool × Int => column_ReadTexts_1_l1 ds (ix, Y) s.1 s.2.1 s.2.2.1 s.2.2.2) (xs, tx ds (ix.take k), usd ds.length (ix.take k), (k : Int)) = some y ∧
   if okI ds.length ix = true then y = .inl (xs, tx ds ix, usd ds.length ix) else ∃ s, y = .inr (.inr s) := by
   intro s hs hn
   refine ⟨_, loop_end hs, ?_⟩
   rw [if_neg]
   ·exact ⟨_, rfl⟩
   ·intro h
    have := okI_take h (k + 1)
    rw [hok] at this
    simp only [Bool.and_eq_true, decide_eq_true_eq] at this
    exact hn this.2
  by_cases h0 : 0 ≤ ix[k]
  ·by_cases h1 : ix[k] < (ds.length : Int)
   ·obtain ⟨b, hb⟩ := usd_at ds.length (ix.take k) ⟨h0, h1⟩
    obtain ⟨y, hy, hm⟩ := cidx_loop ds ix Y xs hl m (k + 1) (by omega) (by rw [hok, ha]; simp [h0, h1])
    rw [take_snoc hx, tx_snoc, usd_snoc _ _ ⟨h0, h1⟩] at hy
    refine ⟨y, (loop_nxt (s' := (xs, tx ds (ix.take k) ++ [ds.getD ix[k].toNat []], (usd ds.length (ix.take k)).set ix[k].toNat true, ((k + 1 : Nat) : Int))) ?_).trans hy, hm⟩
    show column_ReadTexts_1_l1 ds (ix, Y) xs (tx ds (ix.take k)) (usd ds.length (ix.take k)) (k : Int) = _
    unfold column_ReadTexts_1_l1
    rw [if_pos (by simp only [decide_eq_true_eq]; omega), at_int rfl hx]
    simp only [Option.bind_some]
    rw [if_pos (by simpa using h0), show decide (ix[k] < (ds.length : Int)) = true by simpa using h1, Check_t]
    simp only [Option.bind_some, s_inl]
    unfold column_ReadTexts_1_j1
    rw [hb, ds_at _ ⟨h0, h1⟩]
    simp only [Option.bind_some]
    rw [chk_pos (by rw [tx_length]; simp; omega), lt_, w64 (by omega) (by omega)]
    rfl
   ·refine hno (⟨xs⟩, tx ds (ix.take k)) ?_ (fun c => h1 c.2)
    unfold column_ReadTexts_1_l1
    rw [if_pos (by simp only [decide_eq_true_eq]; omega), at_int rfl hx]
    simp only [Option.bind_some]
    rw [if_pos (by simpa using h0), show decide (ix[k] < (ds.length : Int)) = false by simpa using h1, Check_f]
    rfl
  ·refine hno (⟨xs⟩, tx ds (ix.take k)) ?_ (fun c => h0 c.1)
   unfold column_ReadTexts_1_l1
   rw [if_pos (by simp only [decide_eq_true_eq]; omega), at_int rfl hx]
   simp only [Option.bind_some]
   rw [if_neg (by simpa using h0), Check_f]
   rfl
theorem cdict_loop (Y : Int × S106) (n : Nat) (hY : Y.1 = (n : Int)) (hn : n ≤ 4096) : ∀ (m k : Nat) (acc : List (List UInt8)) (xs : List Int), Bs xs → xs.length < 1099511627776 → k + m = n → acc.length = k →
  ∃ y, loop (fun s : List Int × List (List UInt8) × Int => column_ReadTexts_1_l2 [] Y s.1 s.2.1 s.2.2) (xs, acc, (k : Int)) = some y ∧ match pDict acc m xs with
   | some (l, r) => y = .inl (r, l)
   | none => ∃ s, y = .inr (.inr s)
 | 0, k, acc, xs, hB, hl, hk, ha => by
  refine ⟨.inl (xs, acc), loop_end ?_, rfl⟩
  show column_ReadTexts_1_l2 [] Y xs acc (k : Int) = _
  unfold column_ReadTexts_1_l2
  rw [hY, if_neg (by simp only [decide_eq_true_eq]; omega)]
 | m + 1, k, acc, xs, hB, hl, hk, ha => by
  unfold pDict
  rcases (Text_is 32 hB (by omega)).cases with ⟨t, r, h1, h2⟩ | ⟨h1, s, h2⟩
  ·rw [h1]
   obtain ⟨hBr, hlr⟩ := pT_bs hB h1
   have hl2 : ∀ (z : S106 ⊕ S106), column_Reader_Check (⟨r⟩ : S106) (rises acc t) = some z → column_ReadTexts_1_l2 [] Y xs acc (k : Int) = (sum_ z (fun y => column_ReadTexts_1_j2 acc (k : Int) (t, ⟨r⟩) y.f0) (fun y => some (.inr (.inr (.inr (y, [])))))) := by
    intro z hz
    unfold column_ReadTexts_1_l2
    rw [hY, if_pos (by simp only [decide_eq_true_eq]; omega), h2]
    simp only [Option.bind_some, s_inl, lt_]
    unfold rises at hz
    by_cases h0 : acc.length = 0
    ·rw [List.getElem?_eq_none (by omega)] at hz
     rw [if_pos (by simpa using h0), hz]
     rfl
    ·have hx := List.getElem?_eq_getElem (l := acc) (i := acc.length - 1) (by omega)
     rw [hx] at hz
     rw [if_neg (by simpa using h0), w64 (by omega) (by omega), at_int (n := acc.length - 1) (by omega) hx]
     simp only [Option.bind_some]
     rw [hz]
     rfl
   by_cases hr : rises acc t = true
   ·obtain ⟨y, hy, hm⟩ := cdict_loop Y n hY hn m (k + 1) (acc ++ [t]) r hBr (by omega) (by omega) (by simp [ha])
    simp only [hr, if_true]
    refine ⟨y, (loop_nxt (s' := (r, acc ++ [t], ((k + 1 : Nat) : Int))) ?_).trans hy, hm⟩
    refine (hl2 _ (by rw [hr, Check_t])).trans ?_
    rw [s_inl]
    unfold column_ReadTexts_1_j2
    rw [chk_pos (by simp; omega), lt_, u64w (by omega) (by omega)]
    rfl
   ·rw [Bool.not_eq_true] at hr
    simp only [hr, Bool.false_eq_true, if_false]
    exact ⟨_, loop_end ((hl2 _ (by rw [hr, Check_f])).trans rfl), _, rfl⟩
  ·rw [h1]
   refine ⟨_, loop_end (t := Sum.inr (.inr (s, []))) ?_, _, rfl⟩
   show column_ReadTexts_1_l2 [] Y xs acc (k : Int) = _
   unfold column_ReadTexts_1_l2
   rw [hY, if_pos (by simp only [decide_eq_true_eq]; omega), h2]
   rfl
theorem texts_is {xs : List Int} (hB : Bs xs) (hl : xs.length < 1099511627776) : match pTexts xs with
  | some (T, r) => column_ReadTexts_1 ⟨xs⟩ [] = some (.inl (⟨r⟩, T))
  | none => ∃ s, column_ReadTexts_1 ⟨xs⟩ [] = some (.inr s) := by
 unfold column_ReadTexts_1 pTexts
 rcases (Uint_is 4096 hB).cases with ⟨n, r, h1, h2⟩ | ⟨h1, s, h2⟩
 ·rw [h1, h2]
  obtain ⟨⟨q1, q2, q3⟩, p, hp, _⟩ := pU_some h1
  have hBr := pU_bs hB h1
  have hrl : r.length ≤ xs.length := by rw [hp]; simp
  obtain ⟨n, rfl⟩ : ∃ m : Nat, n = (m : Int) := ⟨n.toNat, by omega⟩
  simp only [Option.bind_some, s_inl, Int.toNat_natCast]
  obtain ⟨y, hy, hm⟩ := cdict_loop ((n : Int), ⟨r⟩) n rfl (by omega) n 0 [] r hBr (by omega) (by omega) rfl
  rw [show ((0 : Nat) : Int) = 0 from rfl] at hy
  rw [hy]
  simp only [Option.bind_some]
  cases hd : pDict [] n r with
  | none =>
   rw [hd] at hm
   obtain ⟨s, rfl⟩ := hm
   exact ⟨s, rfl⟩
  | some z =>
   obtain ⟨ds, r'⟩ := z
   rw [hd] at hm
   simp only at hm
   subst hm
   obtain ⟨hBr', hrl', hdl⟩ := pDict_bs n _ _ hBr hd
   have hdl' : ds.length = n := by simpa using hdl
   simp only
   unfold column_ReadTexts_1_x2_0 column_ReadTexts_1_b1
   rw [chk_pos (by omega)]
   rcases (ints_is hBr' (by omega)).cases with ⟨ix, r'', h3, h4⟩ | ⟨h3, s, h4⟩
   ·rw [h3, h4]
    have hil := pInts_len h3
    simp only [Option.bind_some, s_inl]
    obtain ⟨y, hy, hm⟩ := cidx_loop ds ix ⟨r''⟩ r'' hil ix.length 0 (by omega) rfl
    rw [List.take_zero, usd_nil, show ((0 : Nat) : Int) = 0 from rfl] at hy
    rw [Int.toNat_natCast]
    have e0 : tx ds [] = [] := rfl
    rw [e0] at hy
    rw [hy]
    simp only [Option.bind_some]
    by_cases hok : okI ds.length ix = true
    ·rw [if_pos hok] at hm
     subst hm
     simp only
     unfold column_ReadTexts_1_x1_2 column_ReadTexts_1_b2
     rw [contains_eq _ _ (by rw [usd_length]; omega)]
     simp only [Option.bind_some]
     by_cases hu : false ∈ usd ds.length ix
     ·rw [show decide (false ∈ usd ds.length ix) = true by simpa using hu, Bool.not_true, Check_f, if_neg (fun c => c.2 hu)]
      exact ⟨_, rfl⟩
     ·rw [show decide (false ∈ usd ds.length ix) = false by simpa using hu, Bool.not_false, Check_t, if_pos ⟨hok, hu⟩]
      rfl
    ·rw [if_neg hok] at hm
     obtain ⟨s, rfl⟩ := hm
     rw [if_neg (fun c => hok c.1)]
     exact ⟨s, rfl⟩
   ·rw [h3, h4]
    exact ⟨_, rfl⟩
 ·rw [h1, h2]
  exact ⟨_, rfl⟩
def readT (xs : List Int) : Option (List (List UInt8)) := match pTexts xs with
 | some (T, []) => some T
 | _ => none
theorem ReadTexts_col {xs : List Int} (hB : Bs xs) (hl : xs.length < 1099511627776) : column_ReadTexts xs = some (match readT xs with | some T => (T, 0) | none => ([], 3)) := by
 unfold column_ReadTexts Try_column_ReadTexts_1 readT
 have h := texts_is hB hl
 cases hp : pTexts xs with
 | none =>
  rw [hp] at h
  obtain ⟨s, hs⟩ := h
  rw [hs]
  rfl
 | some z =>
  obtain ⟨T, r⟩ := z
  rw [hp] at h
  simp only at h
  rw [h]
  cases r with
  | nil => rfl
  | cons b r =>
   simp only [Option.bind_some, s_inl]
   rw [show (((b :: r).length : Int) == 0) = false by simp; omega]
   rfl
def readR (xs : List Int) : Option (List Nat) := (readL xs).bind realsL
structure SWO {α : Type} (lt : α → α → Bool) : Prop where
 irr : ∀ a, lt a a = false
 trans : ∀ a b c, lt a b = true → lt b c = true → lt a c = true
 neg : ∀ a b c, lt a c = true → lt a b = true ∨ lt b c = true
section
variable {α : Type} {lt : α → α → Bool}
def ins (lt : α → α → Bool) (x : α) : List α → List α
 | [] => [x]
 | y :: l => if lt x y then x :: y :: l else y :: ins lt x l
def sortL (lt : α → α → Bool) (l : List α) : List α := l.foldl (fun acc x => ins lt x acc) []
def Srt (lt : α → α → Bool) (l : List α) : Prop := l.Pairwise fun a b => lt b a = false
theorem ins_length (x : α) : ∀ l : List α, (ins lt x l).length = l.length + 1
 | [] => rfl
 | y :: l => by unfold ins; split <;> simp [ins_length x l]
theorem foldl_length : ∀ (l acc : List α), (l.foldl (fun acc x => ins lt x acc) acc).length = acc.length + l.length
 | [], acc => by simp
 | x :: l, acc => by rw [List.foldl_cons, foldl_length l, ins_length]; simp; omega
theorem sortL_length (l : List α) : (sortL lt l).length = l.length := by unfold sortL; rw [foldl_length]; simp
theorem srt_get {l : List α} (h : Srt lt l) {i j : Nat} {x y : α} (hij : i < j) (hx : l[i]? = some x) (hy : l[j]? = some y) : lt y x = false := by
 obtain ⟨h1, rfl⟩ := List.getElem?_eq_some_iff.1 hx
 obtain ⟨h2, rfl⟩ := List.getElem?_eq_some_iff.1 hy
 exact List.pairwise_iff_getElem.1 h i j h1 h2 hij
end
def bef (x y : S44) : Bool := if x.f3 == y.f3 then (if x.f2 == y.f2 then decide (x.f0 < y.f0) else decide (x.f2 < y.f2)) else Op.bytesLess x.f3 y.f3
end Go.Proofs.YteodeedejjcmgaaDoor.P
