/- Texts of the claim, joined: what it uses of Des, Mes, Dr6, Mr6, Dmg. -/
import Derived.Test.YtnefioccdkmegaaGreatDoorZe
namespace Go.Proofs.YtnefioccdkmegaaGreatDoor.M
open Go Go.RowKit Go.Proofs.YtnefioccdkmegaaGreatDoor.E
set_option linter.unusedVariables false
noncomputable section
set_option linter.unusedSimpArgs false
def nO (a0:S47) (a1:S47):Option (Bool) :=
  if (!(a0.f3==a1.f3))=true then (some (Op.bytesLess a0.f3 a1.f3)) else (if (a0.f2 != a1.f2)=true then (some (decide (a0.f2<a1.f2))) else (some (decide (a0.f0<a1.f0))))
def jE (a0:S47) (a1:S47):Option (Int) :=
  (nO a0 a1).bind fun h=>(if h=true then (some (-1)) else ((nO a1 a0).bind fun z=>(if z=true then (some 1) else (some 0))))
def fE (a0:(List S47)):Option ((List S47)) :=
  oY (a0).isEmpty (some []) (chk (([]:List S47).length+a0.length≤140737488355328 / 48) (some a0))
def fX (h:(List S47)):Option ((List S47)) :=
  some h
def fJ (h:(List S47)):Option ((List S47)) :=
  fX h
def aV (a1:Int) (a2:Int) (a3:Int) (z:(List S47)) (h:Int):Option (((List S47)×Int)⊕(((List S47)))) :=
  if (decide (h<a3))=true then ((at_ z (IntKind.i64.wrap (a2+h))).bind fun C=>((at_ z (IntKind.i64.wrap (a1+h))).bind fun G=>((at_ (z.set (IntKind.i64.wrap (a1+h)).toNat C) (IntKind.i64.wrap (a2+h))).bind fun H=>(some (.inl ((z.set (IntKind.i64.wrap (a1+h)).toNat C).set (IntKind.i64.wrap (a2+h)).toNat G,IntKind.i64.wrap (h+1))))))) else (some (.inr (z)))
def bT (a0:(List S47)) (a1:Int) (a2:Int) (a3:Int):Option ((List S47)) :=
  (loop (fun s=>aV a1 a2 a3 s.1 s.2) (a0,0)).bind fun t=>fJ t
def eW (a2:Int) (z:(List S47)) (h:Int):Option ((List S47)) :=
  (bT z (IntKind.i64.wrap (a2 - h)) a2 h).bind fun C=>(some C)
def eN (a2:Int) (h:(List S47)) (z:Int):Option ((List S47)) :=
  eW a2 h z
def dN (h:(List S47)) (z:Int) (C:Int):Option (((List S47)×Int×Int)⊕(((List S47)×Int))) :=
  some (.inl (h,z,C))
def bU (a2:Int) (C:(List S47)) (h:Int) (z:Int):Option (((List S47)×Int×Int)⊕(((List S47)×Int))) :=
  if (h != z)=true then (if (decide (z<h))=true then ((bT C (IntKind.i64.wrap (a2 - h)) a2 z).bind fun G=>(dN G (IntKind.i64.wrap (h - z)) z)) else ((bT C (IntKind.i64.wrap (a2 - h)) (IntKind.i64.wrap ((IntKind.i64.wrap (a2+z)) - h)) h).bind fun H=>(dN H h (IntKind.i64.wrap (z - h))))) else (some (.inr (C,h)))
def eG (a0:(List S47)) (a1:Int) (a2:Int) (a3:Int):Option ((List S47)) :=
  (loop (fun s=>bU a2 s.1 s.2.1 s.2.2) (a0,IntKind.i64.wrap (a2 - a1),IntKind.i64.wrap (a3 - a2))).bind fun t=>eN a2 t.1 t.2
def eO (h:(List S47)):Option ((List S47)) :=
  some h
def dV (h:(List S47)):Option ((List S47)) :=
  eO h
def aR (G:Int) (z:(List S47)) (h:Int):Option (((List S47)×Int)⊕(((List S47)))) :=
  if (decide (h<IntKind.i64.wrap (G - 1)))=true then ((at_ z (IntKind.i64.wrap (h+1))).bind fun C=>((at_ z h).bind fun H=>((at_ (z.set h.toNat C) (IntKind.i64.wrap (h+1))).bind fun I=>(some (.inl ((z.set h.toNat C).set (IntKind.i64.wrap (h+1)).toNat H,IntKind.i64.wrap (h+1))))))) else (some (.inr (z)))
def eM (a0:(List S47)) (a1:Int) (h:Int):Option ((List S47)) :=
  (loop (fun s=>aR h s.1 s.2) (a0,a1)).bind fun t=>dV t
def dX (a0:(List S47)) (a1:Int) (h:Int):Option ((List S47)) :=
  eM a0 a1 h
def cR (h:Int) (z:Int):Option ((Int×Int)⊕((Int))) :=
  some (.inl (h,z))
def aY (a0:(List S47)) (a1:Int) (h:Int) (z:Int):Option ((Int×Int)⊕((Int))) :=
  if (decide (h<z))=true then ((at_ a0 (IntKind.i64.wrap (bS .u64 (IntKind.u64.wrap (IntKind.i64.wrap (h+z))) 1))).bind fun C=>((at_ a0 a1).bind fun G=>((jE C G).bind fun H=>(if (decide (H<0))=true then (cR (IntKind.i64.wrap ((IntKind.i64.wrap (bS .u64 (IntKind.u64.wrap (IntKind.i64.wrap (h+z))) 1))+1)) z) else (cR h (IntKind.i64.wrap (bS .u64 (IntKind.u64.wrap (IntKind.i64.wrap (h+z))) 1))))))) else (some (.inr (h)))
def eJ (h:(List S47)):Option ((List S47)) :=
  some h
def dZ (h:(List S47)):Option ((List S47)) :=
  eJ h
def aQ (G:Int) (z:(List S47)) (h:Int):Option (((List S47)×Int)⊕(((List S47)))) :=
  if (decide (G<h))=true then ((at_ z (IntKind.i64.wrap (h - 1))).bind fun C=>((at_ z h).bind fun H=>((at_ (z.set h.toNat C) (IntKind.i64.wrap (h - 1))).bind fun I=>(some (.inl ((z.set h.toNat C).set (IntKind.i64.wrap (h - 1)).toNat H,IntKind.i64.wrap (h - 1))))))) else (some (.inr (z)))
def eI (a0:(List S47)) (a2:Int) (h:Int):Option ((List S47)) :=
  (loop (fun s=>aQ h s.1 s.2) (a0,a2)).bind fun t=>dZ t
def dY (a0:(List S47)) (a2:Int) (h:Int):Option ((List S47)) :=
  eI a0 a2 h
def cQ (h:Int) (z:Int):Option ((Int×Int)⊕((Int))) :=
  some (.inl (h,z))
def bA (a0:(List S47)) (a2:Int) (h:Int) (z:Int):Option ((Int×Int)⊕((Int))) :=
  if (decide (h<z))=true then ((at_ a0 a2).bind fun C=>((at_ a0 (IntKind.i64.wrap (bS .u64 (IntKind.u64.wrap (IntKind.i64.wrap (h+z))) 1))).bind fun G=>((jE C G).bind fun H=>(if (!(decide (H<0)))=true then (cQ (IntKind.i64.wrap ((IntKind.i64.wrap (bS .u64 (IntKind.u64.wrap (IntKind.i64.wrap (h+z))) 1))+1)) z) else (cQ h (IntKind.i64.wrap (bS .u64 (IntKind.u64.wrap (IntKind.i64.wrap (h+z))) 1))))))) else (some (.inr (h)))
def cB (rec_:((List S47)→Int→Int→Int→Option ((List S47)))) (a1:Int) (a2:Int) (a3:Int) (z:Int) (h:(List S47)) (C:Bool):Option ((List S47)) :=
  if C=true then ((rec_ h (IntKind.i64.wrap (bS .u64 (IntKind.u64.wrap (IntKind.i64.wrap (a1+a3))) 1)) (IntKind.i64.wrap ((IntKind.i64.wrap ((IntKind.i64.wrap (bS .u64 (IntKind.u64.wrap (IntKind.i64.wrap (a1+a3))) 1))+a2)) - z)) a3).bind fun G=>(some G)) else (some h)
def bQ (rec_:((List S47)→Int→Int→Int→Option ((List S47)))) (a1:Int) (a2:Int) (a3:Int) (h:Int) (z:(List S47)):Option ((List S47)) :=
  if (decide (IntKind.i64.wrap (bS .u64 (IntKind.u64.wrap (IntKind.i64.wrap (a1+a3))) 1)<IntKind.i64.wrap ((IntKind.i64.wrap ((IntKind.i64.wrap (bS .u64 (IntKind.u64.wrap (IntKind.i64.wrap (a1+a3))) 1))+a2)) - h)))=true then (cB rec_ a1 a2 a3 h z (decide (IntKind.i64.wrap ((IntKind.i64.wrap ((IntKind.i64.wrap (bS .u64 (IntKind.u64.wrap (IntKind.i64.wrap (a1+a3))) 1))+a2)) - h)<a3))) else (cB rec_ a1 a2 a3 h z false)
def cD (rec_:((List S47)→Int→Int→Int→Option ((List S47)))) (a1:Int) (a2:Int) (a3:Int) (h:Int) (z:(List S47)) (C:Bool):Option ((List S47)) :=
  if C=true then ((rec_ z a1 h (IntKind.i64.wrap (bS .u64 (IntKind.u64.wrap (IntKind.i64.wrap (a1+a3))) 1))).bind fun G=>(bQ rec_ a1 a2 a3 h G)) else (bQ rec_ a1 a2 a3 h z)
def bO (rec_:((List S47)→Int→Int→Int→Option ((List S47)))) (a1:Int) (a2:Int) (a3:Int) (h:Int) (z:(List S47)):Option ((List S47)) :=
  if (decide (a1<h))=true then (cD rec_ a1 a2 a3 h z (decide (h<IntKind.i64.wrap (bS .u64 (IntKind.u64.wrap (IntKind.i64.wrap (a1+a3))) 1)))) else (cD rec_ a1 a2 a3 h z false)
def cE (rec_:((List S47)→Int→Int→Int→Option ((List S47)))) (a0:(List S47)) (a1:Int) (a2:Int) (a3:Int) (h:Int) (z:Bool):Option ((List S47)) :=
  if z=true then ((eG a0 h a2 (IntKind.i64.wrap ((IntKind.i64.wrap ((IntKind.i64.wrap (bS .u64 (IntKind.u64.wrap (IntKind.i64.wrap (a1+a3))) 1))+a2)) - h))).bind fun C=>(bO rec_ a1 a2 a3 h C)) else (bO rec_ a1 a2 a3 h a0)
def cU (rec_:((List S47)→Int→Int→Int→Option ((List S47)))) (a0:(List S47)) (a1:Int) (a2:Int) (a3:Int) (h:Int):Option ((List S47)) :=
  if (decide (h<a2))=true then (cE rec_ a0 a1 a2 a3 h (decide (a2<IntKind.i64.wrap ((IntKind.i64.wrap ((IntKind.i64.wrap (bS .u64 (IntKind.u64.wrap (IntKind.i64.wrap (a1+a3))) 1))+a2)) - h)))) else (cE rec_ a0 a1 a2 a3 h false)
def dW (rec_:((List S47)→Int→Int→Int→Option ((List S47)))) (a0:(List S47)) (a1:Int) (a2:Int) (a3:Int) (h:Int):Option ((List S47)) :=
  cU rec_ a0 a1 a2 a3 h
def cV (h:Int) (z:Int):Option ((Int×Int)⊕((Int))) :=
  some (.inl (h,z))
def aZ (a0:(List S47)) (a1:Int) (a2:Int) (a3:Int) (h:Int) (z:Int):Option ((Int×Int)⊕((Int))) :=
  if (decide (h<z))=true then ((at_ a0 (IntKind.i64.wrap ((IntKind.i64.wrap ((IntKind.i64.wrap ((IntKind.i64.wrap (bS .u64 (IntKind.u64.wrap (IntKind.i64.wrap (a1+a3))) 1))+a2)) - 1)) - (IntKind.i64.wrap (bS .u64 (IntKind.u64.wrap (IntKind.i64.wrap (h+z))) 1))))).bind fun C=>((at_ a0 (IntKind.i64.wrap (bS .u64 (IntKind.u64.wrap (IntKind.i64.wrap (h+z))) 1))).bind fun G=>((jE C G).bind fun H=>(if (!(decide (H<0)))=true then (cV (IntKind.i64.wrap ((IntKind.i64.wrap (bS .u64 (IntKind.u64.wrap (IntKind.i64.wrap (h+z))) 1))+1)) z) else (cV h (IntKind.i64.wrap (bS .u64 (IntKind.u64.wrap (IntKind.i64.wrap (h+z))) 1))))))) else (some (.inr (h)))
def cF (rec_:((List S47)→Int→Int→Int→Option ((List S47)))) (a0:(List S47)) (a1:Int) (a2:Int) (a3:Int) (h:Int) (z:Int):Option ((List S47)) :=
  (loop (fun s=>aZ a0 a1 a2 a3 s.1 s.2) (h,z)).bind fun t=>dW rec_ a0 a1 a2 a3 t
def aS (rec_:(List S47)→Int→Int→Int→Option ((List S47))) (a0:(List S47)) (a1:Int) (a2:Int) (a3:Int):Option ((List S47)) :=
  if ((IntKind.i64.wrap (a2 - a1))==1)=true then ((loop (fun s=>aY a0 a1 s.1 s.2) (a2,a3)).bind fun t=>dX a0 a1 t) else (if ((IntKind.i64.wrap (a3 - a2))==1)=true then ((loop (fun s=>bA a0 a2 s.1 s.2) (a1,a2)).bind fun t=>dY a0 a2 t) else (if (decide (IntKind.i64.wrap (bS .u64 (IntKind.u64.wrap (IntKind.i64.wrap (a1+a3))) 1)<a2))=true then (cF rec_ a0 a1 a2 a3 (IntKind.i64.wrap ((IntKind.i64.wrap ((IntKind.i64.wrap (bS .u64 (IntKind.u64.wrap (IntKind.i64.wrap (a1+a3))) 1))+a2)) - a3)) (IntKind.i64.wrap (bS .u64 (IntKind.u64.wrap (IntKind.i64.wrap (a1+a3))) 1))) else (cF rec_ a0 a1 a2 a3 a1 a2)))
def aD:Nat→(List S47)→Int→Int→Int→Option ((List S47))
  | 0=>fun _ _ _ _=>none
  | k+1=>aS (aD k)
def dS:(List S47)→Int→Int→Int→Option ((List S47)):=aD 64
def fB (h:(List S47)):Option ((List S47)) :=
  some h
def eT (h:(List S47)):Option ((List S47)) :=
  fB h
def dD (h:Int) (z:(List S47)):Option (((List S47)×Int)⊕(((List S47)))) :=
  some (.inl (z,IntKind.i64.wrap (h+1)))
def cN (h:Int) (z:(List S47)):Option (((List S47)×Int)⊕(((List S47)))) :=
  dD h z
def cG (z:(List S47)) (h:Int) (G:Bool):Option (((List S47)×Int)⊕(((List S47)))) :=
  if G=true then ((at_ z (IntKind.i64.wrap (h - 1))).bind fun C=>((at_ z h).bind fun H=>((at_ (z.set h.toNat C) (IntKind.i64.wrap (h - 1))).bind fun I=>(some (.inl ((z.set h.toNat C).set (IntKind.i64.wrap (h - 1)).toNat H,IntKind.i64.wrap (h - 1))))))) else (some (.inr (z)))
def aN (a1:Int) (z:(List S47)) (h:Int):Option (((List S47)×Int)⊕(((List S47)))) :=
  if (decide (a1<h))=true then ((at_ z h).bind fun C=>((at_ z (IntKind.i64.wrap (h - 1))).bind fun G=>((jE C G).bind fun H=>(cG z h (decide (H<0)))))) else (cG z h false)
def aG (a1:Int) (a2:Int) (z:(List S47)) (h:Int):Option (((List S47)×Int)⊕(((List S47)))) :=
  if (decide (h<a2))=true then ((loop (fun s=>aN a1 s.1 s.2) (z,h)).bind fun t=>cN h t) else (some (.inr (z)))
def bZ (a0:(List S47)) (a1:Int) (a2:Int):Option ((List S47)) :=
  (loop (fun s=>aG a1 a2 s.1 s.2) (a0,IntKind.i64.wrap (a1+1))).bind fun t=>eT t
def gV (h:(List S47)):Option ((List S47)) :=
  some h
def gM (h:(List S47)):Option ((List S47)) :=
  gV h
def dO (h:Int) (z:(List S47)):Option (((List S47)×Int)⊕(((List S47)))) :=
  some (.inl (z,IntKind.i64.wrap (h * 2)))
def eV (a1:Int) (h:Int) (C:(List S47)) (z:Int):Option (((List S47)×Int)⊕(((List S47)))) :=
  if (decide (IntKind.i64.wrap (z+h)<a1))=true then ((dS C z (IntKind.i64.wrap (z+h)) a1).bind fun G=>(dO h G)) else (dO h C)
def eK (a1:Int) (h:Int) (z:(List S47)) (C:Int):Option (((List S47)×Int)⊕(((List S47)))) :=
  eV a1 h z C
def bV (a1:Int) (C:Int) (G:(List S47)) (z:Int) (h:Int):Option (((List S47)×Int×Int)⊕(((List S47)×Int))) :=
  if (decide (h≤a1))=true then ((dS G z (IntKind.i64.wrap (z+C)) h).bind fun H=>(some (.inl (H,h,IntKind.i64.wrap (h+(IntKind.i64.wrap (2 * C))))))) else (some (.inr (G,z)))
def bX (a1:Int) (z:(List S47)) (h:Int):Option (((List S47)×Int)⊕(((List S47)))) :=
  if (decide (h<a1))=true then ((loop (fun s=>bV a1 h s.1 s.2.1 s.2.2) (z,0,IntKind.i64.wrap (2 * h))).bind fun t=>eK a1 h t.1 t.2) else (some (.inr (z)))
def eU (a1:Int) (h:(List S47)) (z:Int):Option ((List S47)) :=
  (bZ h z a1).bind fun C=>((loop (fun s=>bX a1 s.1 s.2) (C,20)).bind fun t=>gM t)
def eL (a1:Int) (h:(List S47)) (z:Int):Option ((List S47)) :=
  eU a1 h z
def bW (a1:Int) (z:(List S47)) (C:Int) (h:Int):Option (((List S47)×Int×Int)⊕(((List S47)×Int))) :=
  if (decide (h≤a1))=true then ((bZ z C h).bind fun G=>(some (.inl (G,h,IntKind.i64.wrap (h+20))))) else (some (.inr (z,C)))
def eH (a0:(List S47)) (a1:Int):Option ((List S47)) :=
  (loop (fun s=>bW a1 s.1 s.2.1 s.2.2) (a0,0,20)).bind fun t=>eL a1 t.1 t.2
def dA (a0:(List S47)):Option ((List S47)) :=
  (eH a0 (a0.length:Int)).bind fun h=>(some h)
def vY (a0:(List S47)):Option ((List S47)) :=
  (fE a0).bind fun h=>((dA h).bind fun z=>(some z))
end
set_option maxRecDepth 100000
set_option maxHeartbeats 4000000
set_option linter.unusedSimpArgs false
section
variable {r:World} {L:List HP} {w:World} {Z:Nat→Prop} {wz:World}
theorem sU {a0 a1 y} (G:nO a0 a1=some y) (X:SH r (L) w) :
  Ret Tryz.prog 58 #[.agg #[.int .u64 a0.f0,.int .i64 a0.f1,.int .i64 a0.f2,str a0.f3,.float .f64 a0.f4],.agg #[.int .u64 a1.f0,.int .i64 a1.f1,.int .i64 a1.f2,str a1.f3,.float .f64 a1.f4]] w fun v w'=>v=.bool y∧SH r (L) w':=by
 refine enter Tryz.func58 rfl Tryz.ntmps58 [(0,_),(1,_)] rfl (by simp) ?_
 intro U J Qf hQ hQn
 unfold nO at G
 refine ws fun a5 h=>oJ J X (fun a6 U w X J=>?_) rfl
 refine oJ J X (fun a7 U w X J=>?_) rfl
 refine x_m J rfl fun U J=>wn (h _ _ ?_)
 refine wp_seq_k fun a8 z=>aA fun a9 C=>ws fun b3 H=>aT yX J (fun U J=>?_) rfl
 refine aK uu9 (X.cell 1 rfl 3 _ rfl) J (fun U J=>?_) rfl
 refine aT yX J (fun U J=>?_) rfl
 refine aK uu9 (X.cell 0 rfl 3 _ rfl) J (fun U J=>?_) rfl
 refine x_v J (aM3 rfl (J.ev rfl) (J.ev rfl)) rfl fun U J=>x_m J rfl fun U J=>wn (H _ _ ?_)
 refine bH J G rfl (fun I G=>?_) fun I G=>?_
 ·refine ws fun b4 S=>aT yX J (fun U J=>?_) rfl
  refine aK uu9 (X.cell 1 rfl 3 _ rfl) J (fun U J=>?_) rfl
  refine aT yX J (fun U J=>?_) rfl
  refine aK uu9 (X.cell 0 rfl 3 _ rfl) J (fun U J=>?_) rfl
  refine x_v J (aKv rfl (J.ev rfl) (J.ev rfl)) rfl fun U J=>x_m J rfl fun U J=>wn (S _ _ ?_)
  replace X:=X.drop 0 |>.drop 0
  cases G
  refine wp_ret (hQ _ _ ?_)
  exact lv Tryz.results58 J rfl ⟨rfl,X⟩
 refine ws fun b5 Y=>aT mP J (fun U J=>?_) rfl
 refine aK uu2 (X.cell 1 rfl 2 _ rfl) J (fun U J=>?_) rfl
 refine aT mP J (fun U J=>?_) rfl
 refine aK uu2 (X.cell 0 rfl 2 _ rfl) J (fun U J=>?_) rfl
 refine nk 2 J rfl fun U J=>Y _ _ (bH J G rfl (fun a2 G=>?_) fun a2 G=>?_)
 ·refine ws fun b6 a3=>aT mP J (fun U J=>?_) rfl
  refine aK uu2 (X.cell 1 rfl 2 _ rfl) J (fun U J=>?_) rfl
  refine aT mP J (fun U J=>?_) rfl
  refine aK uu2 (X.cell 0 rfl 2 _ rfl) J (fun U J=>?_) rfl
  refine nk 2 J rfl fun U J=>?_
  replace X:=X.drop 0 |>.drop 0
  cases G
  refine a3 _ _ (wp_ret ?_)
  refine hQ _ _ (lv Tryz.results58 J rfl ?_)
  exact⟨rfl,X⟩
 refine wp_skip (C _ _ ?_)
 refine z _ _ (ws fun b7 a4=>?_)
 refine aT yH J (fun U J=>?_) rfl
 refine aK nH (X.cell 1 rfl 0 _ rfl) J (fun U J=>?_) rfl
 refine aT yH J (fun U J=>?_) rfl
 refine aK nH (X.cell 0 rfl 0 _ rfl) J (fun U J=>?_) rfl
 refine nk 2 J rfl fun U J=>?_
 replace X:=X.drop 0 |>.drop 0
 cases G
 refine a4 _ _ (wp_ret ?_)
 refine hQ _ _ (lv Tryz.results58 J rfl ?_)
 exact⟨rfl,X⟩
theorem rY {a0 a1 y} (G:jE a0 a1=some y) (X:SH r (L) w) :
  Ret Tryz.prog 57 #[.agg #[.int .u64 a0.f0,.int .i64 a0.f1,.int .i64 a0.f2,str a0.f3,.float .f64 a0.f4],.agg #[.int .u64 a1.f0,.int .i64 a1.f1,.int .i64 a1.f2,str a1.f3,.float .f64 a1.f4]] w fun v w'=>v=.int .i64 y∧SH r (L) w':=by
 refine enter Tryz.func57 rfl Tryz.ntmps57 [(0,_),(1,_)] rfl (by simp) ?_
 intro U J Qf hQ hQn
 unfold jE at G
 refine ws fun a7 H=>oJ J X (fun z U w X J=>?_) rfl
 refine oJ J X (fun C U w X J=>?_) rfl
 refine x_m J rfl fun U J=>wn (H _ _ ?_)
 refine wp_seq_k fun a8 I=>aA fun a9 S=>ws fun b3 Y=>kK (ad:=⟨z,0,none⟩) (cs:=[.int .u64 a0.f0,.int .i64 a0.f1,.int .i64 a0.f2,str a0.f3,.float .f64 a0.f4]) nG dI (fun j u h=>by rw [jR,Nat.zero_add]; exact X.cell 1 rfl j u h) J (fun U J=>?_) rfl
 refine kK (ad:=⟨C,0,none⟩) (cs:=[.int .u64 a1.f0,.int .i64 a1.f1,.int .i64 a1.f2,str a1.f3,.float .f64 a1.f4]) nG dI (fun j u h=>by rw [jR,Nat.zero_add]; exact X.cell 0 rfl j u h) J (fun U J=>?_) rfl
 obtain⟨b4,a2,G⟩:=bnd G
 refine x_c aO7 J rfl (sU a2 X :) fun v U w hR J=>?_
 obtain⟨rfl,X⟩:=hR
 refine x_m J rfl fun U J=>wn (Y _ _ ?_)
 refine bH J G rfl (fun a3 G=>?_) fun a3 G=>?_
 ·refine nz 1 J rfl fun U J=>?_
  replace X:=X.drop 0 |>.drop 0
  cases G
  refine wp_ret (hQ _ _ ?_)
  exact lv Tryz.results57 J rfl ⟨rfl,X⟩
 refine ws fun b5 a4=>kK (ad:=⟨C,0,none⟩) (cs:=[.int .u64 a1.f0,.int .i64 a1.f1,.int .i64 a1.f2,str a1.f3,.float .f64 a1.f4]) nG dI (fun j u h=>by rw [jR,Nat.zero_add]; exact X.cell 0 rfl j u h) J (fun U J=>?_) rfl
 refine kK (ad:=⟨z,0,none⟩) (cs:=[.int .u64 a0.f0,.int .i64 a0.f1,.int .i64 a0.f2,str a0.f3,.float .f64 a0.f4]) nG dI (fun j u h=>by rw [jR,Nat.zero_add]; exact X.cell 1 rfl j u h) J (fun U J=>?_) rfl
 obtain⟨b6,a5,G⟩:=bnd G
 refine x_c aO7 J rfl (sU a5 X :) fun v U w hR J=>?_
 obtain⟨rfl,X⟩:=hR
 refine x_m J rfl fun U J=>wn (a4 _ _ ?_)
 refine bH J G rfl (fun a6 G=>?_) fun a6 G=>?_
 ·refine nz 1 J rfl fun U J=>?_
  replace X:=X.drop 0 |>.drop 0
  cases G
  refine wp_ret (hQ _ _ ?_)
  exact lv Tryz.results57 J rfl ⟨rfl,X⟩
 refine wp_skip (S _ _ ?_)
 refine I _ _ (nz 1 J rfl fun U J=>?_)
 replace X:=X.drop 0 |>.drop 0
 cases G
 refine wp_ret (hQ _ _ ?_)
 exact lv Tryz.results57 J rfl ⟨rfl,X⟩
theorem rJ {a0 A0 n0 c0 y} (G:fE a0=some y) (X:SH r (L) w) (ha0:RdL L k47 A0 n0 c0 a0) :
  Ret Tryz.prog 55 #[.slice A0 n0 c0] w fun v w'=>∃ (B0:Option Addr) (m0:Nat) (d0:Nat),v=.slice B0 m0 d0∧SH r (own k47 47 B0 m0 d0 y::L) w':=by
 refine enter Tryz.func55 rfl Tryz.ntmps55 [(0,_)] rfl (by simp) ?_
 intro U J Qf hQ hQn
 unfold fE at G
 refine nz 1 J rfl fun U J=>wp_seq_k fun a2 z=>ws fun a3 h=>xk 1 J rfl fun U J=>?_
 rcases A0 with _ | C
 ·replace G:=aUc (RdL.none_nil ha0 (X.sfx 0)) G
  refine x_v (v:=.bool true) J (aB0 (p:=none) gO rfl (J.ev rfl) (J.ev rfl)) rfl fun U J=>wn (h _ _ ?_)
  refine c_t (b:=true) rfl J ?_ rfl
  refine nz 1 J rfl fun U J=>?_
  replace X:=SH.nil_own (d:=k47) (e:=47) X
  cases G
  refine wp_ret (hQ _ _ ?_)
  exact lv Tryz.results55 J rfl ⟨none,0,0,rfl,X⟩
 replace G:=aU3 G
 refine x_v (v:=.bool false) J (aB0 (p:=some C) gO rfl (J.ev rfl) (J.ev rfl)) rfl fun U J=>wn (h _ _ ?_)
 refine c_f (b:=false) rfl J ?_ rfl
 refine wp_skip (z _ _ ?_)
 refine ws fun a4 H=>iV (d:=k47) (e:=47) (ps:=#[]) (cells:=[]) (xs:=[]) (fun w=>by kernel_rfl) rfl rfl J X (fun a5 U w X J=>?_) rfl
 refine x_m J rfl fun U J=>?_
 obtain⟨I,G⟩:=aB G
 have hr:=X.rdl 1 ha0 rfl
 refine iP 0 aJu gO J X hr.1 hr.2.1 I rfl (fun S Y a1 U w X J=>?_) rfl
 rw [List.nil_append] at X
 refine x_m J rfl fun U J=>wn (H _ _ ?_)
 cases G
 refine wp_ret (hQ _ _ ?_)
 exact lv Tryz.results55 J rfl ⟨S,Y,a1,rfl,X⟩
theorem gH {a0 a1 a2 a3 A0 n0 c0 y} (G:bT a0 a1 a2 a3=some y) (X:SH r (own k47 47 A0 n0 c0 a0::L) w) :
  Ret Tryz.prog 136 #[.slice A0 n0 c0,.int .i64 a1,.int .i64 a2,.int .i64 a3,.func (.func 57) #[] #[]] w fun v w'=>v=.tuple #[]∧SH r (own k47 47 A0 n0 c0 y::L) w':=by
 refine enter Tryz.func136 rfl Tryz.ntmps136 [(0,_),(1,_),(2,_),(3,_),(4,_)] rfl (by simp) ?_
 intro U J Qf hQ hQn
 unfold bT at G
 refine nz 1 J rfl fun U J=>aA fun a4 a8=>?_
 have hb1:∀Y,fX Y=some y→∀U w,FR 38 [] U [(0,.slice A0 n0 c0),(4,.func (.func 57) #[] #[])]→SH r (own k47 47 A0 n0 c0 Y::L) w→a4 U w:=by
  intro Y G U w J X
  unfold fX at G
  cases G
  refine a8 _ _ (hQn _ _ ?_)
  exact aB6 Tryz.results136 J ⟨rfl,X⟩
 obtain⟨a9,b3,G⟩:=bnd G
 have b4:∀I,(I)=a9→∀U w,FR 38 [] U [(0,.slice A0 n0 c0),(4,.func (.func 57) #[] #[])]→SH r (own k47 47 A0 n0 c0 I::L) w→a4 U w:=by
  intro I ht U w J X
  subst ht
  replace G:fJ I=some y:=G
  unfold fJ at G
  exact hb1 I G U w (J.sub _ rfl) X
 refine aE b3 (fun s U w=>FR 38 [] U [(0,.slice A0 n0 c0),(1,.int .i64 a1),(2,.int .i64 a2),(3,.int .i64 a3),(4,.func (.func 57) #[] #[]),(10,.int .i64 s.2)]∧SH r (own k47 47 A0 n0 c0 s.1::L) w) ⟨J.sub _ rfl,X⟩ ?_
 intro c8 b5 b6 G b7 b8 U w hLab
 obtain⟨a5,H⟩:=b5
 replace G:aV a1 a2 a3 a5 H=some b6:=G
 unfold aV at G
 try dsimp only at hLab
 obtain⟨J,X⟩:=hLab
 refine wp_seq_k fun c9 b9=>nz 3 J rfl fun U J=>bH J G rfl (fun c3 G=>?_) fun c3 G=>?_
 ·refine wp_skip (b9 _ _ ?_)
  refine wp_seq_k fun d0 c4=>aA fun d1 c5=>dE [0,0,0,6,0,0,0,96,0,0,0,1536,3840,7936,0,0,0,98304,245760,507904,1048335,2096911,4194303,8388607] [21,23] rfl J X (by kernel_rfl) (by kernel_rfl) (by kernel_rfl) (by kernel_rfl) fun w X=>?_
  obtain⟨z,a6,G⟩:=bnd G
  obtain⟨cs,hV,c6⟩:=el (X.rd 0 rfl) a6
  obtain rfl:=hV
  obtain⟨C,S,G⟩:=bnd G
  obtain⟨cs,hV,c7⟩:=el (X.rd 0 rfl) S
  obtain rfl:=hV
  refine⟨[(0,.slice A0 n0 c0),(1,.int .i64 a1),(2,.int .i64 H),(3,.int .i64 (IntKind.i64.wrap (a1+H))),(4,.slice A0 n0 c0),(5,.int .i64 a2),(6,.int .i64 H),(7,.int .i64 (IntKind.i64.wrap (a2+H))),(8,.slice A0 n0 c0),(9,.int .i64 a2),(10,.int .i64 H),(11,.int .i64 (IntKind.i64.wrap (a2+H))),(12,.pointer (some (ea A0 ((IntKind.i64.wrap (a2+H)).toNat * 5)))),(13,.agg #[.int .u64 z.f0,.int .i64 z.f1,.int .i64 z.f2,str z.f3,.float .f64 z.f4]),(14,.slice A0 n0 c0),(15,.int .i64 a1),(16,.int .i64 H),(17,.int .i64 (IntKind.i64.wrap (a1+H))),(18,.pointer (some (ea A0 ((IntKind.i64.wrap (a1+H)).toNat * 5)))),(19,.agg #[.int .u64 C.f0,.int .i64 C.f1,.int .i64 C.f2,str C.f3,.float .f64 C.f4]),(20,.pointer (some (ea A0 ((IntKind.i64.wrap (a1+H)).toNat * 5))))],?_⟩
  refine dF [0,1,2,3,4,5,6,7,8,9,10,11,12,13,14,15,16,17,18,19,20] [21] (by kernel_rfl) ⟨pm rfl,pm rfl,pm rfl,pt [(17,_),(18,_)] rfl (fun U J=>iT rfl (J.ev rfl) (J.ev rfl)),pm rfl,pm rfl,pm rfl,pt [(21,_),(22,_)] rfl (fun U J=>iT rfl (J.ev rfl) (J.ev rfl)),pm rfl,pm rfl,pm rfl,pt [(25,_),(26,_)] rfl (fun U J=>iT rfl (J.ev rfl) (J.ev rfl)),pt [(24,_),(27,_)] rfl (fun U J=>fT gO dI (X.rd 0 rfl) a6 J rfl rfl rfl),pt [(28,_)] rfl (fun U J=>qI (cs:=[.int .u64 z.f0,.int .i64 z.f1,.int .i64 z.f2,str z.f3,.float .f64 z.f4]) nG dI (fun j u h=>by rw [gP]; exact c6 _ _ h) J rfl rfl rfl),pm rfl,pm rfl,pm rfl,pt [(31,_),(32,_)] rfl (fun U J=>iT rfl (J.ev rfl) (J.ev rfl)),pt [(30,_),(33,_)] rfl (fun U J=>fT gO dI (X.rd 0 rfl) S J rfl rfl rfl),pt [(34,_)] rfl (fun U J=>qI (cs:=[.int .u64 C.f0,.int .i64 C.f1,.int .i64 C.f2,str C.f3,.float .f64 C.f4]) nG dI (fun j u h=>by rw [gP]; exact c7 _ _ h) J rfl rfl rfl),pt [(16,_),(19,_)] rfl (fun U J=>fT gO dI (X.rd 0 rfl) S J rfl rfl rfl),trivial⟩ ⟨et [(29,_),(36,_)] rfl (fun U J K hK=>?_),trivial⟩
  refine wY (z':=z) (off:=0) (vs:=[.int .u64 z.f0,.int .i64 z.f1,.int .i64 z.f2,str z.f3,.float .f64 z.f4]) 0 dI J X rfl (dU S).2.2 (fun c h=>by cases h; rfl) (fun  w X=>?_) rfl rfl rfl rfl rfl rfl
  obtain⟨d2,a7,G⟩:=bnd G
  refine hK _ [(22,.pointer (some (ea A0 ((IntKind.i64.wrap (a2+H)).toNat * 5))))] _ rfl (dF [4,5,6,7,22] [23] (by kernel_rfl) ⟨pm rfl,pm rfl,pm rfl,pt [(21,_),(22,_)] rfl (fun U J=>iT rfl (J.ev rfl) (J.ev rfl)),pt [(20,_),(23,_)] rfl (fun U J=>fT gO dI (X.rd 0 rfl) a7 J rfl rfl rfl),trivial⟩ ⟨et [(35,_),(37,_)] rfl (fun U J K hK=>?_),trivial⟩)
  refine wY (z':=C) (off:=0) (vs:=[.int .u64 C.f0,.int .i64 C.f1,.int .i64 C.f2,str C.f3,.float .f64 C.f4]) 0 dI J X rfl (dU a7).2.2 (fun c h=>by cases h; rfl) (fun  w X=>?_) rfl rfl rfl rfl rfl rfl
  refine hK _ [] _ rfl (gW [] (by kernel_rfl) trivial ⟨by kernel_rfl,by kernel_rfl⟩ [(0,_),(1,_),(2,_),(3,_),(4,_),(10,_)] rfl (fun U J=>?_))
  refine c5 _ _ (c4 _ _ ?_)
  refine aC (nk 3 J rfl fun U J=>?_)
  cases G
  exact⟨_,b7 _ rfl,J.sub _ rfl,X⟩
 cases G
 exact wp_exit (b4 a5 (b8 _ rfl) U w (J.sub _ rfl) X)
theorem sK {a0 a1 a2 a3 A0 n0 c0 y} (G:eG a0 a1 a2 a3=some y) (X:SH r (own k47 47 A0 n0 c0 a0::L) w) :
  Ret Tryz.prog 118 #[.slice A0 n0 c0,.int .i64 a1,.int .i64 a2,.int .i64 a3,.func (.func 57) #[] #[]] w fun v w'=>v=.tuple #[]∧SH r (own k47 47 A0 n0 c0 y::L) w':=by
 refine enter Tryz.func118 rfl Tryz.ntmps118 [(0,_),(1,_),(2,_),(3,_),(4,_)] rfl (by simp) ?_
 intro U J Qf hQ hQn
 unfold eG at G
 refine nz 4 J rfl fun U J=>nz 4 J rfl fun U J=>wp_seq_k fun d5 a9=>aA fun a6 b3=>?_
 have hb1:∀I S,eW a2 I S=some y→∀U w,FR 58 [] U [(0,.slice A0 n0 c0),(2,.int .i64 a2),(4,.func (.func 57) #[] #[]),(10,.int .i64 S)]→SH r (own k47 47 A0 n0 c0 I::L) w→a6 U w:=by
  intro I S G U w J X
  unfold eW at G
  refine b3 _ _ (a9 _ _ ?_)
  refine aC (xk 7 J rfl fun U J=>?_)
  obtain⟨d6,b4,G⟩:=bnd G
  refine x_c aOm J rfl (gH b4 X :) fun v U w hR J=>?_
  obtain⟨rfl,X⟩:=hR
  refine wpList_nil ?_
  cases G
  refine hQn _ _ (aB6 Tryz.results118 J ?_)
  exact⟨rfl,X⟩
 obtain⟨b5,b6,G⟩:=bnd G
 have b7:∀h z,(h,z)=b5→∀U w,FR 58 [] U [(0,.slice A0 n0 c0),(2,.int .i64 a2),(4,.func (.func 57) #[] #[]),(10,.int .i64 z)]→SH r (own k47 47 A0 n0 c0 h::L) w→a6 U w:=by
  intro h z ht U w J X
  subst ht
  replace G:eN a2 h z=some y:=G
  unfold eN at G
  exact hb1 h z G U w (J.sub _ rfl) X
 refine aE b6 (fun s U w=>FR 58 [] U [(0,.slice A0 n0 c0),(2,.int .i64 a2),(4,.func (.func 57) #[] #[]),(10,.int .i64 s.2.1),(11,.int .i64 s.2.2)]∧SH r (own k47 47 A0 n0 c0 s.1::L) w) ⟨J.sub _ rfl,X⟩ ?_
 intro d7 b8 a7 G b9 c3 U w hLab
 obtain⟨a8,C,H⟩:=b8
 replace G:bU a2 a8 C H=some a7:=G
 unfold bU at G
 try dsimp only at hLab
 obtain⟨J,X⟩:=hLab
 refine wp_seq_k fun d8 c4=>nz 3 J rfl fun U J=>bH J G rfl (fun c5 G=>?_) fun c5 G=>?_
 ·refine wp_skip (c4 _ _ ?_)
  refine aA fun c6 c7=>?_
  have hb2:∀Y a4 a5,dN Y a4 a5=some a7→∀U w,FR 58 [] U [(0,.slice A0 n0 c0),(2,.int .i64 a2),(4,.func (.func 57) #[] #[]),(10,.int .i64 a4),(11,.int .i64 a5)]→SH r (own k47 47 A0 n0 c0 Y::L) w→c6 U w:=by
   intro Y a4 a5 G U w J X
   unfold dN at G
   cases G
   exact c7 _ _ ⟨_,b9 _ rfl,J.sub _ rfl,X⟩
  refine nz 3 J rfl fun U J=>bH J G rfl (fun c8 G=>?_) fun c8 G=>?_
  ·refine ws fun d9 c9=>xk 7 J rfl fun U J=>?_
   obtain⟨d0,d1,G⟩:=bnd G
   refine x_c aOm J rfl (gH d1 X :) fun v U w hR J=>?_
   obtain⟨rfl,X⟩:=hR
   refine wn (c9 _ _ ?_)
   refine aC (nk 4 J rfl fun U J=>?_)
   exact hb2 d0 (IntKind.i64.wrap (C - H)) H G U w (J.sub _ rfl) X
  refine ws fun e0 d2=>xk 11 J rfl fun U J=>?_
  obtain⟨d3,d4,G⟩:=bnd G
  refine x_c aOm J rfl (gH d4 X :) fun v U w hR J=>?_
  obtain⟨rfl,X⟩:=hR
  refine wn (d2 _ _ ?_)
  refine aC (nk 4 J rfl fun U J=>?_)
  exact hb2 d3 C (IntKind.i64.wrap (H - C)) G U w (J.sub _ rfl) X
 cases G
 exact wp_exit (b7 a8 C (c3 _ rfl) U w (J.sub _ rfl) X)
end
theorem qZ (rec_:(List S47)→Int→Int→Int→Option ((List S47))) (hrec:∀ {r:World} {L:List HP} {w:World} (a0:(List S47)) (a1:Int) (a2:Int) (a3:Int) (A0:Option Addr) (n0:Nat) (c0:Nat) {y:((List S47))} (G:rec_ a0 a1 a2 a3=some y) (X:SH r (own k47 47 A0 n0 c0 a0::L) w),Ret Tryz.prog 94 #[.slice A0 n0 c0,.int .i64 a1,.int .i64 a2,.int .i64 a3,.func (.func 57) #[] #[]] w fun v w'=>v=.tuple #[]∧SH r (own k47 47 A0 n0 c0 y::L) w') {r:World} {L:List HP} {w:World} (a0:(List S47)) (a1:Int) (a2:Int) (a3:Int) (A0:Option Addr) (n0:Nat) (c0:Nat) {y:((List S47))} (G:aS rec_ a0 a1 a2 a3=some y) (X:SH r (own k47 47 A0 n0 c0 a0::L) w) :
  Ret Tryz.prog 94 #[.slice A0 n0 c0,.int .i64 a1,.int .i64 a2,.int .i64 a3,.func (.func 57) #[] #[]] w fun v w'=>v=.tuple #[]∧SH r (own k47 47 A0 n0 c0 y::L) w':=by
 refine enter Tryz.func94 rfl Tryz.ntmps94 [(0,.slice A0 n0 c0),(1,.int .i64 a1),(2,.int .i64 a2),(3,.int .i64 a3),(4,.func (.func 57) #[] #[])] rfl (by simp) ?_
 intro U J Qf hQ hQn
 unfold aS at G
 refine wp_seq_k fun v3 j2=>?_
 refine ws fun v4 j3=>?_
 refine x_m J rfl fun U J=>?_
 refine x_m J rfl fun U J=>?_
 refine x_v J (qM rfl (J.ev rfl) (J.ev rfl)) rfl fun U J=>?_
 refine x_v J (aG1 rfl (J.ev rfl) (J.ev rfl)) rfl fun U J=>?_
 refine wn (j3 _ _ ?_)
 refine zF J rfl (fun d9=>?_) fun d9=>?_
 ·replace G:=ift d9 G
  refine ws fun v5 j4=>?_
  refine x_m J rfl fun U J=>?_
  refine x_m J rfl fun U J=>?_
  refine wn (j4 _ _ ?_)
  refine ws fun v6 j5=>?_
  refine x_m J rfl fun U J=>?_
  refine x_m J rfl fun U J=>?_
  refine wn (j5 _ _ ?_)
  refine wp_seq_k fun v7 j6=>?_
  refine aA fun h2 j7=>?_
  have hb1:∀ (c7:Int),eM a0 a1 c7=some y→∀ (U:Act) (w:World),FR 220 [] U [(0,.slice A0 n0 c0),(1,.int .i64 a1),(4,.func (.func 57) #[] #[]),(10,.int .i64 c7)]→SH r (own k47 47 A0 n0 c0 a0::L) w→h2 U w:=by
   intro c7 G U w J X
   unfold eM at G
   refine j7 _ _ ?_
   refine j6 _ _ ?_
   refine wp_seq_k fun v8 j8=>?_
   refine ws fun v9 j9=>?_
   refine x_m J rfl fun U J=>?_
   refine x_m J rfl fun U J=>?_
   refine wn (j9 _ _ ?_)
   refine aA fun h3 k0=>?_
   have hb2:∀ (e0:(List S47)),eO e0=some y→∀ (U:Act) (w:World),FR 220 [] U [(0,.slice A0 n0 c0),(4,.func (.func 57) #[] #[])]→SH r (own k47 47 A0 n0 c0 e0::L) w→h3 U w:=by
    intro e0 G U w J X
    unfold eO at G
    refine k0 _ _ ?_
    refine j8 _ _ ?_
    refine wp_ret ?_
    cases G
    refine hQ _ _ ?_
    refine lv0 Tryz.results94 J ?_
    exact⟨rfl,X⟩
   obtain⟨k1,k2,G⟩:=bnd G
   have k3:∀ (d0:(List S47)),(d0)=k1→∀ (U:Act) (w:World),FR 220 [] U [(0,.slice A0 n0 c0),(4,.func (.func 57) #[] #[])]→SH r (own k47 47 A0 n0 c0 d0::L) w→h3 U w:=by
    intro d0 ht U w J X
    subst ht
    replace G:dV d0=some y:=G
    unfold dV at G
    exact hb2 d0 G U w (J.sub _ rfl) X
   refine aE k2 (fun s U w=>FR 220 [] U [(0,.slice A0 n0 c0),(4,.func (.func 57) #[] #[]),(10,.int .i64 c7),(13,.int .i64 s.2)]∧SH r (own k47 47 A0 n0 c0 s.1::L) w) ⟨J.sub _ rfl,X⟩ ?_
   intro w0 k4 k5 G k6 k7 U w hLab
   obtain⟨h4,C⟩:=k4
   replace G:aR c7 h4 C=some k5:=G
   unfold aR at G
   try dsimp only at hLab
   obtain⟨J,X⟩:=hLab
   refine wp_seq_k fun w1 k8=>?_
   refine ws fun w2 k9=>?_
   refine x_m J rfl fun U J=>?_
   refine x_m J rfl fun U J=>?_
   refine x_v J (qM rfl (J.ev rfl) (J.ev rfl)) rfl fun U J=>?_
   refine x_v J (rB rfl (J.ev rfl) (J.ev rfl)) rfl fun U J=>?_
   refine wn (k9 _ _ ?_)
   refine zF J rfl (fun e1=>?_) fun e1=>?_
   ·replace G:=ift e1 G
    refine wp_skip ?_
    refine k8 _ _ ?_
    refine wp_seq_k fun w3 l0=>?_
    refine aA fun w4 l1=>?_
    refine dE [0,0,0,0,8,0,0,64,224,480,0,0,3072,7168,16355,32739,65535,131071] [15,17] rfl J X (by kernel_rfl) (by kernel_rfl) (by kernel_rfl) (by kernel_rfl) fun w X=>?_
    obtain⟨I,h5,G⟩:=bnd G
    obtain⟨cs,hV,l2⟩:=el (X.rd 0 rfl) h5
    obtain rfl:=hV
    obtain⟨S,d7,G⟩:=bnd G
    obtain⟨cs,hV,l3⟩:=el (X.rd 0 rfl) d7
    obtain rfl:=hV
    refine⟨[(0,.slice A0 n0 c0),(1,.int .i64 C),(2,.slice A0 n0 c0),(3,.int .i64 C),(4,.int .i64 (IntKind.i64.wrap (C+1))),(5,.slice A0 n0 c0),(6,.int .i64 C),(7,.int .i64 (IntKind.i64.wrap (C+1))),(8,.pointer (some (ea A0 ((IntKind.i64.wrap (C+1)).toNat * 5)))),(9,.agg #[.int .u64 I.f0,.int .i64 I.f1,.int .i64 I.f2,str I.f3,.float .f64 I.f4]),(10,.slice A0 n0 c0),(11,.int .i64 C),(12,.pointer (some (ea A0 (C.toNat * 5)))),(13,.agg #[.int .u64 S.f0,.int .i64 S.f1,.int .i64 S.f2,str S.f3,.float .f64 S.f4]),(14,.pointer (some (ea A0 (C.toNat * 5))))],?_⟩
    refine dF [0,1,2,3,4,5,6,7,8,9,10,11,12,13,14] [15] (by kernel_rfl) ⟨pm rfl,pm rfl,pm rfl,pm rfl,pt [(64,.int .i64 C)] rfl (fun U J=>iT rfl (J.ev rfl) (J.ev rfl)),pm rfl,pm rfl,pt [(67,.int .i64 C)] rfl (fun U J=>iT rfl (J.ev rfl) (J.ev rfl)),pt [(66,.slice A0 n0 c0),(68,.int .i64 (IntKind.i64.wrap (C+1)))] rfl (fun U J=>fT gO dI (X.rd 0 rfl) h5 J rfl rfl rfl),pt [(69,.pointer (some (ea A0 ((IntKind.i64.wrap (C+1)).toNat * 5))))] rfl (fun U J=>qI (cs:=[.int .u64 I.f0,.int .i64 I.f1,.int .i64 I.f2,str I.f3,.float .f64 I.f4]) nG dI (fun j u h=>by rw [gP]; exact l2 _ _ h) J rfl rfl rfl),pm rfl,pm rfl,pt [(71,.slice A0 n0 c0),(72,.int .i64 C)] rfl (fun U J=>fT gO dI (X.rd 0 rfl) d7 J rfl rfl rfl),pt [(73,.pointer (some (ea A0 (C.toNat * 5))))] rfl (fun U J=>qI (cs:=[.int .u64 S.f0,.int .i64 S.f1,.int .i64 S.f2,str S.f3,.float .f64 S.f4]) nG dI (fun j u h=>by rw [gP]; exact l3 _ _ h) J rfl rfl rfl),pt [(61,.slice A0 n0 c0),(62,.int .i64 C)] rfl (fun U J=>fT gO dI (X.rd 0 rfl) d7 J rfl rfl rfl),trivial⟩ ⟨et [(70,.agg #[.int .u64 I.f0,.int .i64 I.f1,.int .i64 I.f2,str I.f3,.float .f64 I.f4]),(75,.pointer (some (ea A0 (C.toNat * 5))))] rfl (fun U J K hK=>?_),trivial⟩
    refine wY (z':=I) (off:=0) (vs:=[.int .u64 I.f0,.int .i64 I.f1,.int .i64 I.f2,str I.f3,.float .f64 I.f4]) 0 dI J X rfl (dU d7).2.2 (fun c h=>by cases h; rfl) (fun  w X=>?_) rfl rfl rfl rfl rfl rfl
    obtain⟨w5,h6,G⟩:=bnd G
    refine hK _ [(16,.pointer (some (ea A0 ((IntKind.i64.wrap (C+1)).toNat * 5))))] _ rfl ?_
    refine dF [2,3,4,16] [17] (by kernel_rfl) ⟨pm rfl,pm rfl,pt [(64,.int .i64 C)] rfl (fun U J=>iT rfl (J.ev rfl) (J.ev rfl)),pt [(63,.slice A0 n0 c0),(65,.int .i64 (IntKind.i64.wrap (C+1)))] rfl (fun U J=>fT gO dI (X.rd 0 rfl) h6 J rfl rfl rfl),trivial⟩ ⟨et [(74,.agg #[.int .u64 S.f0,.int .i64 S.f1,.int .i64 S.f2,str S.f3,.float .f64 S.f4]),(76,.pointer (some (ea A0 ((IntKind.i64.wrap (C+1)).toNat * 5))))] rfl (fun U J K hK=>?_),trivial⟩
    refine wY (z':=S) (off:=0) (vs:=[.int .u64 S.f0,.int .i64 S.f1,.int .i64 S.f2,str S.f3,.float .f64 S.f4]) 0 dI J X rfl (dU h6).2.2 (fun c h=>by cases h; rfl) (fun  w X=>?_) rfl rfl rfl rfl rfl rfl
    refine hK _ [] _ rfl ?_
    refine gW [] (by kernel_rfl) trivial ⟨by kernel_rfl,by kernel_rfl⟩ [(0,.slice A0 n0 c0),(4,.func (.func 57) #[] #[]),(10,.int .i64 c7),(13,.int .i64 C)] rfl (fun U J=>?_)
    refine l1 _ _ ?_
    refine l0 _ _ ?_
    refine aC ?_
    refine x_m J rfl fun U J=>?_
    refine x_v J (iT rfl (J.ev rfl) (J.ev rfl)) rfl fun U J=>?_
    refine x_m J rfl fun U J=>?_
    refine wpList_nil ?_
    cases G
    exact⟨_,k6 _ rfl,J.sub _ rfl,X⟩
   replace G:=xA e1 G
   refine wp_exit ?_
   cases G
   exact k3 h4 (k7 _ rfl) U w (J.sub _ rfl) X
  obtain⟨l4,l5,G⟩:=bnd G
  have l6:∀ (d1:Int),(d1)=l4→∀ (U:Act) (w:World),FR 220 [] U [(0,.slice A0 n0 c0),(1,.int .i64 a1),(4,.func (.func 57) #[] #[]),(10,.int .i64 d1)]→SH r (own k47 47 A0 n0 c0 a0::L) w→h2 U w:=by
   intro d1 ht U w J X
   subst ht
   replace G:dX a0 a1 d1=some y:=G
   unfold dX at G
   exact hb1 d1 G U w (J.sub _ rfl) X
  refine aE l5 (fun s U w=>FR 220 [] U [(0,.slice A0 n0 c0),(1,.int .i64 a1),(4,.func (.func 57) #[] #[]),(10,.int .i64 s.1),(11,.int .i64 s.2)]∧SH r (own k47 47 A0 n0 c0 a0::L) w) ⟨J.sub _ rfl,X⟩ ?_
  intro w6 l7 h7 G l8 l9 U w hLab
  obtain⟨b6,b8⟩:=l7
  replace G:aY a0 a1 b6 b8=some h7:=G
  unfold aY at G
  try dsimp only at hLab
  obtain⟨J,X⟩:=hLab
  refine wp_seq_k fun w7 m0=>?_
  refine ws fun w8 m1=>?_
  refine x_m J rfl fun U J=>?_
  refine x_m J rfl fun U J=>?_
  refine x_v J (rB rfl (J.ev rfl) (J.ev rfl)) rfl fun U J=>?_
  refine wn (m1 _ _ ?_)
  refine zF J rfl (fun e2=>?_) fun e2=>?_
  ·replace G:=ift e2 G
   refine wp_skip ?_
   refine m0 _ _ ?_
   refine aA fun m2 m3=>?_
   have hb3:∀ (e3:Int) (e4:Int),cR e3 e4=some h7→∀ (U:Act) (w:World),FR 220 [] U [(0,.slice A0 n0 c0),(1,.int .i64 a1),(4,.func (.func 57) #[] #[]),(10,.int .i64 e3),(11,.int .i64 e4)]→SH r (own k47 47 A0 n0 c0 a0::L) w→m2 U w:=by
    intro e3 e4 G U w J X
    unfold cR at G
    refine m3 _ _ ?_
    cases G
    exact⟨_,l8 _ rfl,J.sub _ rfl,X⟩
   refine ws fun w9 m4=>?_
   refine x_m J rfl fun U J=>?_
   refine x_m J rfl fun U J=>?_
   refine x_v J (iT rfl (J.ev rfl) (J.ev rfl)) rfl fun U J=>?_
   refine x_v J (aX uu3 aDy rfl (J.ev rfl)) rfl fun U J=>?_
   refine x_v J (rW rfl (J.ev rfl) (J.ev rfl) (by decide)) rfl fun U J=>?_
   refine x_v J (aX aDy uu3 rfl (J.ev rfl)) rfl fun U J=>?_
   refine x_m J rfl fun U J=>?_
   refine wn (m4 _ _ ?_)
   refine wp_seq_k fun x0 m5=>?_
   refine dE [0,0,0,6,14,0,0,96,224,511,1023] [9] rfl J X (by kernel_rfl) (by kernel_rfl) (by kernel_rfl) (by kernel_rfl) fun w X=>?_
   obtain⟨a5,h8,G⟩:=bnd G
   obtain⟨cs,hV,m6⟩:=el (X.rd 0 rfl) h8
   obtain rfl:=hV
   obtain⟨a6,h9,G⟩:=bnd G
   obtain⟨cs,hV,m7⟩:=el (X.rd 0 rfl) h9
   obtain rfl:=hV
   refine⟨[(0,.func (.func 57) #[] #[]),(1,.slice A0 n0 c0),(2,.int .i64 (IntKind.i64.wrap (bS .u64 (IntKind.u64.wrap (IntKind.i64.wrap (b6+b8))) 1))),(3,.pointer (some (ea A0 ((IntKind.i64.wrap (bS .u64 (IntKind.u64.wrap (IntKind.i64.wrap (b6+b8))) 1)).toNat * 5)))),(4,.agg #[.int .u64 a5.f0,.int .i64 a5.f1,.int .i64 a5.f2,str a5.f3,.float .f64 a5.f4]),(5,.slice A0 n0 c0),(6,.int .i64 a1),(7,.pointer (some (ea A0 (a1.toNat * 5)))),(8,.agg #[.int .u64 a6.f0,.int .i64 a6.f1,.int .i64 a6.f2,str a6.f3,.float .f64 a6.f4])],?_⟩
   refine dF [0,1,2,3,4,5,6,7,8] [9] (by kernel_rfl) ⟨pm rfl,pm rfl,pm rfl,pt [(41,.slice A0 n0 c0),(42,.int .i64 (IntKind.i64.wrap (bS .u64 (IntKind.u64.wrap (IntKind.i64.wrap (b6+b8))) 1)))] rfl (fun U J=>fT gO dI (X.rd 0 rfl) h8 J rfl rfl rfl),pt [(43,.pointer (some (ea A0 ((IntKind.i64.wrap (bS .u64 (IntKind.u64.wrap (IntKind.i64.wrap (b6+b8))) 1)).toNat * 5))))] rfl (fun U J=>qI (cs:=[.int .u64 a5.f0,.int .i64 a5.f1,.int .i64 a5.f2,str a5.f3,.float .f64 a5.f4]) nG dI (fun j u h=>by rw [gP]; exact m6 _ _ h) J rfl rfl rfl),pm rfl,pm rfl,pt [(45,.slice A0 n0 c0),(46,.int .i64 a1)] rfl (fun U J=>fT gO dI (X.rd 0 rfl) h9 J rfl rfl rfl),pt [(47,.pointer (some (ea A0 (a1.toNat * 5))))] rfl (fun U J=>qI (cs:=[.int .u64 a6.f0,.int .i64 a6.f1,.int .i64 a6.f2,str a6.f3,.float .f64 a6.f4]) nG dI (fun j u h=>by rw [gP]; exact m7 _ _ h) J rfl rfl rfl),trivial⟩ ⟨et [(40,.func (.func 57) #[] #[]),(44,.agg #[.int .u64 a5.f0,.int .i64 a5.f1,.int .i64 a5.f2,str a5.f3,.float .f64 a5.f4]),(48,.agg #[.int .u64 a6.f0,.int .i64 a6.f1,.int .i64 a6.f2,str a6.f3,.float .f64 a6.f4])] rfl (fun U J K hK=>?_),trivial⟩
   obtain⟨e5,m8,G⟩:=bnd G
   refine aBz (vs:=#[.agg #[.int .u64 a5.f0,.int .i64 a5.f1,.int .i64 a5.f2,str a5.f3,.float .f64 a5.f4],.agg #[.int .u64 a6.f0,.int .i64 a6.f1,.int .i64 a6.f2,str a6.f3,.float .f64 a6.f4]]) aSx J (rY m8 X :) (fun v w hR=>?_) rfl
   obtain⟨rfl,X⟩:=hR
   refine hK _ [(10,.bool (decide (e5<0)))] _ rfl ?_
   refine gW [10] (by kernel_rfl) ⟨pt [(49,.int .i64 e5)] rfl (fun U J=>rB rfl (J.ev rfl) (J.ev rfl)),trivial⟩ ⟨by kernel_rfl,by kernel_rfl⟩ [(0,.slice A0 n0 c0),(1,.int .i64 a1),(4,.func (.func 57) #[] #[]),(10,.int .i64 b6),(11,.int .i64 b8),(12,.int .i64 (IntKind.i64.wrap (bS .u64 (IntKind.u64.wrap (IntKind.i64.wrap (b6+b8))) 1))),(50,.bool (decide (e5<0)))] rfl (fun U J=>?_)
   refine m5 _ _ ?_
   refine zF J rfl (fun e6=>?_) fun e6=>?_
   ·replace G:=ift e6 G
    refine aC ?_
    refine x_m J rfl fun U J=>?_
    refine x_v J (iT rfl (J.ev rfl) (J.ev rfl)) rfl fun U J=>?_
    refine x_m J rfl fun U J=>?_
    refine wpList_nil ?_
    exact hb3 (IntKind.i64.wrap ((IntKind.i64.wrap (bS .u64 (IntKind.u64.wrap (IntKind.i64.wrap (b6+b8))) 1))+1)) b8 G U w (J.sub _ rfl) X
   replace G:=xA e6 G
   refine aC ?_
   refine x_m J rfl fun U J=>?_
   refine x_m J rfl fun U J=>?_
   refine wpList_nil ?_
   exact hb3 b6 (IntKind.i64.wrap (bS .u64 (IntKind.u64.wrap (IntKind.i64.wrap (b6+b8))) 1)) G U w (J.sub _ rfl) X
  replace G:=xA e2 G
  refine wp_exit ?_
  cases G
  exact l6 b6 (l9 _ rfl) U w (J.sub _ rfl) X
 replace G:=xA d9 G
 refine wp_skip ?_
 refine j2 _ _ ?_
 refine wp_seq_k fun x1 m9=>?_
 refine ws fun x2 n3=>?_
 refine x_m J rfl fun U J=>?_
 refine x_m J rfl fun U J=>?_
 refine x_v J (qM rfl (J.ev rfl) (J.ev rfl)) rfl fun U J=>?_
 refine x_v J (aG1 rfl (J.ev rfl) (J.ev rfl)) rfl fun U J=>?_
 refine wn (n3 _ _ ?_)
 refine zF J rfl (fun e7=>?_) fun e7=>?_
 ·replace G:=ift e7 G
  refine ws fun x3 n4=>?_
  refine x_m J rfl fun U J=>?_
  refine x_m J rfl fun U J=>?_
  refine wn (n4 _ _ ?_)
  refine ws fun x4 n5=>?_
  refine x_m J rfl fun U J=>?_
  refine x_m J rfl fun U J=>?_
  refine wn (n5 _ _ ?_)
  refine wp_seq_k fun x5 n6=>?_
  refine aA fun i0 n7=>?_
  have hb4:∀ (c8:Int),eI a0 a2 c8=some y→∀ (U:Act) (w:World),FR 220 [] U [(0,.slice A0 n0 c0),(2,.int .i64 a2),(4,.func (.func 57) #[] #[]),(14,.int .i64 c8)]→SH r (own k47 47 A0 n0 c0 a0::L) w→i0 U w:=by
   intro c8 G U w J X
   unfold eI at G
   refine n7 _ _ ?_
   refine n6 _ _ ?_
   refine wp_seq_k fun x6 n8=>?_
   refine ws fun x7 n9=>?_
   refine x_m J rfl fun U J=>?_
   refine x_m J rfl fun U J=>?_
   refine wn (n9 _ _ ?_)
   refine aA fun i1 o0=>?_
   have hb5:∀ (e8:(List S47)),eJ e8=some y→∀ (U:Act) (w:World),FR 220 [] U [(0,.slice A0 n0 c0),(4,.func (.func 57) #[] #[])]→SH r (own k47 47 A0 n0 c0 e8::L) w→i1 U w:=by
    intro e8 G U w J X
    unfold eJ at G
    refine o0 _ _ ?_
    refine n8 _ _ ?_
    refine wp_ret ?_
    cases G
    refine hQ _ _ ?_
    refine lv0 Tryz.results94 J ?_
    exact⟨rfl,X⟩
   obtain⟨o1,o2,G⟩:=bnd G
   have o3:∀ (d2:(List S47)),(d2)=o1→∀ (U:Act) (w:World),FR 220 [] U [(0,.slice A0 n0 c0),(4,.func (.func 57) #[] #[])]→SH r (own k47 47 A0 n0 c0 d2::L) w→i1 U w:=by
    intro d2 ht U w J X
    subst ht
    replace G:dZ d2=some y:=G
    unfold dZ at G
    exact hb5 d2 G U w (J.sub _ rfl) X
   refine aE o2 (fun s U w=>FR 220 [] U [(0,.slice A0 n0 c0),(4,.func (.func 57) #[] #[]),(14,.int .i64 c8),(17,.int .i64 s.2)]∧SH r (own k47 47 A0 n0 c0 s.1::L) w) ⟨J.sub _ rfl,X⟩ ?_
   intro x8 o4 o5 G o6 o7 U w hLab
   obtain⟨i2,H⟩:=o4
   replace G:aQ c8 i2 H=some o5:=G
   unfold aQ at G
   try dsimp only at hLab
   obtain⟨J,X⟩:=hLab
   refine wp_seq_k fun x9 o8=>?_
   refine ws fun y0 o9=>?_
   refine x_m J rfl fun U J=>?_
   refine x_m J rfl fun U J=>?_
   refine x_v J (aC7 rfl (J.ev rfl) (J.ev rfl)) rfl fun U J=>?_
   refine wn (o9 _ _ ?_)
   refine zF J rfl (fun e9=>?_) fun e9=>?_
   ·replace G:=ift e9 G
    refine wp_skip ?_
    refine o8 _ _ ?_
    refine wp_seq_k fun y1 p0=>?_
    refine aA fun y2 p1=>?_
    refine dE [0,0,0,0,8,0,0,64,224,480,0,0,3072,7168,16355,32739,65535,131071] [15,17] rfl J X (by kernel_rfl) (by kernel_rfl) (by kernel_rfl) (by kernel_rfl) fun w X=>?_
    obtain⟨Y,i3,G⟩:=bnd G
    obtain⟨cs,hV,p2⟩:=el (X.rd 0 rfl) i3
    obtain rfl:=hV
    obtain⟨a4,d8,G⟩:=bnd G
    obtain⟨cs,hV,p3⟩:=el (X.rd 0 rfl) d8
    obtain rfl:=hV
    refine⟨[(0,.slice A0 n0 c0),(1,.int .i64 H),(2,.slice A0 n0 c0),(3,.int .i64 H),(4,.int .i64 (IntKind.i64.wrap (H - 1))),(5,.slice A0 n0 c0),(6,.int .i64 H),(7,.int .i64 (IntKind.i64.wrap (H - 1))),(8,.pointer (some (ea A0 ((IntKind.i64.wrap (H - 1)).toNat * 5)))),(9,.agg #[.int .u64 Y.f0,.int .i64 Y.f1,.int .i64 Y.f2,str Y.f3,.float .f64 Y.f4]),(10,.slice A0 n0 c0),(11,.int .i64 H),(12,.pointer (some (ea A0 (H.toNat * 5)))),(13,.agg #[.int .u64 a4.f0,.int .i64 a4.f1,.int .i64 a4.f2,str a4.f3,.float .f64 a4.f4]),(14,.pointer (some (ea A0 (H.toNat * 5))))],?_⟩
    refine dF [0,1,2,3,4,5,6,7,8,9,10,11,12,13,14] [15] (by kernel_rfl) ⟨pm rfl,pm rfl,pm rfl,pm rfl,pt [(116,.int .i64 H)] rfl (fun U J=>qM rfl (J.ev rfl) (J.ev rfl)),pm rfl,pm rfl,pt [(119,.int .i64 H)] rfl (fun U J=>qM rfl (J.ev rfl) (J.ev rfl)),pt [(118,.slice A0 n0 c0),(120,.int .i64 (IntKind.i64.wrap (H - 1)))] rfl (fun U J=>fT gO dI (X.rd 0 rfl) i3 J rfl rfl rfl),pt [(121,.pointer (some (ea A0 ((IntKind.i64.wrap (H - 1)).toNat * 5))))] rfl (fun U J=>qI (cs:=[.int .u64 Y.f0,.int .i64 Y.f1,.int .i64 Y.f2,str Y.f3,.float .f64 Y.f4]) nG dI (fun j u h=>by rw [gP]; exact p2 _ _ h) J rfl rfl rfl),pm rfl,pm rfl,pt [(123,.slice A0 n0 c0),(124,.int .i64 H)] rfl (fun U J=>fT gO dI (X.rd 0 rfl) d8 J rfl rfl rfl),pt [(125,.pointer (some (ea A0 (H.toNat * 5))))] rfl (fun U J=>qI (cs:=[.int .u64 a4.f0,.int .i64 a4.f1,.int .i64 a4.f2,str a4.f3,.float .f64 a4.f4]) nG dI (fun j u h=>by rw [gP]; exact p3 _ _ h) J rfl rfl rfl),pt [(113,.slice A0 n0 c0),(114,.int .i64 H)] rfl (fun U J=>fT gO dI (X.rd 0 rfl) d8 J rfl rfl rfl),trivial⟩ ⟨et [(122,.agg #[.int .u64 Y.f0,.int .i64 Y.f1,.int .i64 Y.f2,str Y.f3,.float .f64 Y.f4]),(127,.pointer (some (ea A0 (H.toNat * 5))))] rfl (fun U J K hK=>?_),trivial⟩
    refine wY (z':=Y) (off:=0) (vs:=[.int .u64 Y.f0,.int .i64 Y.f1,.int .i64 Y.f2,str Y.f3,.float .f64 Y.f4]) 0 dI J X rfl (dU d8).2.2 (fun c h=>by cases h; rfl) (fun  w X=>?_) rfl rfl rfl rfl rfl rfl
    obtain⟨y3,i4,G⟩:=bnd G
    refine hK _ [(16,.pointer (some (ea A0 ((IntKind.i64.wrap (H - 1)).toNat * 5))))] _ rfl ?_
    refine dF [2,3,4,16] [17] (by kernel_rfl) ⟨pm rfl,pm rfl,pt [(116,.int .i64 H)] rfl (fun U J=>qM rfl (J.ev rfl) (J.ev rfl)),pt [(115,.slice A0 n0 c0),(117,.int .i64 (IntKind.i64.wrap (H - 1)))] rfl (fun U J=>fT gO dI (X.rd 0 rfl) i4 J rfl rfl rfl),trivial⟩ ⟨et [(126,.agg #[.int .u64 a4.f0,.int .i64 a4.f1,.int .i64 a4.f2,str a4.f3,.float .f64 a4.f4]),(128,.pointer (some (ea A0 ((IntKind.i64.wrap (H - 1)).toNat * 5))))] rfl (fun U J K hK=>?_),trivial⟩
    refine wY (z':=a4) (off:=0) (vs:=[.int .u64 a4.f0,.int .i64 a4.f1,.int .i64 a4.f2,str a4.f3,.float .f64 a4.f4]) 0 dI J X rfl (dU i4).2.2 (fun c h=>by cases h; rfl) (fun  w X=>?_) rfl rfl rfl rfl rfl rfl
    refine hK _ [] _ rfl ?_
    refine gW [] (by kernel_rfl) trivial ⟨by kernel_rfl,by kernel_rfl⟩ [(0,.slice A0 n0 c0),(4,.func (.func 57) #[] #[]),(14,.int .i64 c8),(17,.int .i64 H)] rfl (fun U J=>?_)
    refine p1 _ _ ?_
    refine p0 _ _ ?_
    refine aC ?_
    refine x_m J rfl fun U J=>?_
    refine x_v J (qM rfl (J.ev rfl) (J.ev rfl)) rfl fun U J=>?_
    refine x_m J rfl fun U J=>?_
    refine wpList_nil ?_
    cases G
    exact⟨_,o6 _ rfl,J.sub _ rfl,X⟩
   replace G:=xA e9 G
   refine wp_exit ?_
   cases G
   exact o3 i2 (o7 _ rfl) U w (J.sub _ rfl) X
  obtain⟨p4,p5,G⟩:=bnd G
  have p6:∀ (d3:Int),(d3)=p4→∀ (U:Act) (w:World),FR 220 [] U [(0,.slice A0 n0 c0),(2,.int .i64 a2),(4,.func (.func 57) #[] #[]),(14,.int .i64 d3)]→SH r (own k47 47 A0 n0 c0 a0::L) w→i0 U w:=by
   intro d3 ht U w J X
   subst ht
   replace G:dY a0 a2 d3=some y:=G
   unfold dY at G
   exact hb4 d3 G U w (J.sub _ rfl) X
  refine aE p5 (fun s U w=>FR 220 [] U [(0,.slice A0 n0 c0),(2,.int .i64 a2),(4,.func (.func 57) #[] #[]),(14,.int .i64 s.1),(15,.int .i64 s.2)]∧SH r (own k47 47 A0 n0 c0 a0::L) w) ⟨J.sub _ rfl,X⟩ ?_
  intro y4 p7 i5 G p8 p9 U w hLab
  obtain⟨b7,b9⟩:=p7
  replace G:bA a0 a2 b7 b9=some i5:=G
  unfold bA at G
  try dsimp only at hLab
  obtain⟨J,X⟩:=hLab
  refine wp_seq_k fun y5 q0=>?_
  refine ws fun y6 q1=>?_
  refine x_m J rfl fun U J=>?_
  refine x_m J rfl fun U J=>?_
  refine x_v J (rB rfl (J.ev rfl) (J.ev rfl)) rfl fun U J=>?_
  refine wn (q1 _ _ ?_)
  refine zF J rfl (fun f5=>?_) fun f5=>?_
  ·replace G:=ift f5 G
   refine wp_skip ?_
   refine q0 _ _ ?_
   refine aA fun q2 q3=>?_
   have hb6:∀ (f6:Int) (f7:Int),cQ f6 f7=some i5→∀ (U:Act) (w:World),FR 220 [] U [(0,.slice A0 n0 c0),(2,.int .i64 a2),(4,.func (.func 57) #[] #[]),(14,.int .i64 f6),(15,.int .i64 f7)]→SH r (own k47 47 A0 n0 c0 a0::L) w→q2 U w:=by
    intro f6 f7 G U w J X
    unfold cQ at G
    refine q3 _ _ ?_
    cases G
    exact⟨_,p8 _ rfl,J.sub _ rfl,X⟩
   refine ws fun y7 q4=>?_
   refine x_m J rfl fun U J=>?_
   refine x_m J rfl fun U J=>?_
   refine x_v J (iT rfl (J.ev rfl) (J.ev rfl)) rfl fun U J=>?_
   refine x_v J (aX uu3 aDy rfl (J.ev rfl)) rfl fun U J=>?_
   refine x_v J (rW rfl (J.ev rfl) (J.ev rfl) (by decide)) rfl fun U J=>?_
   refine x_v J (aX aDy uu3 rfl (J.ev rfl)) rfl fun U J=>?_
   refine x_m J rfl fun U J=>?_
   refine wn (q4 _ _ ?_)
   refine wp_seq_k fun y8 q5=>?_
   refine dE [0,0,0,6,14,0,0,96,224,511,1023,2047] [9] rfl J X (by kernel_rfl) (by kernel_rfl) (by kernel_rfl) (by kernel_rfl) fun w X=>?_
   obtain⟨a7,i6,G⟩:=bnd G
   obtain⟨cs,hV,q6⟩:=el (X.rd 0 rfl) i6
   obtain rfl:=hV
   obtain⟨a8,i7,G⟩:=bnd G
   obtain⟨cs,hV,q7⟩:=el (X.rd 0 rfl) i7
   obtain rfl:=hV
   refine⟨[(0,.func (.func 57) #[] #[]),(1,.slice A0 n0 c0),(2,.int .i64 a2),(3,.pointer (some (ea A0 (a2.toNat * 5)))),(4,.agg #[.int .u64 a7.f0,.int .i64 a7.f1,.int .i64 a7.f2,str a7.f3,.float .f64 a7.f4]),(5,.slice A0 n0 c0),(6,.int .i64 (IntKind.i64.wrap (bS .u64 (IntKind.u64.wrap (IntKind.i64.wrap (b7+b9))) 1))),(7,.pointer (some (ea A0 ((IntKind.i64.wrap (bS .u64 (IntKind.u64.wrap (IntKind.i64.wrap (b7+b9))) 1)).toNat * 5)))),(8,.agg #[.int .u64 a8.f0,.int .i64 a8.f1,.int .i64 a8.f2,str a8.f3,.float .f64 a8.f4])],?_⟩
   refine dF [0,1,2,3,4,5,6,7,8] [9] (by kernel_rfl) ⟨pm rfl,pm rfl,pm rfl,pt [(93,.slice A0 n0 c0),(94,.int .i64 a2)] rfl (fun U J=>fT gO dI (X.rd 0 rfl) i6 J rfl rfl rfl),pt [(95,.pointer (some (ea A0 (a2.toNat * 5))))] rfl (fun U J=>qI (cs:=[.int .u64 a7.f0,.int .i64 a7.f1,.int .i64 a7.f2,str a7.f3,.float .f64 a7.f4]) nG dI (fun j u h=>by rw [gP]; exact q6 _ _ h) J rfl rfl rfl),pm rfl,pm rfl,pt [(97,.slice A0 n0 c0),(98,.int .i64 (IntKind.i64.wrap (bS .u64 (IntKind.u64.wrap (IntKind.i64.wrap (b7+b9))) 1)))] rfl (fun U J=>fT gO dI (X.rd 0 rfl) i7 J rfl rfl rfl),pt [(99,.pointer (some (ea A0 ((IntKind.i64.wrap (bS .u64 (IntKind.u64.wrap (IntKind.i64.wrap (b7+b9))) 1)).toNat * 5))))] rfl (fun U J=>qI (cs:=[.int .u64 a8.f0,.int .i64 a8.f1,.int .i64 a8.f2,str a8.f3,.float .f64 a8.f4]) nG dI (fun j u h=>by rw [gP]; exact q7 _ _ h) J rfl rfl rfl),trivial⟩ ⟨et [(92,.func (.func 57) #[] #[]),(96,.agg #[.int .u64 a7.f0,.int .i64 a7.f1,.int .i64 a7.f2,str a7.f3,.float .f64 a7.f4]),(100,.agg #[.int .u64 a8.f0,.int .i64 a8.f1,.int .i64 a8.f2,str a8.f3,.float .f64 a8.f4])] rfl (fun U J K hK=>?_),trivial⟩
   obtain⟨d4,q8,G⟩:=bnd G
   refine aBz (vs:=#[.agg #[.int .u64 a7.f0,.int .i64 a7.f1,.int .i64 a7.f2,str a7.f3,.float .f64 a7.f4],.agg #[.int .u64 a8.f0,.int .i64 a8.f1,.int .i64 a8.f2,str a8.f3,.float .f64 a8.f4]]) aSx J (rY q8 X :) (fun v w hR=>?_) rfl
   obtain⟨rfl,X⟩:=hR
   refine hK _ [(10,.bool (decide (d4<0))),(11,.bool (!(decide (d4<0))))] _ rfl ?_
   refine gW [10,11] (by kernel_rfl) ⟨pt [(101,.int .i64 d4)] rfl (fun U J=>rB rfl (J.ev rfl) (J.ev rfl)),pt [(102,.bool (decide (d4<0)))] rfl (fun U J=>aDp rfl (J.ev rfl)),trivial⟩ ⟨by kernel_rfl,by kernel_rfl⟩ [(0,.slice A0 n0 c0),(2,.int .i64 a2),(4,.func (.func 57) #[] #[]),(14,.int .i64 b7),(15,.int .i64 b9),(16,.int .i64 (IntKind.i64.wrap (bS .u64 (IntKind.u64.wrap (IntKind.i64.wrap (b7+b9))) 1))),(103,.bool (!(decide (d4<0))))] rfl (fun U J=>?_)
   refine q5 _ _ ?_
   refine zF J rfl (fun f8=>?_) fun f8=>?_
   ·replace G:=ift f8 G
    refine aC ?_
    refine x_m J rfl fun U J=>?_
    refine x_v J (iT rfl (J.ev rfl) (J.ev rfl)) rfl fun U J=>?_
    refine x_m J rfl fun U J=>?_
    refine wpList_nil ?_
    exact hb6 (IntKind.i64.wrap ((IntKind.i64.wrap (bS .u64 (IntKind.u64.wrap (IntKind.i64.wrap (b7+b9))) 1))+1)) b9 G U w (J.sub _ rfl) X
   replace G:=xA f8 G
   refine aC ?_
   refine x_m J rfl fun U J=>?_
   refine x_m J rfl fun U J=>?_
   refine wpList_nil ?_
   exact hb6 b7 (IntKind.i64.wrap (bS .u64 (IntKind.u64.wrap (IntKind.i64.wrap (b7+b9))) 1)) G U w (J.sub _ rfl) X
  replace G:=xA f5 G
  refine wp_exit ?_
  cases G
  exact p6 b7 (p9 _ rfl) U w (J.sub _ rfl) X
 replace G:=xA e7 G
 refine wp_skip ?_
 refine m9 _ _ ?_
 refine ws fun y9 q9=>?_
 refine x_m J rfl fun U J=>?_
 refine x_m J rfl fun U J=>?_
 refine x_v J (iT rfl (J.ev rfl) (J.ev rfl)) rfl fun U J=>?_
 refine x_v J (aX uu3 aDy rfl (J.ev rfl)) rfl fun U J=>?_
 refine x_v J (rW rfl (J.ev rfl) (J.ev rfl) (by decide)) rfl fun U J=>?_
 refine x_v J (aX aDy uu3 rfl (J.ev rfl)) rfl fun U J=>?_
 refine x_m J rfl fun U J=>?_
 refine wn (q9 _ _ ?_)
 refine ws fun z0 r0=>?_
 refine x_m J rfl fun U J=>?_
 refine x_m J rfl fun U J=>?_
 refine x_v J (iT rfl (J.ev rfl) (J.ev rfl)) rfl fun U J=>?_
 refine x_m J rfl fun U J=>?_
 refine wn (r0 _ _ ?_)
 refine ws fun z1 r1=>?_
 refine x_m J rfl fun U J=>?_
 refine x_m J rfl fun U J=>?_
 refine wn (r1 _ _ ?_)
 refine wp_seq_k fun r2 r3=>?_
 have hj1:∀ (f9:Int) (g0:Int),cF rec_ a0 a1 a2 a3 f9 g0=some y→∀ (U:Act) (w:World),FR 220 [] U [(0,.slice A0 n0 c0),(1,.int .i64 a1),(2,.int .i64 a2),(3,.int .i64 a3),(4,.func (.func 57) #[] #[]),(18,.int .i64 (IntKind.i64.wrap (bS .u64 (IntKind.u64.wrap (IntKind.i64.wrap (a1+a3))) 1))),(19,.int .i64 (IntKind.i64.wrap ((IntKind.i64.wrap (bS .u64 (IntKind.u64.wrap (IntKind.i64.wrap (a1+a3))) 1))+a2))),(20,.int .i64 f9),(21,.int .i64 g0)]→SH r (own k47 47 A0 n0 c0 a0::L) w→r2 U w:=by
  intro f9 g0 G U w J X
  unfold cF at G
  refine r3 _ _ ?_
  refine ws fun z2 r4=>?_
  refine x_m J rfl fun U J=>?_
  refine x_v J (qM rfl (J.ev rfl) (J.ev rfl)) rfl fun U J=>?_
  refine x_m J rfl fun U J=>?_
  refine wn (r4 _ _ ?_)
  refine wp_seq_k fun z3 r5=>?_
  refine aA fun i8 r6=>?_
  have hb7:∀ (z:Int),cU rec_ a0 a1 a2 a3 z=some y→∀ (U:Act) (w:World),FR 220 [] U [(0,.slice A0 n0 c0),(1,.int .i64 a1),(2,.int .i64 a2),(3,.int .i64 a3),(4,.func (.func 57) #[] #[]),(18,.int .i64 (IntKind.i64.wrap (bS .u64 (IntKind.u64.wrap (IntKind.i64.wrap (a1+a3))) 1))),(19,.int .i64 (IntKind.i64.wrap ((IntKind.i64.wrap (bS .u64 (IntKind.u64.wrap (IntKind.i64.wrap (a1+a3))) 1))+a2))),(20,.int .i64 z)]→SH r (own k47 47 A0 n0 c0 a0::L) w→i8 U w:=by
   intro z G U w J X
   unfold cU at G
   refine r6 _ _ ?_
   refine r5 _ _ ?_
   refine ws fun z4 r7=>?_
   refine x_m J rfl fun U J=>?_
   refine x_m J rfl fun U J=>?_
   refine x_v J (qM rfl (J.ev rfl) (J.ev rfl)) rfl fun U J=>?_
   refine x_m J rfl fun U J=>?_
   refine wn (r7 _ _ ?_)
   refine wp_seq_k fun r8 r9=>?_
   have hj2:∀ (c6:(List S47)),bO rec_ a1 a2 a3 z c6=some y→∀ (U:Act) (w:World),FR 220 [] U [(0,.slice A0 n0 c0),(1,.int .i64 a1),(3,.int .i64 a3),(4,.func (.func 57) #[] #[]),(18,.int .i64 (IntKind.i64.wrap (bS .u64 (IntKind.u64.wrap (IntKind.i64.wrap (a1+a3))) 1))),(20,.int .i64 z),(24,.int .i64 (IntKind.i64.wrap ((IntKind.i64.wrap ((IntKind.i64.wrap (bS .u64 (IntKind.u64.wrap (IntKind.i64.wrap (a1+a3))) 1))+a2)) - z)))]→SH r (own k47 47 A0 n0 c0 c6::L) w→r8 U w:=by
    intro c6 G U w J X
    unfold bO at G
    refine r9 _ _ ?_
    refine wp_seq_k fun s2 s3=>?_
    have hj3:∀ (c9:(List S47)),bQ rec_ a1 a2 a3 z c9=some y→∀ (U:Act) (w:World),FR 220 [] U [(0,.slice A0 n0 c0),(3,.int .i64 a3),(4,.func (.func 57) #[] #[]),(18,.int .i64 (IntKind.i64.wrap (bS .u64 (IntKind.u64.wrap (IntKind.i64.wrap (a1+a3))) 1))),(24,.int .i64 (IntKind.i64.wrap ((IntKind.i64.wrap ((IntKind.i64.wrap (bS .u64 (IntKind.u64.wrap (IntKind.i64.wrap (a1+a3))) 1))+a2)) - z)))]→SH r (own k47 47 A0 n0 c0 c9::L) w→s2 U w:=by
     intro c9 G U w J X
     unfold bQ at G
     refine s3 _ _ ?_
     refine wp_seq_k fun s4 s5=>?_
     have hj4:∀ (g1:Bool),cB rec_ a1 a2 a3 z c9 g1=some y→∀ (U:Act) (w:World),FR 220 [] U [(0,.slice A0 n0 c0),(3,.int .i64 a3),(4,.func (.func 57) #[] #[]),(18,.int .i64 (IntKind.i64.wrap (bS .u64 (IntKind.u64.wrap (IntKind.i64.wrap (a1+a3))) 1))),(24,.int .i64 (IntKind.i64.wrap ((IntKind.i64.wrap ((IntKind.i64.wrap (bS .u64 (IntKind.u64.wrap (IntKind.i64.wrap (a1+a3))) 1))+a2)) - z))),(213,.bool g1)]→SH r (own k47 47 A0 n0 c0 c9::L) w→s4 U w:=by
      intro g1 G U w J X
      unfold cB at G
      refine s5 _ _ ?_
      refine zF J rfl (fun g2=>?_) fun g2=>?_
      ·replace G:=ift g2 G
       refine aC ?_
       refine x_m J rfl fun U J=>?_
       refine x_m J rfl fun U J=>?_
       refine x_m J rfl fun U J=>?_
       refine x_m J rfl fun U J=>?_
       refine x_m J rfl fun U J=>?_
       obtain⟨z5,s6,G⟩:=bnd G
       refine aHy aSg J (hrec (L:=L) c9 (IntKind.i64.wrap (bS .u64 (IntKind.u64.wrap (IntKind.i64.wrap (a1+a3))) 1)) (IntKind.i64.wrap ((IntKind.i64.wrap ((IntKind.i64.wrap (bS .u64 (IntKind.u64.wrap (IntKind.i64.wrap (a1+a3))) 1))+a2)) - z)) a3 A0 n0 c0 s6 X) (fun v U w hR J=>?_) rfl
       obtain⟨rfl,X⟩:=hR
       refine wpList_nil ?_
       cases G
       refine hQn _ _ ?_
       refine aB6 Tryz.results94 J ?_
       exact⟨rfl,X⟩
      replace G:=xA g2 G
      refine wp_skip ?_
      cases G
      refine hQn _ _ ?_
      refine aB6 Tryz.results94 J ?_
      exact⟨rfl,X⟩
     refine aC ?_
     refine x_m J rfl fun U J=>?_
     refine x_m J rfl fun U J=>?_
     refine x_v J (rB rfl (J.ev rfl) (J.ev rfl)) rfl fun U J=>?_
     refine x_m J rfl fun U J=>?_
     refine aQw (b:=decide (IntKind.i64.wrap (bS .u64 (IntKind.u64.wrap (IntKind.i64.wrap (a1+a3))) 1)<IntKind.i64.wrap ((IntKind.i64.wrap ((IntKind.i64.wrap (bS .u64 (IntKind.u64.wrap (IntKind.i64.wrap (a1+a3))) 1))+a2)) - z))) (fun c3=>?_) fun c3=>?_
     ·replace G:=ift c3 G
      refine aM c3 J ?_ rfl
      refine x_m J rfl fun U J=>?_
      refine aM c3 J ?_ rfl
      refine x_m J rfl fun U J=>?_
      refine aM c3 J ?_ rfl
      refine x_v J (rB rfl (J.ev rfl) (J.ev rfl)) rfl fun U J=>?_
      refine jX c3 J (fun U J=>?_) rfl
      refine wpList_nil ?_
      exact hj4 (decide (IntKind.i64.wrap ((IntKind.i64.wrap ((IntKind.i64.wrap (bS .u64 (IntKind.u64.wrap (IntKind.i64.wrap (a1+a3))) 1))+a2)) - z)<a3)) G U w (J.sub _ rfl) X
     replace G:=xA c3 G
     refine xO 3 c3 J rfl fun U J=>?_
     refine cA c3 J (fun U J=>?_) rfl
     refine wpList_nil ?_
     exact hj4 false G U w (J.sub _ rfl) X
    refine wp_seq_k fun s7 s8=>?_
    have hj5:∀ (g3:Bool),cD rec_ a1 a2 a3 z c6 g3=some y→∀ (U:Act) (w:World),FR 220 [] U [(0,.slice A0 n0 c0),(1,.int .i64 a1),(3,.int .i64 a3),(4,.func (.func 57) #[] #[]),(18,.int .i64 (IntKind.i64.wrap (bS .u64 (IntKind.u64.wrap (IntKind.i64.wrap (a1+a3))) 1))),(20,.int .i64 z),(24,.int .i64 (IntKind.i64.wrap ((IntKind.i64.wrap ((IntKind.i64.wrap (bS .u64 (IntKind.u64.wrap (IntKind.i64.wrap (a1+a3))) 1))+a2)) - z))),(199,.bool g3)]→SH r (own k47 47 A0 n0 c0 c6::L) w→s7 U w:=by
     intro g3 G U w J X
     unfold cD at G
     refine s8 _ _ ?_
     refine zF J rfl (fun g4=>?_) fun g4=>?_
     ·replace G:=ift g4 G
      refine aC ?_
      refine x_m J rfl fun U J=>?_
      refine x_m J rfl fun U J=>?_
      refine x_m J rfl fun U J=>?_
      refine x_m J rfl fun U J=>?_
      refine x_m J rfl fun U J=>?_
      obtain⟨s9,t0,G⟩:=bnd G
      refine aHy aSg J (hrec (L:=L) c6 a1 z (IntKind.i64.wrap (bS .u64 (IntKind.u64.wrap (IntKind.i64.wrap (a1+a3))) 1)) A0 n0 c0 t0 X) (fun v U w hR J=>?_) rfl
      obtain⟨rfl,X⟩:=hR
      refine wpList_nil ?_
      exact hj3 s9 G U w (J.sub _ rfl) X
     replace G:=xA g4 G
     refine wp_skip ?_
     exact hj3 c6 G U w (J.sub _ rfl) X
    refine aC ?_
    refine x_m J rfl fun U J=>?_
    refine x_m J rfl fun U J=>?_
    refine x_v J (rB rfl (J.ev rfl) (J.ev rfl)) rfl fun U J=>?_
    refine x_m J rfl fun U J=>?_
    refine aQw (b:=decide (a1<z)) (fun c4=>?_) fun c4=>?_
    ·replace G:=ift c4 G
     refine aM c4 J ?_ rfl
     refine x_m J rfl fun U J=>?_
     refine aM c4 J ?_ rfl
     refine x_m J rfl fun U J=>?_
     refine aM c4 J ?_ rfl
     refine x_v J (rB rfl (J.ev rfl) (J.ev rfl)) rfl fun U J=>?_
     refine jX c4 J (fun U J=>?_) rfl
     refine wpList_nil ?_
     exact hj5 (decide (z<IntKind.i64.wrap (bS .u64 (IntKind.u64.wrap (IntKind.i64.wrap (a1+a3))) 1))) G U w (J.sub _ rfl) X
    replace G:=xA c4 G
    refine xO 3 c4 J rfl fun U J=>?_
    refine cA c4 J (fun U J=>?_) rfl
    refine wpList_nil ?_
    exact hj5 false G U w (J.sub _ rfl) X
   refine wp_seq_k fun t1 t3=>?_
   have hj6:∀ (g5:Bool),cE rec_ a0 a1 a2 a3 z g5=some y→∀ (U:Act) (w:World),FR 220 [] U [(0,.slice A0 n0 c0),(1,.int .i64 a1),(2,.int .i64 a2),(3,.int .i64 a3),(4,.func (.func 57) #[] #[]),(18,.int .i64 (IntKind.i64.wrap (bS .u64 (IntKind.u64.wrap (IntKind.i64.wrap (a1+a3))) 1))),(20,.int .i64 z),(24,.int .i64 (IntKind.i64.wrap ((IntKind.i64.wrap ((IntKind.i64.wrap (bS .u64 (IntKind.u64.wrap (IntKind.i64.wrap (a1+a3))) 1))+a2)) - z))),(185,.bool g5)]→SH r (own k47 47 A0 n0 c0 a0::L) w→t1 U w:=by
    intro g5 G U w J X
    unfold cE at G
    refine t3 _ _ ?_
    refine zF J rfl (fun g6=>?_) fun g6=>?_
    ·replace G:=ift g6 G
     refine aC ?_
     refine x_m J rfl fun U J=>?_
     refine x_m J rfl fun U J=>?_
     refine x_m J rfl fun U J=>?_
     refine x_m J rfl fun U J=>?_
     refine x_m J rfl fun U J=>?_
     obtain⟨t4,t5,G⟩:=bnd G
     refine aHy aYu J (sK t5 X :) (fun v U w hR J=>?_) rfl
     obtain⟨rfl,X⟩:=hR
     refine wpList_nil ?_
     exact hj2 t4 G U w (J.sub _ rfl) X
    replace G:=xA g6 G
    refine wp_skip ?_
    exact hj2 a0 G U w (J.sub _ rfl) X
   refine aC ?_
   refine x_m J rfl fun U J=>?_
   refine x_m J rfl fun U J=>?_
   refine x_v J (rB rfl (J.ev rfl) (J.ev rfl)) rfl fun U J=>?_
   refine x_m J rfl fun U J=>?_
   refine aQw (b:=decide (z<a2)) (fun c5=>?_) fun c5=>?_
   ·replace G:=ift c5 G
    refine aM c5 J ?_ rfl
    refine x_m J rfl fun U J=>?_
    refine aM c5 J ?_ rfl
    refine x_m J rfl fun U J=>?_
    refine aM c5 J ?_ rfl
    refine x_v J (rB rfl (J.ev rfl) (J.ev rfl)) rfl fun U J=>?_
    refine jX c5 J (fun U J=>?_) rfl
    refine wpList_nil ?_
    exact hj6 (decide (a2<IntKind.i64.wrap ((IntKind.i64.wrap ((IntKind.i64.wrap (bS .u64 (IntKind.u64.wrap (IntKind.i64.wrap (a1+a3))) 1))+a2)) - z))) G U w (J.sub _ rfl) X
   replace G:=xA c5 G
   refine xO 3 c5 J rfl fun U J=>?_
   refine cA c5 J (fun U J=>?_) rfl
   refine wpList_nil ?_
   exact hj6 false G U w (J.sub _ rfl) X
  obtain⟨t229,t6,G⟩:=bnd G
  have t7:∀ (d5:Int),(d5)=t229→∀ (U:Act) (w:World),FR 220 [] U [(0,.slice A0 n0 c0),(1,.int .i64 a1),(2,.int .i64 a2),(3,.int .i64 a3),(4,.func (.func 57) #[] #[]),(18,.int .i64 (IntKind.i64.wrap (bS .u64 (IntKind.u64.wrap (IntKind.i64.wrap (a1+a3))) 1))),(19,.int .i64 (IntKind.i64.wrap ((IntKind.i64.wrap (bS .u64 (IntKind.u64.wrap (IntKind.i64.wrap (a1+a3))) 1))+a2))),(20,.int .i64 d5)]→SH r (own k47 47 A0 n0 c0 a0::L) w→i8 U w:=by
   intro d5 ht U w J X
   subst ht
   replace G:dW rec_ a0 a1 a2 a3 d5=some y:=G
   unfold dW at G
   exact hb7 d5 G U w (J.sub _ rfl) X
  refine aE t6 (fun s U w=>FR 220 [] U [(0,.slice A0 n0 c0),(1,.int .i64 a1),(2,.int .i64 a2),(3,.int .i64 a3),(4,.func (.func 57) #[] #[]),(18,.int .i64 (IntKind.i64.wrap (bS .u64 (IntKind.u64.wrap (IntKind.i64.wrap (a1+a3))) 1))),(19,.int .i64 (IntKind.i64.wrap ((IntKind.i64.wrap (bS .u64 (IntKind.u64.wrap (IntKind.i64.wrap (a1+a3))) 1))+a2))),(20,.int .i64 s.1),(21,.int .i64 s.2),(22,.int .i64 (IntKind.i64.wrap ((IntKind.i64.wrap ((IntKind.i64.wrap (bS .u64 (IntKind.u64.wrap (IntKind.i64.wrap (a1+a3))) 1))+a2)) - 1)))]∧SH r (own k47 47 A0 n0 c0 a0::L) w) ⟨J.sub _ rfl,X⟩ ?_
  intro z6 t8 i9 G t9 u0 U w hLab
  obtain⟨b4,b5⟩:=t8
  replace G:aZ a0 a1 a2 a3 b4 b5=some i9:=G
  unfold aZ at G
  try dsimp only at hLab
  obtain⟨J,X⟩:=hLab
  refine wp_seq_k fun z7 u1=>?_
  refine ws fun z8 u2=>?_
  refine x_m J rfl fun U J=>?_
  refine x_m J rfl fun U J=>?_
  refine x_v J (rB rfl (J.ev rfl) (J.ev rfl)) rfl fun U J=>?_
  refine wn (u2 _ _ ?_)
  refine zF J rfl (fun g7=>?_) fun g7=>?_
  ·replace G:=ift g7 G
   refine wp_skip ?_
   refine u1 _ _ ?_
   refine aA fun u3 u4=>?_
   have hb8:∀ (g8:Int) (g9:Int),cV g8 g9=some i9→∀ (U:Act) (w:World),FR 220 [] U [(0,.slice A0 n0 c0),(1,.int .i64 a1),(2,.int .i64 a2),(3,.int .i64 a3),(4,.func (.func 57) #[] #[]),(18,.int .i64 (IntKind.i64.wrap (bS .u64 (IntKind.u64.wrap (IntKind.i64.wrap (a1+a3))) 1))),(19,.int .i64 (IntKind.i64.wrap ((IntKind.i64.wrap (bS .u64 (IntKind.u64.wrap (IntKind.i64.wrap (a1+a3))) 1))+a2))),(20,.int .i64 g8),(21,.int .i64 g9),(22,.int .i64 (IntKind.i64.wrap ((IntKind.i64.wrap ((IntKind.i64.wrap (bS .u64 (IntKind.u64.wrap (IntKind.i64.wrap (a1+a3))) 1))+a2)) - 1)))]→SH r (own k47 47 A0 n0 c0 a0::L) w→u3 U w:=by
    intro g8 g9 G U w J X
    unfold cV at G
    refine u4 _ _ ?_
    cases G
    exact⟨_,t9 _ rfl,J.sub _ rfl,X⟩
   refine ws fun z9 u5=>?_
   refine x_m J rfl fun U J=>?_
   refine x_m J rfl fun U J=>?_
   refine x_v J (iT rfl (J.ev rfl) (J.ev rfl)) rfl fun U J=>?_
   refine x_v J (aX uu3 aDy rfl (J.ev rfl)) rfl fun U J=>?_
   refine x_v J (rW rfl (J.ev rfl) (J.ev rfl) (by decide)) rfl fun U J=>?_
   refine x_v J (aX aDy uu3 rfl (J.ev rfl)) rfl fun U J=>?_
   refine x_m J rfl fun U J=>?_
   refine wn (u5 _ _ ?_)
   refine wp_seq_k fun A1 u6=>?_
   refine dE [0,0,0,0,12,30,62,0,0,384,896,2047,4095,8191] [11] rfl J X (by kernel_rfl) (by kernel_rfl) (by kernel_rfl) (by kernel_rfl) fun w X=>?_
   obtain⟨a9,j0,G⟩:=bnd G
   obtain⟨cs,hV,u7⟩:=el (X.rd 0 rfl) j0
   obtain rfl:=hV
   obtain⟨b3,j1,G⟩:=bnd G
   obtain⟨cs,hV,u8⟩:=el (X.rd 0 rfl) j1
   obtain rfl:=hV
   refine⟨[(0,.func (.func 57) #[] #[]),(1,.slice A0 n0 c0),(2,.int .i64 (IntKind.i64.wrap ((IntKind.i64.wrap ((IntKind.i64.wrap (bS .u64 (IntKind.u64.wrap (IntKind.i64.wrap (a1+a3))) 1))+a2)) - 1))),(3,.int .i64 (IntKind.i64.wrap (bS .u64 (IntKind.u64.wrap (IntKind.i64.wrap (b4+b5))) 1))),(4,.int .i64 (IntKind.i64.wrap ((IntKind.i64.wrap ((IntKind.i64.wrap ((IntKind.i64.wrap (bS .u64 (IntKind.u64.wrap (IntKind.i64.wrap (a1+a3))) 1))+a2)) - 1)) - (IntKind.i64.wrap (bS .u64 (IntKind.u64.wrap (IntKind.i64.wrap (b4+b5))) 1))))),(5,.pointer (some (ea A0 ((IntKind.i64.wrap ((IntKind.i64.wrap ((IntKind.i64.wrap ((IntKind.i64.wrap (bS .u64 (IntKind.u64.wrap (IntKind.i64.wrap (a1+a3))) 1))+a2)) - 1)) - (IntKind.i64.wrap (bS .u64 (IntKind.u64.wrap (IntKind.i64.wrap (b4+b5))) 1)))).toNat * 5)))),(6,.agg #[.int .u64 a9.f0,.int .i64 a9.f1,.int .i64 a9.f2,str a9.f3,.float .f64 a9.f4]),(7,.slice A0 n0 c0),(8,.int .i64 (IntKind.i64.wrap (bS .u64 (IntKind.u64.wrap (IntKind.i64.wrap (b4+b5))) 1))),(9,.pointer (some (ea A0 ((IntKind.i64.wrap (bS .u64 (IntKind.u64.wrap (IntKind.i64.wrap (b4+b5))) 1)).toNat * 5)))),(10,.agg #[.int .u64 b3.f0,.int .i64 b3.f1,.int .i64 b3.f2,str b3.f3,.float .f64 b3.f4])],?_⟩
   refine dF [0,1,2,3,4,5,6,7,8,9,10] [11] (by kernel_rfl) ⟨pm rfl,pm rfl,pm rfl,pm rfl,pt [(160,.int .i64 (IntKind.i64.wrap ((IntKind.i64.wrap ((IntKind.i64.wrap (bS .u64 (IntKind.u64.wrap (IntKind.i64.wrap (a1+a3))) 1))+a2)) - 1))),(161,.int .i64 (IntKind.i64.wrap (bS .u64 (IntKind.u64.wrap (IntKind.i64.wrap (b4+b5))) 1)))] rfl (fun U J=>qM rfl (J.ev rfl) (J.ev rfl)),pt [(159,.slice A0 n0 c0),(162,.int .i64 (IntKind.i64.wrap ((IntKind.i64.wrap ((IntKind.i64.wrap ((IntKind.i64.wrap (bS .u64 (IntKind.u64.wrap (IntKind.i64.wrap (a1+a3))) 1))+a2)) - 1)) - (IntKind.i64.wrap (bS .u64 (IntKind.u64.wrap (IntKind.i64.wrap (b4+b5))) 1)))))] rfl (fun U J=>fT gO dI (X.rd 0 rfl) j0 J rfl rfl rfl),pt [(163,.pointer (some (ea A0 ((IntKind.i64.wrap ((IntKind.i64.wrap ((IntKind.i64.wrap ((IntKind.i64.wrap (bS .u64 (IntKind.u64.wrap (IntKind.i64.wrap (a1+a3))) 1))+a2)) - 1)) - (IntKind.i64.wrap (bS .u64 (IntKind.u64.wrap (IntKind.i64.wrap (b4+b5))) 1)))).toNat * 5))))] rfl (fun U J=>qI (cs:=[.int .u64 a9.f0,.int .i64 a9.f1,.int .i64 a9.f2,str a9.f3,.float .f64 a9.f4]) nG dI (fun j u h=>by rw [gP]; exact u7 _ _ h) J rfl rfl rfl),pm rfl,pm rfl,pt [(165,.slice A0 n0 c0),(166,.int .i64 (IntKind.i64.wrap (bS .u64 (IntKind.u64.wrap (IntKind.i64.wrap (b4+b5))) 1)))] rfl (fun U J=>fT gO dI (X.rd 0 rfl) j1 J rfl rfl rfl),pt [(167,.pointer (some (ea A0 ((IntKind.i64.wrap (bS .u64 (IntKind.u64.wrap (IntKind.i64.wrap (b4+b5))) 1)).toNat * 5))))] rfl (fun U J=>qI (cs:=[.int .u64 b3.f0,.int .i64 b3.f1,.int .i64 b3.f2,str b3.f3,.float .f64 b3.f4]) nG dI (fun j u h=>by rw [gP]; exact u8 _ _ h) J rfl rfl rfl),trivial⟩ ⟨et [(158,.func (.func 57) #[] #[]),(164,.agg #[.int .u64 a9.f0,.int .i64 a9.f1,.int .i64 a9.f2,str a9.f3,.float .f64 a9.f4]),(168,.agg #[.int .u64 b3.f0,.int .i64 b3.f1,.int .i64 b3.f2,str b3.f3,.float .f64 b3.f4])] rfl (fun U J K hK=>?_),trivial⟩
   obtain⟨d6,u9,G⟩:=bnd G
   refine aBz (vs:=#[.agg #[.int .u64 a9.f0,.int .i64 a9.f1,.int .i64 a9.f2,str a9.f3,.float .f64 a9.f4],.agg #[.int .u64 b3.f0,.int .i64 b3.f1,.int .i64 b3.f2,str b3.f3,.float .f64 b3.f4]]) aSx J (rY u9 X :) (fun v w hR=>?_) rfl
   obtain⟨rfl,X⟩:=hR
   refine hK _ [(12,.bool (decide (d6<0))),(13,.bool (!(decide (d6<0))))] _ rfl ?_
   refine gW [12,13] (by kernel_rfl) ⟨pt [(169,.int .i64 d6)] rfl (fun U J=>rB rfl (J.ev rfl) (J.ev rfl)),pt [(170,.bool (decide (d6<0)))] rfl (fun U J=>aDp rfl (J.ev rfl)),trivial⟩ ⟨by kernel_rfl,by kernel_rfl⟩ [(0,.slice A0 n0 c0),(1,.int .i64 a1),(2,.int .i64 a2),(3,.int .i64 a3),(4,.func (.func 57) #[] #[]),(18,.int .i64 (IntKind.i64.wrap (bS .u64 (IntKind.u64.wrap (IntKind.i64.wrap (a1+a3))) 1))),(19,.int .i64 (IntKind.i64.wrap ((IntKind.i64.wrap (bS .u64 (IntKind.u64.wrap (IntKind.i64.wrap (a1+a3))) 1))+a2))),(20,.int .i64 b4),(21,.int .i64 b5),(22,.int .i64 (IntKind.i64.wrap ((IntKind.i64.wrap ((IntKind.i64.wrap (bS .u64 (IntKind.u64.wrap (IntKind.i64.wrap (a1+a3))) 1))+a2)) - 1))),(23,.int .i64 (IntKind.i64.wrap (bS .u64 (IntKind.u64.wrap (IntKind.i64.wrap (b4+b5))) 1))),(171,.bool (!(decide (d6<0))))] rfl (fun U J=>?_)
   refine u6 _ _ ?_
   refine zF J rfl (fun h0=>?_) fun h0=>?_
   ·replace G:=ift h0 G
    refine aC ?_
    refine x_m J rfl fun U J=>?_
    refine x_v J (iT rfl (J.ev rfl) (J.ev rfl)) rfl fun U J=>?_
    refine x_m J rfl fun U J=>?_
    refine wpList_nil ?_
    exact hb8 (IntKind.i64.wrap ((IntKind.i64.wrap (bS .u64 (IntKind.u64.wrap (IntKind.i64.wrap (b4+b5))) 1))+1)) b5 G U w (J.sub _ rfl) X
   replace G:=xA h0 G
   refine aC ?_
   refine x_m J rfl fun U J=>?_
   refine x_m J rfl fun U J=>?_
   refine wpList_nil ?_
   exact hb8 b4 (IntKind.i64.wrap (bS .u64 (IntKind.u64.wrap (IntKind.i64.wrap (b4+b5))) 1)) G U w (J.sub _ rfl) X
  replace G:=xA g7 G
  refine wp_exit ?_
  cases G
  exact t7 b4 (u0 _ rfl) U w (J.sub _ rfl) X
 refine ws fun A3 v0=>?_
 refine x_m J rfl fun U J=>?_
 refine x_m J rfl fun U J=>?_
 refine x_v J (aC7 rfl (J.ev rfl) (J.ev rfl)) rfl fun U J=>?_
 refine wn (v0 _ _ ?_)
 refine zF J rfl (fun h1=>?_) fun h1=>?_
 ·replace G:=ift h1 G
  refine ws fun A4 v1=>?_
  refine x_m J rfl fun U J=>?_
  refine x_m J rfl fun U J=>?_
  refine x_v J (qM rfl (J.ev rfl) (J.ev rfl)) rfl fun U J=>?_
  refine x_m J rfl fun U J=>?_
  refine wn (v1 _ _ ?_)
  refine aC ?_
  refine x_m J rfl fun U J=>?_
  refine x_m J rfl fun U J=>?_
  refine wpList_nil ?_
  exact hj1 (IntKind.i64.wrap ((IntKind.i64.wrap ((IntKind.i64.wrap (bS .u64 (IntKind.u64.wrap (IntKind.i64.wrap (a1+a3))) 1))+a2)) - a3)) (IntKind.i64.wrap (bS .u64 (IntKind.u64.wrap (IntKind.i64.wrap (a1+a3))) 1)) G U w (J.sub _ rfl) X
 replace G:=xA h1 G
 refine ws fun A5 v2=>?_
 refine x_m J rfl fun U J=>?_
 refine x_m J rfl fun U J=>?_
 refine wn (v2 _ _ ?_)
 refine aC ?_
 refine x_m J rfl fun U J=>?_
 refine x_m J rfl fun U J=>?_
 refine wpList_nil ?_
 exact hj1 a1 a2 G U w (J.sub _ rfl) X
theorem qW (k:Nat):∀ {r:World} {L:List HP} {w:World} (a0:(List S47)) (a1:Int) (a2:Int) (a3:Int) (A0:Option Addr) (n0:Nat) (c0:Nat) {y:((List S47))} (G:aD k a0 a1 a2 a3=some y) (X:SH r (own k47 47 A0 n0 c0 a0::L) w),Ret Tryz.prog 94 #[.slice A0 n0 c0,.int .i64 a1,.int .i64 a2,.int .i64 a3,.func (.func 57) #[] #[]] w fun v w'=>v=.tuple #[]∧SH r (own k47 47 A0 n0 c0 y::L) w':=by
 induction k with
 | zero=>intros; rename_i G _; cases G
 | succ k ih=>exact qZ (aD k) ih
section
variable {r:World} {L:List HP} {w:World} {Z:Nat→Prop} {wz:World}
theorem kZ {a0 a1 a2 a3 A0 n0 c0 y} (G:dS a0 a1 a2 a3=some y) (X:SH r (own k47 47 A0 n0 c0 a0::L) w) :
  Ret Tryz.prog 94 #[.slice A0 n0 c0,.int .i64 a1,.int .i64 a2,.int .i64 a3,.func (.func 57) #[] #[]] w fun v w'=>v=.tuple #[]∧SH r (own k47 47 A0 n0 c0 y::L) w':=qW 64 a0 a1 a2 a3 A0 n0 c0 G X
theorem jD {a0 a1 a2 A0 n0 c0 y} (G:bZ a0 a1 a2=some y) (X:SH r (own k47 47 A0 n0 c0 a0::L) w) :
  Ret Tryz.prog 93 #[.slice A0 n0 c0,.int .i64 a1,.int .i64 a2,.func (.func 57) #[] #[]] w fun v w'=>v=.tuple #[]∧SH r (own k47 47 A0 n0 c0 y::L) w':=by
 refine enter Tryz.func93 rfl Tryz.ntmps93 [(0,_),(1,_),(2,_),(3,_)] rfl (by simp) ?_
 intro U J Qf hQ hQn
 unfold bZ at G
 refine nz 3 J rfl fun U J=>aA fun b6 c7=>?_
 have hb1:∀a9,fB a9=some y→∀U w,FR 53 [] U [(0,.slice A0 n0 c0),(3,.func (.func 57) #[] #[])]→SH r (own k47 47 A0 n0 c0 a9::L) w→b6 U w:=by
  intro a9 G U w J X
  unfold fB at G
  cases G
  refine c7 _ _ (hQn _ _ ?_)
  exact aB6 Tryz.results93 J ⟨rfl,X⟩
 obtain⟨c8,c9,G⟩:=bnd G
 have d0:∀a4,(a4)=c8→∀U w,FR 53 [] U [(0,.slice A0 n0 c0),(3,.func (.func 57) #[] #[])]→SH r (own k47 47 A0 n0 c0 a4::L) w→b6 U w:=by
  intro a4 ht U w J X
  subst ht
  replace G:eT a4=some y:=G
  unfold eT at G
  exact hb1 a4 G U w (J.sub _ rfl) X
 refine aE c9 (fun s U w=>FR 53 [] U [(0,.slice A0 n0 c0),(1,.int .i64 a1),(2,.int .i64 a2),(3,.func (.func 57) #[] #[]),(8,.int .i64 s.2)]∧SH r (own k47 47 A0 n0 c0 s.1::L) w) ⟨J.sub _ rfl,X⟩ ?_
 intro g1 d1 b3 G d2 d3 U w hLab
 obtain⟨b7,a3⟩:=d1
 replace G:aG a1 a2 b7 a3=some b3:=G
 unfold aG at G
 try dsimp only at hLab
 obtain⟨J,X⟩:=hLab
 refine wp_seq_k fun g2 d4=>nz 3 J rfl fun U J=>bH J G rfl (fun d5 G=>?_) fun d5 G=>?_
 ·refine wp_skip (d4 _ _ ?_)
  refine wp_seq_k fun g3 d6=>aA fun g4 d7=>nz 2 J rfl fun U J=>aA fun b8 d8=>?_
  have hb2:∀b4,dD a3 b4=some b3→∀U w,FR 53 [] U [(0,.slice A0 n0 c0),(1,.int .i64 a1),(2,.int .i64 a2),(3,.func (.func 57) #[] #[]),(8,.int .i64 a3)]→SH r (own k47 47 A0 n0 c0 b4::L) w→b8 U w:=by
   intro b4 G U w J X
   unfold dD at G
   refine d8 _ _ (d7 _ _ ?_)
   refine d6 _ _ (aC ?_)
   refine nk 3 J rfl fun U J=>?_
   cases G
   exact⟨_,d2 _ rfl,J.sub _ rfl,X⟩
  obtain⟨d9,e0,G⟩:=bnd G
  have e1:∀a5,(a5)=d9→∀U w,FR 53 [] U [(0,.slice A0 n0 c0),(1,.int .i64 a1),(2,.int .i64 a2),(3,.func (.func 57) #[] #[]),(8,.int .i64 a3)]→SH r (own k47 47 A0 n0 c0 a5::L) w→b8 U w:=by
   intro a5 ht U w J X
   subst ht
   replace G:cN a3 a5=some b3:=G
   unfold cN at G
   exact hb2 a5 G U w (J.sub _ rfl) X
  refine aE e0 (fun s U w=>FR 53 [] U [(0,.slice A0 n0 c0),(1,.int .i64 a1),(2,.int .i64 a2),(3,.func (.func 57) #[] #[]),(8,.int .i64 a3),(9,.int .i64 s.2)]∧SH r (own k47 47 A0 n0 c0 s.1::L) w) ⟨J.sub _ rfl,X⟩ ?_
  intro g5 e2 b9 G e3 e4 U w hLab
  obtain⟨a7,z⟩:=e2
  replace G:aN a1 a7 z=some b9:=G
  unfold aN at G
  try dsimp only at hLab
  obtain⟨J,X⟩:=hLab
  refine wp_seq_k fun g6 e5=>wp_seq_k fun e6 e7=>?_
  have hj1:∀b5,cG a7 z b5=some b9→∀U w,FR 53 [] U [(0,.slice A0 n0 c0),(1,.int .i64 a1),(2,.int .i64 a2),(3,.func (.func 57) #[] #[]),(8,.int .i64 a3),(9,.int .i64 z),(34,.bool b5)]→SH r (own k47 47 A0 n0 c0 a7::L) w→e6 U w:=by
   intro b5 G U w J X
   unfold cG at G
   refine e7 _ _ (bH J G rfl (fun e8 G=>?_) fun e8 G=>?_)
   ·refine wp_skip (e5 _ _ ?_)
    refine wp_seq_k fun g7 e9=>aA fun g8 f5=>dE [0,0,0,0,8,0,0,64,224,480,0,0,3072,7168,16355,32739,65535,131071] [15,17] rfl J X (by kernel_rfl) (by kernel_rfl) (by kernel_rfl) (by kernel_rfl) fun w X=>?_
    obtain⟨S,c3,G⟩:=bnd G
    obtain⟨cs,hV,f6⟩:=el (X.rd 0 rfl) c3
    obtain rfl:=hV
    obtain⟨Y,a8,G⟩:=bnd G
    obtain⟨cs,hV,f7⟩:=el (X.rd 0 rfl) a8
    obtain rfl:=hV
    refine⟨[(0,.slice A0 n0 c0),(1,.int .i64 z),(2,.slice A0 n0 c0),(3,.int .i64 z),(4,.int .i64 (IntKind.i64.wrap (z - 1))),(5,.slice A0 n0 c0),(6,.int .i64 z),(7,.int .i64 (IntKind.i64.wrap (z - 1))),(8,.pointer (some (ea A0 ((IntKind.i64.wrap (z - 1)).toNat * 5)))),(9,.agg #[.int .u64 S.f0,.int .i64 S.f1,.int .i64 S.f2,str S.f3,.float .f64 S.f4]),(10,.slice A0 n0 c0),(11,.int .i64 z),(12,.pointer (some (ea A0 (z.toNat * 5)))),(13,.agg #[.int .u64 Y.f0,.int .i64 Y.f1,.int .i64 Y.f2,str Y.f3,.float .f64 Y.f4]),(14,.pointer (some (ea A0 (z.toNat * 5))))],?_⟩
    refine dF [0,1,2,3,4,5,6,7,8,9,10,11,12,13,14] [15] (by kernel_rfl) ⟨pm rfl,pm rfl,pm rfl,pm rfl,pt [(40,_)] rfl (fun U J=>qM rfl (J.ev rfl) (J.ev rfl)),pm rfl,pm rfl,pt [(43,_)] rfl (fun U J=>qM rfl (J.ev rfl) (J.ev rfl)),pt [(42,_),(44,_)] rfl (fun U J=>fT gO dI (X.rd 0 rfl) c3 J rfl rfl rfl),pt [(45,_)] rfl (fun U J=>qI (cs:=[.int .u64 S.f0,.int .i64 S.f1,.int .i64 S.f2,str S.f3,.float .f64 S.f4]) nG dI (fun j u h=>by rw [gP]; exact f6 _ _ h) J rfl rfl rfl),pm rfl,pm rfl,pt [(47,_),(48,_)] rfl (fun U J=>fT gO dI (X.rd 0 rfl) a8 J rfl rfl rfl),pt [(49,_)] rfl (fun U J=>qI (cs:=[.int .u64 Y.f0,.int .i64 Y.f1,.int .i64 Y.f2,str Y.f3,.float .f64 Y.f4]) nG dI (fun j u h=>by rw [gP]; exact f7 _ _ h) J rfl rfl rfl),pt [(37,_),(38,_)] rfl (fun U J=>fT gO dI (X.rd 0 rfl) a8 J rfl rfl rfl),trivial⟩ ⟨et [(46,_),(51,_)] rfl (fun U J K hK=>?_),trivial⟩
    refine wY (z':=S) (off:=0) (vs:=[.int .u64 S.f0,.int .i64 S.f1,.int .i64 S.f2,str S.f3,.float .f64 S.f4]) 0 dI J X rfl (dU a8).2.2 (fun c h=>by cases h; rfl) (fun  w X=>?_) rfl rfl rfl rfl rfl rfl
    obtain⟨g9,c4,G⟩:=bnd G
    refine hK _ [(16,.pointer (some (ea A0 ((IntKind.i64.wrap (z - 1)).toNat * 5))))] _ rfl (dF [2,3,4,16] [17] (by kernel_rfl) ⟨pm rfl,pm rfl,pt [(40,_)] rfl (fun U J=>qM rfl (J.ev rfl) (J.ev rfl)),pt [(39,_),(41,_)] rfl (fun U J=>fT gO dI (X.rd 0 rfl) c4 J rfl rfl rfl),trivial⟩ ⟨et [(50,_),(52,_)] rfl (fun U J K hK=>?_),trivial⟩)
    refine wY (z':=Y) (off:=0) (vs:=[.int .u64 Y.f0,.int .i64 Y.f1,.int .i64 Y.f2,str Y.f3,.float .f64 Y.f4]) 0 dI J X rfl (dU c4).2.2 (fun c h=>by cases h; rfl) (fun  w X=>?_) rfl rfl rfl rfl rfl rfl
    refine hK _ [] _ rfl (gW [] (by kernel_rfl) trivial ⟨by kernel_rfl,by kernel_rfl⟩ [(0,_),(1,_),(2,_),(3,_),(8,_),(9,_)] rfl (fun U J=>?_))
    refine f5 _ _ (e9 _ _ ?_)
    refine aC (nk 3 J rfl fun U J=>?_)
    cases G
    exact⟨_,e3 _ rfl,J.sub _ rfl,X⟩
   cases G
   exact wp_exit (e1 a7 (e4 _ rfl) U w (J.sub _ rfl) X)
  refine dE [0,0,3,7,15,15,15,111,239,15,15,1039,3599,7695,16383,32767,65535] [14] rfl J X (by kernel_rfl) (by kernel_rfl) (by kernel_rfl) (by kernel_rfl) fun w X=>bcG G (fun C G=>?_) fun C G=>?_
  ·obtain⟨H,c5,G⟩:=bnd G
   obtain⟨cs,hV,f8⟩:=el (X.rd 0 rfl) c5
   obtain rfl:=hV
   obtain⟨I,c6,G⟩:=bnd G
   obtain⟨cs,hV,f9⟩:=el (X.rd 0 rfl) c6
   obtain rfl:=hV
   refine⟨[(0,.int .i64 z),(1,.int .i64 a1),(2,.bool (decide (a1<z))),(3,.bool (decide (a1<z))),(4,.func (.func 57) #[] #[]),(5,.slice A0 n0 c0),(6,.int .i64 z),(7,.pointer (some (ea A0 (z.toNat * 5)))),(8,.agg #[.int .u64 H.f0,.int .i64 H.f1,.int .i64 H.f2,str H.f3,.float .f64 H.f4]),(9,.slice A0 n0 c0),(10,.int .i64 z),(11,.int .i64 (IntKind.i64.wrap (z - 1))),(12,.pointer (some (ea A0 ((IntKind.i64.wrap (z - 1)).toNat * 5)))),(13,.agg #[.int .u64 I.f0,.int .i64 I.f1,.int .i64 I.f2,str I.f3,.float .f64 I.f4])],?_⟩
   refine dF [0,1,2,3,4,5,6,7,8,9,10,11,12,13] [14] (by kernel_rfl) ⟨pm rfl,pm rfl,pt [(18,_),(19,_)] rfl (fun U J=>aC7 rfl (J.ev rfl) (J.ev rfl)),pm rfl,jY rfl rfl rfl rfl [(3,.func (.func 57) #[] #[]),(21,.bool (decide (a1<z)))] rfl C (fun U J=>pH J rfl rfl) rfl,jY rfl rfl rfl rfl [(0,.slice A0 n0 c0),(21,.bool (decide (a1<z)))] rfl C (fun U J=>pH J rfl rfl) rfl,jY rfl rfl rfl rfl [(9,.int .i64 z),(21,.bool (decide (a1<z)))] rfl C (fun U J=>pH J rfl rfl) rfl,jY rfl rfl rfl rfl [(21,.bool (decide (a1<z))),(23,.slice A0 n0 c0),(24,.int .i64 z)] rfl C (fun U J=>fT gO dI (X.rd 0 rfl) c5 J rfl rfl rfl) rfl,jY rfl rfl rfl rfl [(21,.bool (decide (a1<z))),(25,.pointer (some (ea A0 (z.toNat * 5))))] rfl C (fun U J=>qI (cs:=[.int .u64 H.f0,.int .i64 H.f1,.int .i64 H.f2,str H.f3,.float .f64 H.f4]) nG dI (fun j u h=>by rw [gP]; exact f8 _ _ h) J rfl rfl rfl) rfl,jY rfl rfl rfl rfl [(0,.slice A0 n0 c0),(21,.bool (decide (a1<z)))] rfl C (fun U J=>pH J rfl rfl) rfl,jY rfl rfl rfl rfl [(9,.int .i64 z),(21,.bool (decide (a1<z)))] rfl C (fun U J=>pH J rfl rfl) rfl,jY rfl rfl rfl rfl [(21,.bool (decide (a1<z))),(28,.int .i64 z)] rfl C (fun U J=>qM rfl (J.ev rfl) (J.ev rfl)) rfl,jY rfl rfl rfl rfl [(21,.bool (decide (a1<z))),(27,.slice A0 n0 c0),(29,.int .i64 (IntKind.i64.wrap (z - 1)))] rfl C (fun U J=>fT gO dI (X.rd 0 rfl) c6 J rfl rfl rfl) rfl,jY rfl rfl rfl rfl [(21,.bool (decide (a1<z))),(30,.pointer (some (ea A0 ((IntKind.i64.wrap (z - 1)).toNat * 5))))] rfl C (fun U J=>qI (cs:=[.int .u64 I.f0,.int .i64 I.f1,.int .i64 I.f2,str I.f3,.float .f64 I.f4]) nG dI (fun j u h=>by rw [gP]; exact f9 _ _ h) J rfl rfl rfl) rfl,trivial⟩ ⟨aZ8 rfl rfl rfl [(21,.bool (decide (a1<z))),(22,.func (.func 57) #[] #[]),(26,.agg #[.int .u64 H.f0,.int .i64 H.f1,.int .i64 H.f2,str H.f3,.float .f64 H.f4]),(31,.agg #[.int .u64 I.f0,.int .i64 I.f1,.int .i64 I.f2,str I.f3,.float .f64 I.f4])] rfl C (fun U J K hK=>?_) rfl,trivial⟩
   obtain⟨a6,g0,G⟩:=bnd G
   refine aBz (vs:=#[.agg #[.int .u64 H.f0,.int .i64 H.f1,.int .i64 H.f2,str H.f3,.float .f64 H.f4],.agg #[.int .u64 I.f0,.int .i64 I.f1,.int .i64 I.f2,str I.f3,.float .f64 I.f4]]) aSx J (rY g0 X :) (fun v w hR=>?_) rfl
   obtain⟨rfl,X⟩:=hR
   refine hK _ [(15,.bool (decide (a6<0))),(16,.bool (decide (a6<0)))] _ rfl (gW [15,16] (by kernel_rfl) ⟨jY rfl rfl rfl rfl [(21,.bool (decide (a1<z))),(32,.int .i64 a6)] rfl C (fun U J=>rB rfl (J.ev rfl) (J.ev rfl)) rfl,pt [(21,.bool (decide (a1<z))),(33,.bool (decide (a6<0)))] rfl (fun U J=>aB5 C J rfl rfl rfl),trivial⟩ ⟨by kernel_rfl,by kernel_rfl⟩ [(0,_),(1,_),(2,_),(3,_),(8,_),(9,_),(22,_),(23,_),(24,_),(26,_),(27,_),(28,_),(29,_),(31,_),(32,_),(33,_),(34,_)] rfl (fun U J=>?_))
   exact hj1 (decide (a6<0)) G U w (J.sub _ rfl) X
  refine⟨[(0,.int .i64 z),(1,.int .i64 a1),(2,.bool (decide (a1<z))),(3,.bool (decide (a1<z))),(4,undef),(5,undef),(6,undef),(7,undef),(8,undef),(9,undef),(10,undef),(11,undef),(12,undef),(13,undef)],?_⟩
  refine dF [0,1,2,3,4,5,6,7,8,9,10,11,12,13] [14] (by kernel_rfl) ⟨pm rfl,pm rfl,pt [(18,_),(19,_)] rfl (fun U J=>aC7 rfl (J.ev rfl) (J.ev rfl)),pm rfl,fM rfl rfl rfl rfl [(3,.func (.func 57) #[] #[]),(21,.bool (decide (a1<z)))] rfl C rfl,fM rfl rfl rfl rfl [(0,.slice A0 n0 c0),(21,.bool (decide (a1<z)))] rfl C rfl,fM rfl rfl rfl rfl [(9,.int .i64 z),(21,.bool (decide (a1<z)))] rfl C rfl,fM rfl rfl rfl rfl [(21,.bool (decide (a1<z))),(23,undef),(24,undef)] rfl C rfl,fM rfl rfl rfl rfl [(21,.bool (decide (a1<z))),(25,undef)] rfl C rfl,fM rfl rfl rfl rfl [(0,.slice A0 n0 c0),(21,.bool (decide (a1<z)))] rfl C rfl,fM rfl rfl rfl rfl [(9,.int .i64 z),(21,.bool (decide (a1<z)))] rfl C rfl,fM rfl rfl rfl rfl [(21,.bool (decide (a1<z))),(28,undef)] rfl C rfl,fM rfl rfl rfl rfl [(21,.bool (decide (a1<z))),(27,undef),(29,undef)] rfl C rfl,fM rfl rfl rfl rfl [(21,.bool (decide (a1<z))),(30,undef)] rfl C rfl,trivial⟩ ⟨?_,trivial⟩
  refine aY9 rfl rfl rfl [(21,.bool (decide (a1<z))),(22,undef),(26,undef),(31,undef)] rfl [(15,undef),(16,.bool false)] C rfl ?_ rfl
  refine gW [15,16] (by kernel_rfl) ⟨fM rfl rfl rfl rfl [(21,.bool (decide (a1<z))),(32,undef)] rfl C rfl,pt [(21,.bool (decide (a1<z))),(33,undef)] rfl (fun U J=>aAh C J rfl rfl rfl),trivial⟩ ⟨by kernel_rfl,by kernel_rfl⟩ [(0,_),(1,_),(2,_),(3,_),(8,_),(9,_),(34,_)] rfl (fun U J=>?_)
  exact hj1 false G U w (J.sub _ rfl) X
 cases G
 exact wp_exit (d0 b7 (d3 _ rfl) U w (J.sub _ rfl) X)
theorem sS {a0 a1 A0 n0 c0 y} (G:eH a0 a1=some y) (X:SH r (own k47 47 A0 n0 c0 a0::L) w) :
  Ret Tryz.prog 71 #[.slice A0 n0 c0,.int .i64 a1,.func (.func 57) #[] #[]] w fun v w'=>v=.tuple #[]∧SH r (own k47 47 A0 n0 c0 y::L) w':=by
 refine enter Tryz.func71 rfl Tryz.ntmps71 [(0,_),(1,_),(2,_)] rfl (by simp) ?_
 intro U J Qf hQ hQn
 unfold eH at G
 refine nz 1 J rfl fun U J=>nz 3 J rfl fun U J=>wp_seq_k fun h1 b9=>aA fun a8 c3=>?_
 have hb1:∀a3 a4,eU a1 a3 a4=some y→∀U w,FR 63 [] U [(0,.slice A0 n0 c0),(1,.int .i64 a1),(2,.func (.func 57) #[] #[]),(6,.int .i64 20),(7,.int .i64 a4)]→SH r (own k47 47 A0 n0 c0 a3::L) w→a8 U w:=by
  intro a3 a4 G U w J X
  unfold eU at G
  refine c3 _ _ (b9 _ _ ?_)
  refine ws fun h2 c4=>xk 4 J rfl fun U J=>?_
  obtain⟨h3,c5,G⟩:=bnd G
  refine x_c aZo J rfl (jD c5 X :) fun v U w hR J=>?_
  obtain⟨rfl,X⟩:=hR
  refine wn (c4 _ _ ?_)
  refine aA fun a9 c6=>?_
  have hb2:∀a5,gV a5=some y→∀U w,FR 63 [] U [(0,.slice A0 n0 c0),(2,.func (.func 57) #[] #[])]→SH r (own k47 47 A0 n0 c0 a5::L) w→a9 U w:=by
   intro a5 G U w J X
   unfold gV at G
   cases G
   refine c6 _ _ (hQn _ _ ?_)
   exact aB6 Tryz.results71 J ⟨rfl,X⟩
  obtain⟨c7,c8,G⟩:=bnd G
  have c9:∀z,(z)=c7→∀U w,FR 63 [] U [(0,.slice A0 n0 c0),(2,.func (.func 57) #[] #[])]→SH r (own k47 47 A0 n0 c0 z::L) w→a9 U w:=by
   intro z ht U w J X
   subst ht
   replace G:gM z=some y:=G
   unfold gM at G
   exact hb2 z G U w (J.sub _ rfl) X
  refine aE c8 (fun s U w=>FR 63 [] U [(0,.slice A0 n0 c0),(1,.int .i64 a1),(2,.func (.func 57) #[] #[]),(6,.int .i64 s.2)]∧SH r (own k47 47 A0 n0 c0 s.1::L) w) ⟨J.sub _ rfl,X⟩ ?_
  intro h4 d0 Y G d1 d2 U w hLab
  obtain⟨b3,h⟩:=d0
  replace G:bX a1 b3 h=some Y:=G
  unfold bX at G
  try dsimp only at hLab
  obtain⟨J,X⟩:=hLab
  refine wp_seq_k fun h5 d3=>nz 3 J rfl fun U J=>bH J G rfl (fun d4 G=>?_) fun d4 G=>?_
  ·refine wp_skip (d3 _ _ ?_)
   refine aA fun h6 d5=>nz 4 J rfl fun U J=>wp_seq_k fun h7 d6=>aA fun b4 d7=>?_
   have hb3:∀a2 a6,eV a1 h a2 a6=some Y→∀U w,FR 63 [] U [(0,.slice A0 n0 c0),(1,.int .i64 a1),(2,.func (.func 57) #[] #[]),(6,.int .i64 h),(7,.int .i64 a6)]→SH r (own k47 47 A0 n0 c0 a2::L) w→b4 U w:=by
    intro a2 a6 G U w J X
    unfold eV at G
    refine d7 _ _ (d6 _ _ ?_)
    refine wp_seq_k fun d8 d9=>?_
    have hj1:∀a7,dO h a7=some Y→∀U w,FR 63 [] U [(0,.slice A0 n0 c0),(1,.int .i64 a1),(2,.func (.func 57) #[] #[]),(6,.int .i64 h)]→SH r (own k47 47 A0 n0 c0 a7::L) w→d8 U w:=by
     intro a7 G U w J X
     unfold dO at G
     refine d9 _ _ (aC ?_)
     refine nk 3 J rfl fun U J=>?_
     cases G
     exact d5 _ _ ⟨_,d1 _ rfl,J.sub _ rfl,X⟩
    refine nz 4 J rfl fun U J=>nz 3 J rfl fun U J=>bH J G rfl (fun e0 G=>?_) fun e0 G=>?_
    ·refine aC (xk 5 J rfl fun U J=>?_)
     obtain⟨e1,e2,G⟩:=bnd G
     refine x_c aSg J rfl (kZ e2 X :) fun v U w hR J=>?_
     obtain⟨rfl,X⟩:=hR
     exact wpList_nil (hj1 e1 G U w (J.sub _ rfl) X)
    exact wp_skip (hj1 a2 G U w (J.sub _ rfl) X)
   obtain⟨e3,e4,G⟩:=bnd G
   have e5:∀C H,(C,H)=e3→∀U w,FR 63 [] U [(0,.slice A0 n0 c0),(1,.int .i64 a1),(2,.func (.func 57) #[] #[]),(6,.int .i64 h),(7,.int .i64 H)]→SH r (own k47 47 A0 n0 c0 C::L) w→b4 U w:=by
    intro C H ht U w J X
    subst ht
    replace G:eK a1 h C H=some Y:=G
    unfold eK at G
    exact hb3 C H G U w (J.sub _ rfl) X
   refine aE e4 (fun s U w=>FR 63 [] U [(0,.slice A0 n0 c0),(1,.int .i64 a1),(2,.func (.func 57) #[] #[]),(6,.int .i64 h),(7,.int .i64 s.2.1),(8,.int .i64 s.2.2)]∧SH r (own k47 47 A0 n0 c0 s.1::L) w) ⟨J.sub _ rfl,X⟩ ?_
   intro h8 e6 e7 G e8 e9 U w hLab
   obtain⟨b5,b6,f2⟩:=e6
   replace G:bV a1 h b5 b6 f2=some e7:=G
   unfold bV at G
   try dsimp only at hLab
   obtain⟨J,X⟩:=hLab
   refine wp_seq_k fun h9 f3=>nz 3 J rfl fun U J=>bH J G rfl (fun f4 G=>?_) fun f4 G=>?_
   ·refine wp_skip (f3 _ _ ?_)
    refine aA fun i0 f5=>ws fun i1 f6=>xk 7 J rfl fun U J=>?_
    obtain⟨i2,f7,G⟩:=bnd G
    refine x_c aSg J rfl (kZ f7 X :) fun v U w hR J=>?_
    obtain⟨rfl,X⟩:=hR
    refine wn (f6 _ _ ?_)
    refine nz 2 J rfl fun U J=>aC (nk 5 J rfl fun U J=>?_)
    cases G
    exact f5 _ _ ⟨_,e8 _ rfl,J.sub _ rfl,X⟩
   cases G
   exact wp_exit (e5 b5 b6 (e9 _ rfl) U w (J.sub _ rfl) X)
  cases G
  exact wp_exit (c9 b3 (d2 _ rfl) U w (J.sub _ rfl) X)
 obtain⟨f8,f9,G⟩:=bnd G
 have g0:∀I S,(I,S)=f8→∀U w,FR 63 [] U [(0,.slice A0 n0 c0),(1,.int .i64 a1),(2,.func (.func 57) #[] #[]),(6,.int .i64 20),(7,.int .i64 S)]→SH r (own k47 47 A0 n0 c0 I::L) w→a8 U w:=by
  intro I S ht U w J X
  subst ht
  replace G:eL a1 I S=some y:=G
  unfold eL at G
  exact hb1 I S G U w (J.sub _ rfl) X
 refine aE f9 (fun s U w=>FR 63 [] U [(0,.slice A0 n0 c0),(1,.int .i64 a1),(2,.func (.func 57) #[] #[]),(6,.int .i64 20),(7,.int .i64 s.2.1),(8,.int .i64 s.2.2)]∧SH r (own k47 47 A0 n0 c0 s.1::L) w) ⟨J.sub _ rfl,X⟩ ?_
 intro i3 g1 g2 G g3 g4 U w hLab
 obtain⟨b7,b8,g5⟩:=g1
 replace G:bW a1 b7 b8 g5=some g2:=G
 unfold bW at G
 try dsimp only at hLab
 obtain⟨J,X⟩:=hLab
 refine wp_seq_k fun i4 g6=>nz 3 J rfl fun U J=>bH J G rfl (fun g7 G=>?_) fun g7 G=>?_
 ·refine wp_skip (g6 _ _ ?_)
  refine aA fun i5 g8=>ws fun i6 g9=>xk 4 J rfl fun U J=>?_
  obtain⟨i7,h0,G⟩:=bnd G
  refine x_c aZo J rfl (jD h0 X :) fun v U w hR J=>?_
  obtain⟨rfl,X⟩:=hR
  refine wn (g9 _ _ ?_)
  refine nz 2 J rfl fun U J=>aC (nk 4 J rfl fun U J=>?_)
  cases G
  exact g8 _ _ ⟨_,g3 _ rfl,J.sub _ rfl,X⟩
 cases G
 exact wp_exit (g0 b7 b8 (g4 _ rfl) U w (J.sub _ rfl) X)
theorem nI {a0 A0 n0 c0 y} (G:dA a0=some y) (X:SH r (own k47 47 A0 n0 c0 a0::L) w) :
  Ret Tryz.prog 56 #[.slice A0 n0 c0,.func (.func 57) #[] #[]] w fun v w'=>v=.tuple #[]∧SH r (own k47 47 A0 n0 c0 y::L) w':=by
 refine enter Tryz.func56 rfl Tryz.ntmps56 [(0,_),(1,_)] rfl (by simp) ?_
 intro U J Qf hQ hQn
 unfold dA at G
 refine aC (xk 2 J rfl fun U J=>?_)
 refine bC gO (X.rd 0 rfl).2.1 J (fun U J=>?_) rfl
 refine x_m J rfl fun U J=>?_
 obtain⟨z,h,G⟩:=bnd G
 refine x_c bAg J rfl (sS h X :) fun v U w hR J=>?_
 obtain⟨rfl,X⟩:=hR
 refine wpList_nil ?_
 cases G
 refine hQn _ _ (aB6 Tryz.results56 J ?_)
 exact⟨rfl,X⟩
theorem aIl {a0 A0 n0 c0 y} (G:vY a0=some y) (X:SH r (L) w) (ha0:RdL L k47 A0 n0 c0 a0) :
  Ret Tryz.prog 42 #[.slice A0 n0 c0] w fun v w'=>∃ (B0:Option Addr) (m0:Nat) (d0:Nat),v=.slice B0 m0 d0∧SH r (own k47 47 B0 m0 d0 y::L) w':=by
 refine enter Tryz.func42 rfl Tryz.ntmps42 [(0,_)] rfl (by simp) ?_
 intro U J Qf hQ hQn
 unfold vY at G
 refine nz 1 J rfl fun U J=>ws fun a1 h=>xk 1 J rfl fun U J=>?_
 obtain⟨a2,z,G⟩:=bnd G
 refine x_c bA7 J rfl (rJ z X (RdL.sfx 0 rfl ha0) :) fun v U w hR J=>?_
 obtain⟨C,H,I,rfl,X⟩:=hR
 refine x_m J rfl fun U J=>wn (h _ _ ?_)
 refine ws fun a3 S=>xk 1 J rfl fun U J=>?_
 obtain⟨a4,Y,G⟩:=bnd G
 refine x_c bBn J rfl (nI Y X :) fun v U w hR J=>?_
 obtain⟨rfl,X⟩:=hR
 refine wn (S _ _ ?_)
 refine nz 2 J rfl fun U J=>?_
 cases G
 refine wp_ret (hQ _ _ ?_)
 exact lv Tryz.results42 J rfl ⟨C,H,I,rfl,X⟩
end
noncomputable section
set_option linter.unusedSimpArgs false
def jZ (a0:S151) (a1:Int) (a2:Int) (h:(List S47)) (z:(List S47)) (H:Bool):Option (Bool×S151) :=
  if H=true then (if (decide (0<(h.length:Int)))=true then (some (true,a0)) else (if ((z.length:Int)==0)=true then (some (decide (a1<a2),a0)) else (some (false,a0)))) else ((at_ h 0).bind fun C=>((at_ z 0).bind fun G=>((nO C G).bind fun I=>(if I=true then (some (true,a0)) else ((nO G C).bind fun J=>(if J=true then (some (false,a0)) else (some (decide (a1<a2),a0))))))))
def kW (a0:S151) (a1:Int) (a2:Int):Option (Bool×S151) :=
  (at_ a0.f0 a1).bind fun h=>((at_ a0.f0 a2).bind fun z=>(if ((h.length:Int)==0)=true then (jZ a0 a1 a2 h z true) else (jZ a0 a1 a2 h z ((z.length:Int)==0))))
def vJ (a0:(List (List S47))) (z:(List (List S47))) (h:(List Int)) (C:(List Int)):Option ((Option S151)×Int) :=
  (at_ C (if IntKind.i64.wrap ((IntKind.i64.wrap (2 * (a0.length:Int))) - 1)<1 then IntKind.i64.wrap ((IntKind.i64.wrap (2 * (a0.length:Int))) - 1) else 1)).bind fun G=>((at_ h 0).bind fun H=>(some (some (⟨z,h.set (0:Int).toNat G⟩:S151),0)))
def sB (a0:(List (List S47))) (h:(List (List S47))) (z:(List Int)) (C:(List Int)):Option ((Option S151)×Int) :=
  vJ a0 h z C
def sT (z:(List Int)) (h:Int) (G:(List (List S47))) (C:(List Int)) (H:Int) (I:Int):Option (((List (List S47))×(List Int)×(List Int)×Int)⊕(((List (List S47))×(List Int)×(List Int)))) :=
  (at_ z h).bind fun J=>((at_ C h).bind fun S=>(some (.inl (G,C.set h.toNat I,z.set h.toNat H,IntKind.i64.wrap (h - 1)))))
def lW (I:(List (List S47))) (J:(List Int)) (h:(List Int)) (z:Int):Option (((List (List S47))×(List Int)×(List Int)×Int)⊕(((List (List S47))×(List Int)×(List Int)))) :=
  if (decide (0<z))=true then ((at_ h (IntKind.i64.wrap (2 * z))).bind fun G=>((at_ h (IntKind.i64.wrap ((IntKind.i64.wrap (2 * z))+1))).bind fun H=>((kW (⟨I,J⟩:S151) H G).bind fun C=>(if C.1=true then (sT h z C.2.f0 C.2.f1 H G) else (sT h z C.2.f0 C.2.f1 G H))))) else (some (.inr (I,J,h)))
def vO (a0:(List (List S47))) (h:(List (List S47))) (z:(List Int)):Option ((Option S151)×Int) :=
  (loop (fun s=>lW s.1 s.2.1 s.2.2.1 s.2.2.2) (h,List.replicate (a0.length:Int).toNat (0:Int),z,IntKind.i64.wrap ((a0.length:Int) - 1))).bind fun t=>sB a0 t.1 t.2.1 t.2.2
def sL (a0:(List (List S47))) (h:(List (List S47))) (z:(List Int)):Option ((Option S151)×Int) :=
  vO a0 h z
def mC (a0:(List (List S47))) (z:(List Int)) (h:Int):Option (((List Int)×Int)⊕(((List Int)))) :=
  if (decide (h<(a0.length:Int)))=true then ((at_ z (IntKind.i64.wrap ((a0.length:Int)+h))).bind fun C=>(some (.inl (z.set (IntKind.i64.wrap ((a0.length:Int)+h)).toNat h,IntKind.i64.wrap (h+1))))) else (some (.inr (z)))
def vM (a0:(List (List S47))) (h:(List (List S47))):Option ((Option S151)×Int) :=
  chk (0≤(a0.length:Int)∧(8:Int) * (a0.length:Int)≤140737488355328) (chk (0≤(IntKind.i64.wrap (2 * (a0.length:Int)))∧(8:Int) * (IntKind.i64.wrap (2 * (a0.length:Int)))≤140737488355328) ((loop (fun s=>mC a0 s.1 s.2) (List.replicate (IntKind.i64.wrap (2 * (a0.length:Int))).toNat (0:Int),0)).bind fun t=>sL a0 h t))
def sP (a0:(List (List S47))) (h:(List (List S47))):Option ((Option S151)×Int) :=
  vM a0 h
def vR (h:(List (List S47))) (C:Int) (z:(List S47)):Option (((List (List S47))×Int)⊕(((List (List S47)))⊕((Option S151)×Int))) :=
  chk (h.length+[z].length≤140737488355328 / 24) (some (.inl (h++[z],IntKind.i64.wrap (C+1))))
def tE (h:(List (List S47))) (z:Int) (C:(List S47)):Option (((List (List S47))×Int)⊕(((List (List S47)))⊕((Option S151)×Int))) :=
  vR h z C
def qF (z:(List S47)) (h:Int):Option ((Int)⊕((Unit)⊕((Option S151)×Int))) :=
  if (decide (h<(z.length:Int)))=true then ((at_ z h).bind fun C=>((at_ z (IntKind.i64.wrap (h - 1))).bind fun G=>((nO C G).bind fun H=>(if H=true then (some (.inr (.inr (none,7)))) else (some (.inl (IntKind.i64.wrap (h+1)))))))) else (some (.inr (.inl ())))
def lT (a0:(List (List S47))) (z:(List (List S47))) (h:Int):Option (((List (List S47))×Int)⊕(((List (List S47)))⊕((Option S151)×Int))) :=
  if (decide (h<(a0.length:Int)))=true then ((at_ a0 h).bind fun C=>((loop (fun s=>qF C s) (1)).bind fun t=>match t with | (.inl t)=>tE z h C | (.inr t)=>some (.inr (.inr t)))) else (some (.inr (.inl (z))))
def sD (a0:(List (List S47))) (h:Bool):Option ((Option S151)×Int) :=
  if h=true then (some (none,1)) else ((loop (fun s=>lT a0 s.1 s.2) ([],0)).bind fun t=>match t with | (.inl t)=>sP a0 t | (.inr t)=>some t)
def uB (a0:(List (List S47))):Option ((Option S151)×Int) :=
  if (decide ((a0.length:Int)<1))=true then (sD a0 true) else (sD a0 (decide (16<(a0.length:Int))))
def nT (z:Int) (C:S47) (G:(List (List S47))) (h:(List Int)) (H:Int):Option (S47×Int×Bool×(Option S151)) :=
  (at_ h 0).bind fun I=>(some (C,z,true,some (⟨G,h.set (0:Int).toNat H⟩:S151)))
def mB (h:Int) (z:S47) (C:(List (List S47))) (G:(List Int)) (H:Int):Option (S47×Int×Bool×(Option S151)) :=
  nT h z C G H
def lA (h:Int) (z:(List (List S47))) (C:(List Int)) (G:Int):Option (((List (List S47))×(List Int)×Int×Int)⊕(((List (List S47))×(List Int)×Int))) :=
  some (.inl (z,C,G,IntKind.i64.wrap (h.tdiv 2)))
def iY (H:(List (List S47))) (G:(List Int)) (C:Int) (h:Int):Option (((List (List S47))×(List Int)×Int×Int)⊕(((List (List S47))×(List Int)×Int))) :=
  if (decide (0<h))=true then ((at_ G h).bind fun I=>((kW (⟨H,G⟩:S151) I C).bind fun z=>(if z.1=true then ((at_ z.2.f1 h).bind fun J=>(lA h z.2.f0 (z.2.f1.set h.toNat C) J)) else (lA h z.2.f0 z.2.f1 C)))) else (some (.inr (H,G,C)))
def iJ (a0:(Option S151)):Option (S47×Int×Bool×(Option S151)) :=
  match a0 with | none=>(some ((⟨0,0,0,[],0⟩:S47),0,false,none)) | some h=>((at_ h.f1 0).bind fun z=>((at_ h.f0 z).bind fun C=>(if ((C.length:Int)==0)=true then (some ((⟨0,0,0,[],0⟩:S47),0,false,some h)) else ((at_ C 0).bind fun H=>((pA C 1 (C.length:Int)).bind fun G=>((loop (fun s=>iY s.1 s.2.1 s.2.2.1 s.2.2.2) (h.f0.set z.toNat G,h.f1,z,IntKind.i64.wrap ((IntKind.i64.wrap (z+((h.f0.set z.toNat G).length:Int))).tdiv 2))).bind fun t=>mB z H t.1 t.2.1 t.2.2))))))
def vB (h:(List S47)):Option ((List S47)×Int) :=
  some (h,0)
def sQ (h:(List S47)):Option ((List S47)×Int) :=
  vB h
def sV (S:(Option S151)) (z:(List S47)) (C:Int) (G:Int) (H:Int) (I:(List UInt8)) (J:Nat) (U:Bool):Option (((Option S151)×(List S47)×Int×Int×Int×(List UInt8)×Nat×Bool)⊕(((List S47)))) :=
  if U=true then (chk (z.length+[(⟨C,G,H,I,J⟩:S47)].length≤140737488355328 / 48) ((iJ S).bind fun h=>(some (.inl (h.2.2.2,z++[(⟨C,G,H,I,J⟩:S47)],h.1.f0,h.1.f1,h.1.f2,h.1.f3,h.1.f4,h.2.2.1))))) else (some (.inr (z)))
def rO (a0:(List (List S47))):Option ((List S47)×Int) :=
  (uB a0).bind fun z=>(if (z.2 != 0)=true then (some ([],z.2)) else ((iJ z.1).bind fun h=>((loop (fun s=>sV s.1 s.2.1 s.2.2.1 s.2.2.2.1 s.2.2.2.2.1 s.2.2.2.2.2.1 s.2.2.2.2.2.2.1 s.2.2.2.2.2.2.2) (h.2.2.2,[],h.1.f0,h.1.f1,h.1.f2,h.1.f3,h.1.f4,h.2.2.1)).bind fun t=>sQ t)))
end
end Go.Proofs.YtnefioccdkmegaaGreatDoor.M
