/- Texts of the claim, joined: what it uses of Gr, Op, Dpg, Mpg, Dpl, Mpl, Dce, Mce, Tr, Dcr. -/
import Derived.Test.YtnefioccdkmegaaGreatDoorZb
import Derived.Test.YtnefioccdkmegaaGreatDoorProg
namespace Go.Proofs.YtnefioccdkmegaaGreatDoor.M
open Go Go.RowKit Go.Proofs.YtnefioccdkmegaaGreatDoor.E
set_option linter.unusedVariables false
set_option linter.unusedSimpArgs false
def aCo:List PanicEntry:=[{ v:=.iface 154 (.agg #[]),recovered:=false }]
theorem aZj:Tryz.prog.cellsOf 146=1:=by kernel_rfl
theorem bA8:Tryz.prog.cellsOf 44=1:=by kernel_rfl
theorem aZu:EN Tryz.prog 100:=aY Tryz.func100 (by kernel_rfl) rfl
theorem aU4:EN Tryz.prog 101:=aY Tryz.func101 (by kernel_rfl) rfl
theorem bAk:EN Tryz.prog 102:=aY Tryz.func102 (by kernel_rfl) rfl
theorem aZh:EN Tryz.prog 103:=aY Tryz.func103 (by kernel_rfl) rfl
theorem aY2:EN Tryz.prog 104:=aY Tryz.func104 (by kernel_rfl) rfl
theorem aYr:EN Tryz.prog 105:=aY Tryz.func105 (by kernel_rfl) rfl
theorem aXu:EN Tryz.prog 11:=aY Tryz.func11 (by kernel_rfl) rfl
theorem aM1:EN Tryz.prog 110:=aY Tryz.func110 (by kernel_rfl) rfl
theorem aX0:EN Tryz.prog 111:=aY Tryz.func111 (by kernel_rfl) rfl
theorem bAd:EN Tryz.prog 115:=aY Tryz.func115 (by kernel_rfl) rfl
theorem aVy:EN Tryz.prog 116:=aY Tryz.func116 (by kernel_rfl) rfl
theorem aVt:EN Tryz.prog 117:=aY Tryz.func117 (by kernel_rfl) rfl
theorem aX1:EN Tryz.prog 118:=aY Tryz.func118 (by kernel_rfl) rfl
theorem aRh:EN Tryz.prog 119:=aY Tryz.func119 (by kernel_rfl) rfl
theorem bB2:EN Tryz.prog 12:=aY Tryz.func12 (by kernel_rfl) rfl
theorem aYl:EN Tryz.prog 120:=aY Tryz.func120 (by kernel_rfl) rfl
theorem aM4:EN Tryz.prog 121:=aY Tryz.func121 (by kernel_rfl) rfl
theorem aZ5:EN Tryz.prog 122:=aY Tryz.func122 (by kernel_rfl) rfl
theorem aZm:EN Tryz.prog 123:=aY Tryz.func123 (by kernel_rfl) rfl
theorem aZz:EN Tryz.prog 126:=aY Tryz.func126 (by kernel_rfl) rfl
theorem aXi:EN Tryz.prog 13:=aY Tryz.func13 (by kernel_rfl) rfl
theorem aZy:EN Tryz.prog 130:=aY Tryz.func130 (by kernel_rfl) rfl
theorem aVf:EN Tryz.prog 134:=aY Tryz.func134 (by kernel_rfl) rfl
theorem bAe:EN Tryz.prog 135:=aY Tryz.func135 (by kernel_rfl) rfl
theorem aR2:EN Tryz.prog 136:=aY Tryz.func136 (by kernel_rfl) rfl
theorem bAs:EN Tryz.prog 14:=aY Tryz.func14 (by kernel_rfl) rfl
theorem bBs:EN Tryz.prog 15:=aY Tryz.func15 (by kernel_rfl) rfl
theorem bBm:EN Tryz.prog 17:=aY Tryz.func17 (by kernel_rfl) rfl
theorem bAw:EN Tryz.prog 18:=aY Tryz.func18 (by kernel_rfl) rfl
theorem bA5:EN Tryz.prog 19:=aY Tryz.func19 (by kernel_rfl) rfl
theorem aYp:EN Tryz.prog 21:=aY Tryz.func21 (by kernel_rfl) rfl
theorem aRf:EN Tryz.prog 24:=aY Tryz.func24 (by kernel_rfl) rfl
theorem aW1:EN Tryz.prog 25:=aY Tryz.func25 (by kernel_rfl) rfl
theorem aYd:EN Tryz.prog 26:=aY Tryz.func26 (by kernel_rfl) rfl
theorem bBq:EN Tryz.prog 27:=aY Tryz.func27 (by kernel_rfl) rfl
theorem aYx:EN Tryz.prog 28:=aY Tryz.func28 (by kernel_rfl) rfl
theorem bA9:EN Tryz.prog 29:=aY Tryz.func29 (by kernel_rfl) rfl
theorem bA0:EN Tryz.prog 30:=aY Tryz.func30 (by kernel_rfl) rfl
theorem bB4:EN Tryz.prog 31:=aY Tryz.func31 (by kernel_rfl) rfl
theorem bBb:EN Tryz.prog 32:=aY Tryz.func32 (by kernel_rfl) rfl
theorem aY7:EN Tryz.prog 33:=aY Tryz.func33 (by kernel_rfl) rfl
theorem aZ9:EN Tryz.prog 34:=aY Tryz.func34 (by kernel_rfl) rfl
theorem bCg:EN Tryz.prog 35:=aY Tryz.func35 (by kernel_rfl) rfl
theorem bBy:EN Tryz.prog 36:=aY Tryz.func36 (by kernel_rfl) rfl
theorem aYi:EN Tryz.prog 37:=aY Tryz.func37 (by kernel_rfl) rfl
theorem aY0:EN Tryz.prog 40:=aY Tryz.func40 (by kernel_rfl) rfl
theorem aZ0:EN Tryz.prog 41:=aY Tryz.func41 (by kernel_rfl) rfl
theorem bCd:EN Tryz.prog 42:=aY Tryz.func42 (by kernel_rfl) rfl
theorem bBj:EN Tryz.prog 43:=aY Tryz.func43 (by kernel_rfl) rfl
theorem bBv:EN Tryz.prog 44:=aY Tryz.func44 (by kernel_rfl) rfl
theorem bAg:EN Tryz.prog 45:=aY Tryz.func45 (by kernel_rfl) rfl
theorem bBd:EN Tryz.prog 46:=aY Tryz.func46 (by kernel_rfl) rfl
theorem bBn:EN Tryz.prog 47:=aY Tryz.func47 (by kernel_rfl) rfl
theorem bBh:EN Tryz.prog 48:=aY Tryz.func48 (by kernel_rfl) rfl
theorem bCh:EN Tryz.prog 49:=aY Tryz.func49 (by kernel_rfl) rfl
theorem bA4:EN Tryz.prog 50:=aY Tryz.func50 (by kernel_rfl) rfl
theorem aYa:EN Tryz.prog 52:=aY Tryz.func52 (by kernel_rfl) rfl
theorem bB1:EN Tryz.prog 53:=aY Tryz.func53 (by kernel_rfl) rfl
theorem bAz:EN Tryz.prog 54:=aY Tryz.func54 (by kernel_rfl) rfl
theorem bCi:EN Tryz.prog 55:=aY Tryz.func55 (by kernel_rfl) rfl
theorem bBp:EN Tryz.prog 56:=aY Tryz.func56 (by kernel_rfl) rfl
theorem aTf:EN Tryz.prog 57:=aY Tryz.func57 (by kernel_rfl) rfl
theorem aQu:EN Tryz.prog 58:=aY Tryz.func58 (by kernel_rfl) rfl
theorem bCf:EN Tryz.prog 59:=aY Tryz.func59 (by kernel_rfl) rfl
theorem bB7:EN Tryz.prog 60:=aY Tryz.func60 (by kernel_rfl) rfl
theorem bBf:EN Tryz.prog 61:=aY Tryz.func61 (by kernel_rfl) rfl
theorem bBg:EN Tryz.prog 62:=aY Tryz.func62 (by kernel_rfl) rfl
theorem aZg:EN Tryz.prog 63:=aY Tryz.func63 (by kernel_rfl) rfl
theorem aQc:EN Tryz.prog 66:=aY Tryz.func66 (by kernel_rfl) rfl
theorem bAy:EN Tryz.prog 67:=aY Tryz.func67 (by kernel_rfl) rfl
theorem bA3:EN Tryz.prog 68:=aY Tryz.func68 (by kernel_rfl) rfl
theorem aXy:EN Tryz.prog 69:=aY Tryz.func69 (by kernel_rfl) rfl
theorem bB5:EN Tryz.prog 70:=aY Tryz.func70 (by kernel_rfl) rfl
theorem bBe:EN Tryz.prog 71:=aY Tryz.func71 (by kernel_rfl) rfl
theorem bBr:EN Tryz.prog 72:=aY Tryz.func72 (by kernel_rfl) rfl
theorem aZk:EN Tryz.prog 73:=aY Tryz.func73 (by kernel_rfl) rfl
theorem bB6:EN Tryz.prog 74:=aY Tryz.func74 (by kernel_rfl) rfl
theorem aW8:EN Tryz.prog 75:=aY Tryz.func75 (by kernel_rfl) rfl
theorem bA7:EN Tryz.prog 76:=aY Tryz.func76 (by kernel_rfl) rfl
theorem aYb:EN Tryz.prog 77:=aY Tryz.func77 (by kernel_rfl) rfl
theorem aSu:EN Tryz.prog 78:=aY Tryz.func78 (by kernel_rfl) rfl
theorem bA1:EN Tryz.prog 79:=aY Tryz.func79 (by kernel_rfl) rfl
theorem bBx:EN Tryz.prog 80:=aY Tryz.func80 (by kernel_rfl) rfl
theorem bBa:EN Tryz.prog 81:=aY Tryz.func81 (by kernel_rfl) rfl
theorem aX4:EN Tryz.prog 84:=aY Tryz.func84 (by kernel_rfl) rfl
theorem bBi:EN Tryz.prog 85:=aY Tryz.func85 (by kernel_rfl) rfl
theorem bAx:EN Tryz.prog 86:=aY Tryz.func86 (by kernel_rfl) rfl
theorem bCa:EN Tryz.prog 87:=aY Tryz.func87 (by kernel_rfl) rfl
theorem aQ4:EN Tryz.prog 88:=aY Tryz.func88 (by kernel_rfl) rfl
theorem bCe:EN Tryz.prog 89:=aY Tryz.func89 (by kernel_rfl) rfl
theorem en9:EN Tryz.prog 9:=aY Tryz.func9 (by kernel_rfl) rfl
theorem aYe:EN Tryz.prog 90:=aY Tryz.func90 (by kernel_rfl) rfl
theorem bAb:EN Tryz.prog 91:=aY Tryz.func91 (by kernel_rfl) rfl
theorem aYy:EN Tryz.prog 92:=aY Tryz.func92 (by kernel_rfl) rfl
theorem aZ2:EN Tryz.prog 93:=aY Tryz.func93 (by kernel_rfl) rfl
theorem aT5:EN Tryz.prog 94:=aY Tryz.func94 (by kernel_rfl) rfl
theorem aXr:EN Tryz.prog 95:=aY Tryz.func95 (by kernel_rfl) rfl
theorem aYz:EN Tryz.prog 96:=aY Tryz.func96 (by kernel_rfl) rfl
theorem aYv:EN Tryz.prog 97:=aY Tryz.func97 (by kernel_rfl) rfl
theorem aQj:EN Tryz.prog 98:=aY Tryz.func98 (by kernel_rfl) rfl
theorem zG:EN Tryz.prog 99:=aY Tryz.func99 (by kernel_rfl) rfl
theorem aVm (n:Int):EXT Tryz.prog 124 #[.int .u64 n] (.float .f64 n.toNat):=fun w=>by kernel_rfl
theorem bAr (b:Nat):EXT Tryz.prog 82 #[.float .f64 b] (.int .u64 b):=fun w=>by kernel_rfl
theorem vE:FA Tryz.prog 151 0 0:=fun ad w=>by kernel_rfl
theorem vM:FA Tryz.prog 151 1 1:=fun ad w=>by kernel_rfl
theorem pZ:FA Tryz.prog 157 0 0:=fun ad w=>by kernel_rfl
theorem aL6:FA Tryz.prog 26 0 0:=fun ad w=>by kernel_rfl
theorem aL9:FA Tryz.prog 26 1 1:=fun ad w=>by kernel_rfl
theorem uX:FA Tryz.prog 47 0 0:=fun ad w=>by kernel_rfl
theorem tX:FA Tryz.prog 47 1 1:=fun ad w=>by kernel_rfl
theorem jN:FA Tryz.prog 47 2 2:=fun ad w=>by kernel_rfl
theorem tU:FA Tryz.prog 47 3 3:=fun ad w=>by kernel_rfl
theorem aGl:FA Tryz.prog 47 4 4:=fun ad w=>by kernel_rfl
theorem uV:FA Tryz.prog 58 0 0:=fun ad w=>by kernel_rfl
theorem aIc:FA Tryz.prog 58 1 1:=fun ad w=>by kernel_rfl
theorem aH9:FA Tryz.prog 58 2 2:=fun ad w=>by kernel_rfl
theorem aLh:FA Tryz.prog 58 3 3:=fun ad w=>by kernel_rfl
theorem aQh:FA Tryz.prog 58 4 4:=fun ad w=>by kernel_rfl
theorem aLp:FA Tryz.prog 64 0 0:=fun ad w=>by kernel_rfl
theorem aIu:FA Tryz.prog 64 1 1:=fun ad w=>by kernel_rfl
theorem aI8:FA Tryz.prog 67 0 0:=fun ad w=>by kernel_rfl
theorem aRu:FA Tryz.prog 67 1 1:=fun ad w=>by kernel_rfl
theorem aXj:FA Tryz.prog 67 2 3:=fun ad w=>by kernel_rfl
theorem aL0:FA Tryz.prog 67 3 4:=fun ad w=>by kernel_rfl
theorem kO:(Tryz.prog.info? 2).map (fun i=>(i.zero,i.size,i.bytes))=some (some (.int .i64 0),1,8):=by kernel_rfl
theorem aUx:(Tryz.prog.info? 22).map (fun i=>(i.zero,i.size,i.bytes))=some (some (.slice none 0 0),1,24):=by kernel_rfl
theorem aZs:(Tryz.prog.info? 3).map (fun i=>(i.zero,i.size,i.bytes))=some (some (.int .i64 0),1,8):=by kernel_rfl
theorem bBc:(Tryz.prog.info? 4).map (fun i=>(i.zero,i.size,i.bytes))=some (some (.bool false),1,1):=by kernel_rfl
theorem aNu:(Tryz.prog.info? 45).map (fun i=>(i.zero,i.size,i.bytes))=some (some (.float .f64 0),1,8):=by kernel_rfl
theorem aB8:(Tryz.prog.info? 47).map (fun i=>(i.zero,i.size,i.bytes))=some (some (.agg #[(.int .u64 0),(.int .i64 0),(.int .i64 0),(str []),(.float .f64 0)]),5,48):=by kernel_rfl
theorem aC8:(Tryz.prog.info? 5).map (fun i=>(i.zero,i.size,i.bytes))=some (some (.int .u8 0),1,1):=by kernel_rfl
theorem aVs:(Tryz.prog.info? 64).map (fun i=>(i.zero,i.size,i.bytes))=some (some (.agg #[(str []),(.slice none 0 0),(.int .i64 0)]),3,48):=by kernel_rfl
theorem aKd:(Tryz.prog.info? 9).map (fun i=>(i.zero,i.size,i.bytes))=some (some (str []),1,16):=by kernel_rfl
theorem bAo {args:Array Value} {w:World} (h:(Extern.SlicesOverlaps.overlaps #[56,56] #[4] args).run Tryz.prog w=.ok (.bool false) w):(callFunc 38 args).run Tryz.prog w=.ok (.value (.bool false)) w:=by
  rw [run_callFunc_extern Tryz.func38 (by kernel_rfl) (by kernel_rfl) (by kernel_rfl) (e:=Extern.SlicesOverlaps.overlaps #[56,56] #[4]) (by kernel_rfl),h]
  rfl
theorem aZ6:(Tryz.prog.info? 100).map (·.size)=some 1:=by kernel_rfl
theorem aYf:(Tryz.prog.info? 108).map (·.size)=some 1:=by kernel_rfl
theorem aUu:(Tryz.prog.info? 146).map (·.size)=some 1:=by kernel_rfl
theorem aYj:(Tryz.prog.info? 154).map (·.size)=some 0:=by kernel_rfl
theorem sz2:(Tryz.prog.info? 2).map (·.size)=some 1:=by kernel_rfl
theorem aC3:(Tryz.prog.info? 22).map (·.size)=some 1:=by kernel_rfl
theorem aY8:(Tryz.prog.info? 26).map (·.size)=some 2:=by kernel_rfl
theorem aO4:(Tryz.prog.info? 28).map (·.size)=some 1:=by kernel_rfl
theorem sz3:(Tryz.prog.info? 3).map (·.size)=some 1:=by kernel_rfl
theorem aC0:(Tryz.prog.info? 32).map (·.size)=some 1:=by kernel_rfl
theorem aSv:(Tryz.prog.info? 37).map (·.size)=some 1:=by kernel_rfl
theorem sz4:(Tryz.prog.info? 4).map (·.size)=some 1:=by kernel_rfl
theorem aW6:(Tryz.prog.info? 45).map (·.size)=some 1:=by kernel_rfl
theorem cI:(Tryz.prog.info? 47).map (·.size)=some 5:=by kernel_rfl
theorem sz5:(Tryz.prog.info? 5).map (·.size)=some 1:=by kernel_rfl
theorem bB0:(Tryz.prog.info? 52).map (·.size)=some 1:=by kernel_rfl
theorem aXs:(Tryz.prog.info? 56).map (·.size)=some 1:=by kernel_rfl
theorem qM:(Tryz.prog.info? 64).map (·.size)=some 3:=by kernel_rfl
theorem sz9:(Tryz.prog.info? 9).map (·.size)=some 1:=by kernel_rfl
theorem aYm:(Tryz.prog.info? 108).bind (·.zero)=some (.slice none 0 0):=by kernel_rfl
theorem aYk:(Tryz.prog.info? 124).bind (·.zero)=some (.agg #[(.slice none 0 0),(.slice none 0 0),(.slice none 0 0),(.slice none 0 0),(.slice none 0 0)]):=by kernel_rfl
theorem aYu:(Tryz.prog.info? 154).bind (·.zero)=some (.agg #[]):=by kernel_rfl
theorem bA6:(Tryz.prog.info? 22).bind (·.zero)=some (.slice none 0 0):=by kernel_rfl
theorem bB9:(Tryz.prog.info? 28).bind (·.zero)=some (.int .i64 0):=by kernel_rfl
theorem zr3:(Tryz.prog.info? 3).bind (·.zero)=some (.int .i64 0):=by kernel_rfl
theorem bCb:(Tryz.prog.info? 32).bind (·.zero)=some (.slice none 0 0):=by kernel_rfl
theorem aWh:(Tryz.prog.info? 37).bind (·.zero)=some (.slice none 0 0):=by kernel_rfl
theorem zr4:(Tryz.prog.info? 4).bind (·.zero)=some (.bool false):=by kernel_rfl
theorem aJ5:(Tryz.prog.info? 47).bind (·.zero)=some (.agg #[(.int .u64 0),(.int .i64 0),(.int .i64 0),(str []),(.float .f64 0)]):=by kernel_rfl
theorem aV8:(Tryz.prog.info? 64).bind (·.zero)=some (.agg #[(str []),(.slice none 0 0),(.int .i64 0)]):=by kernel_rfl
abbrev pP (g:Nat):Value:=.pointer (some ⟨g,0,none⟩)
abbrev uu2:=Tryz.underlying2
abbrev uu3:=Tryz.underlying3
abbrev uu4:=Tryz.underlying4
abbrev uu5:=Tryz.underlying5
abbrev uu9:=Tryz.underlying9
abbrev eT:=Tryz.underlying22
abbrev bAf:=Tryz.underlying26
abbrev yT:=Tryz.underlying27
abbrev aOx:=Tryz.underlying28
abbrev fC:=Tryz.underlying32
abbrev lE:=Tryz.underlying37
abbrev mD:=Tryz.underlying44
abbrev aKo:=Tryz.underlying45
abbrev mG:=Tryz.underlying47
abbrev wM:=Tryz.underlying52
abbrev jS:=Tryz.underlying56
abbrev aUe:=Tryz.underlying64
abbrev aLt:=Tryz.underlying65
abbrev aEa:=Tryz.underlying93
abbrev qJ:=Tryz.underlying100
abbrev bM:=Tryz.underlying108
abbrev aBy:=Tryz.underlying109
abbrev aVi:=Tryz.underlying113
abbrev aVk:=Tryz.underlying117
abbrev aGz:=Tryz.underlying124
abbrev aVp:=Tryz.underlying135
abbrev wJ:=Tryz.underlying146
abbrev bAa:=Tryz.underlying154
abbrev aNm:=Tryz.underlying161
abbrev aVv:=Tryz.underlying174
noncomputable section
set_option linter.unusedSimpArgs false
def zC (h:Int):Option (Int) :=
  some (xT .u32 (IntKind.u32.max) h)
def xQ (h:Int):Option (Int) :=
  zC h
def lX (a0:(List Int)) (h:Int) (z:Int):Option ((Int×Int)⊕((Int))) :=
  if (decide (z<(a0.length:Int)))=true then ((at_ a0 z).bind fun H=>(ltt (IntKind.u32.wrap H) fun C=>(ltt (xT .u32 h C) fun I=>(ltt (yQ .u32 I 15) fun J=>((at_ dA J).bind fun S=>(ltt (bS .u32 h 4) fun U=>(ltt (xT .u32 S U) fun G=>(ltt (bS .u32 C 4) fun X=>(ltt (xT .u32 G X) fun Y=>(ltt (yQ .u32 Y 15) fun a1=>((at_ dA a1).bind fun a2=>(ltt (bS .u32 G 4) fun a3=>(ltt (xT .u32 a2 a3) fun a4=>(ltt (IntKind.i64.wrap (z+1)) fun a5=>(some (.inl (a4,a5))))))))))))))))) else (some (.inr (h)))
def xS (a0:(List Int)):Option (Int) :=
  (loop (fun s=>lX a0 s.1 s.2) (4294967295,0)).bind fun t=>xQ t
def rP (a0:(List Int)):Option (Int) :=
  (at_ a0 0).bind fun h=>(ltt (IntKind.u32.wrap h) fun z=>((at_ a0 1).bind fun C=>(ltt (IntKind.u32.wrap C) fun G=>(ltt (yZ .u32 G 8) fun H=>(ltt (ior .u32 z H) fun I=>((at_ a0 2).bind fun J=>(ltt (IntKind.u32.wrap J) fun S=>(ltt (yZ .u32 S 16) fun U=>(ltt (ior .u32 I U) fun X=>((at_ a0 3).bind fun Y=>(ltt (IntKind.u32.wrap Y) fun a1=>(ltt (yZ .u32 a1 24) fun a2=>(ltt (ior .u32 X a2) fun a3=>(some a3))))))))))))))
def dR (a0:(List Int)):Option ((List Int)) :=
  pC (a0).isEmpty (some []) (chk (([]:List Int).length+a0.length≤140737488355328 / 1) (some a0))
def sX (a1:Int) (h:(List Int)) (C:(Int)) (G:Bool):Option (Int×(List Int)×Int×Int) :=
  if G=true then (some (0,[],0,3)) else (ltt (IntKind.i64.wrap C) fun H=>(ltt (IntKind.i64.wrap (5+H)) fun z=>((oO h 0 z).bind fun I=>((oO h z (h.length:Int)).bind fun J=>((xS I).bind fun S=>((rP J).bind fun U=>(if (S != U)=true then (some (0,[],0,4)) else ((at_ h 4).bind fun X=>((oO h 5 z).bind fun Y=>(ltt (IntKind.i64.wrap (a1+z)) fun a0=>(ltt (IntKind.i64.wrap (a0+4)) fun a2=>((dR Y).bind fun a3=>(some (X,a3,a2,0))))))))))))))
def tH (a0:(List Int)) (a1:Int) (C:Bool):Option (Int×(List Int)×Int×Int) :=
  if C=true then (some (0,[],0,1)) else ((oO a0 a1 (a0.length:Int)).bind fun h=>(if (decide ((h.length:Int)<9))=true then (some (0,[],0,3)) else ((rP h).bind fun z=>(if (decide (1048576<z))=true then (sX a1 h z true) else (ltt (IntKind.i64.wrap z) fun G=>(ltt (IntKind.i64.wrap ((h.length:Int) - 9)) fun H=>(sX a1 h z (decide (H<G)))))))))
def yJ (a0:(List Int)) (a1:Int):Option (Int×(List Int)×Int×Int) :=
  if (decide (a1<0))=true then (tH a0 a1 true) else (tH a0 a1 (decide ((a0.length:Int)<a1)))
end
set_option maxRecDepth 100000
set_option maxHeartbeats 4000000
section
variable {r:World} {L:List HP} {w:World} {Z:Nat→Prop} {wz:World}
theorem aGk {a0 A0 n0 c0 y} (G:xS a0=some y) (X:SH r (L) w) (qz:Nat) (hZ:L[qz]?=some (zone Z wz)) (ha0:RdL L (kI .u8) A0 n0 c0 a0) (hG1:Imm Z wz (kI .u32) (some ⟨1,0,none⟩) 16 16 dA) :
  Ret Tryz.prog 92 #[.slice A0 n0 c0] w fun v w'=>v=.int .u32 y∧SH r (L) w':=by
 refine enter Tryz.func92 rfl Tryz.ntmps92 [(0,_)] rfl (by simp) ?_
 intro U J Qf hQ hQn
 unfold xS at G
 refine nz 1 J rfl fun U J=>nz 1 J rfl fun U J=>wp_seq_k fun d0 a1=>ws fun d1 a2=>xk 1 J rfl fun U J=>aX fC (X.rdl 0 ha0 rfl).2.1 J (fun U J=>?_) rfl
 refine x_m J rfl fun U J=>wn (a2 _ _ ?_)
 refine aA fun C a3=>?_
 have hb1:∀z,zC z=some y→∀U w,FR 36 [] U [(3,.int .u32 z)]→SH r (L) w→C U w:=by
  intro z G U w J X
  unfold zC at G
  refine a3 _ _ (a1 _ _ ?_)
  refine ws fun d2 a4=>xk 1 J rfl fun U J=>x_v J (aSl rfl (J.ev rfl)) rfl fun U J=>x_m J rfl fun U J=>wn (a4 _ _ ?_)
  cases G
  refine wp_ret (hQ _ _ ?_)
  exact lv Tryz.results92 J rfl ⟨rfl,X⟩
 obtain⟨a5,a6,G⟩:=bnd G
 have a7:∀h,(h)=a5→∀U w,FR 36 [] U [(3,.int .u32 h)]→SH r (L) w→C U w:=by
  intro h ht U w J X
  subst ht
  replace G:xQ h=some y:=G
  unfold xQ at G
  exact hb1 h G U w (J.sub _ rfl) X
 refine aD a6 (fun s U w=>FR 36 [] U [(3,.int .u32 s.1),(6,.slice A0 n0 c0),(7,.int .i64 (a0.length:Int)),(8,.int .i64 s.2)]∧SH r (L) w) ⟨J.sub _ rfl,X⟩ ?_
 intro d3 a8 a9 G b3 b4 U w hLab
 obtain⟨H,b5⟩:=a8
 replace G:lX a0 H b5=some a9:=G
 unfold lX at G
 try dsimp only at hLab
 obtain⟨J,X⟩:=hLab
 refine nz 1 J rfl fun U J=>wp_seq_k fun d4 b6=>bB J G rfl (fun b7 G=>?_) fun b7 G=>?_
 ·refine wp_skip (b6 _ _ ?_)
  refine wp_seq_k fun d5 b8=>aA fun d6 b9=>ws fun d7 c3=>?_
  obtain⟨d8,I,G⟩:=bnd G
  refine fO fC sz5 (X.rdl 0 ha0 rfl) I J (fun U J=>?_) rfl
  obtain⟨cs,hV,c4⟩:=el (X.rdl 0 ha0 rfl) I
  obtain rfl:=hV
  refine aI uu5 (c4 0 _ rfl) J (fun U J=>?_) rfl
  refine x_m J rfl fun U J=>wn (c3 _ _ ?_)
  refine ws fun d9 c5=>xk 2 J rfl fun U J=>fU G J (aS uu5 wJ rfl (J.ev rfl)) rfl fun c6 c7 U J G=>x_l G J rfl fun e0 _ U J G=>x_l G J rfl fun e1 _ U J G=>?_
  obtain⟨e2,S,G⟩:=bnd G
  refine zY aVv aUu (X.rdl 0 (hG1.rdl qz hZ) rfl) S J (fun U J=>?_) rfl
  obtain⟨cs,hV,c8⟩:=el (X.rdl 0 (hG1.rdl qz hZ) rfl) S
  obtain rfl:=hV
  refine aI wJ (c8 0 _ rfl) J (fun U J=>?_) rfl
  refine x_m J rfl fun U J=>fU G J (qW rfl (J.ev rfl) (J.ev rfl) (by decide)) rfl fun e3 _ U J G=>x_l G J rfl fun e4 _ U J G=>x_m J rfl fun U J=>wn (c5 _ _ ?_)
  refine aC (xk 2 J rfl fun U J=>?_)
  refine x_v (v:=.int .u32 c6) J (jY c7 (aS uu5 wJ rfl (J.ev rfl))) rfl fun U J=>fU G J (qW rfl (J.ev rfl) (J.ev rfl) (by decide)) rfl fun e5 _ U J G=>x_l G J rfl fun e6 _ U J G=>x_l G J rfl fun e7 _ U J G=>?_
  obtain⟨e8,Y,G⟩:=bnd G
  refine zY aVv aUu (X.rdl 0 (hG1.rdl qz hZ) rfl) Y J (fun U J=>?_) rfl
  obtain⟨cs,hV,c9⟩:=el (X.rdl 0 (hG1.rdl qz hZ) rfl) Y
  obtain rfl:=hV
  refine aI wJ (c9 0 _ rfl) J (fun U J=>?_) rfl
  refine x_m J rfl fun U J=>fU G J (qW rfl (J.ev rfl) (J.ev rfl) (by decide)) rfl fun e9 _ U J G=>x_l G J rfl fun f2 _ U J G=>x_m J rfl fun U J=>wpList_nil (b9 _ _ ?_)
  refine b8 _ _ (aC ?_)
  refine x_l G J rfl fun f3 _ U J G=>x_m J rfl fun U J=>wpList_nil ?_
  cases G
  exact⟨_,b3 _ rfl,J.sub _ rfl,X⟩
 cases G
 exact wp_exit (a7 H (b4 _ rfl) U w (J.sub _ rfl) X)
theorem aBc {a0 A0 n0 c0 y} (G:rP a0=some y) (X:SH r (L) w) (ha0:RdL L (kI .u8) A0 n0 c0 a0) :
  Ret Tryz.prog 96 #[.slice A0 n0 c0] w fun v w'=>v=.int .u32 y∧SH r (L) w':=by
 refine enter Tryz.func96 rfl Tryz.ntmps96 [(0,_)] rfl (by simp) ?_
 intro U J Qf hQ hQn
 unfold rP at G
 refine nz 1 J rfl fun U J=>wp_seq_k fun d3 b5=>cN [0,1,3,7,0,16,48,112,240,511,0,1024,3072,7168,15360,32767,0,65536,196608,458752,983040,2097151,4194303] [] rfl J X (by kernel_rfl) (by kernel_rfl) (by kernel_rfl) (by kernel_rfl) fun w X=>?_
 obtain⟨h,z,G⟩:=bnd G
 obtain⟨cs,hV,b6⟩:=el (X.rdl 0 ha0 rfl) z
 obtain rfl:=hV
 obtain⟨C,b7,G⟩:=nZ G
 obtain⟨H,I,G⟩:=bnd G
 obtain⟨cs,hV,b8⟩:=el (X.rdl 0 ha0 rfl) I
 obtain rfl:=hV
 obtain⟨S,b9,G⟩:=nZ G
 obtain⟨Y,c3,G⟩:=nZ G
 obtain⟨a1,c4,G⟩:=nZ G
 obtain⟨a2,a3,G⟩:=bnd G
 obtain⟨cs,hV,c5⟩:=el (X.rdl 0 ha0 rfl) a3
 obtain rfl:=hV
 obtain⟨a4,c6,G⟩:=nZ G
 obtain⟨a5,c7,G⟩:=nZ G
 obtain⟨a6,c8,G⟩:=nZ G
 obtain⟨a7,a8,G⟩:=bnd G
 obtain⟨cs,hV,c9⟩:=el (X.rdl 0 ha0 rfl) a8
 obtain rfl:=hV
 obtain⟨a9,d0,G⟩:=nZ G
 obtain⟨b3,d1,G⟩:=nZ G
 obtain⟨b4,d2,G⟩:=nZ G
 refine⟨[(0,.slice A0 n0 c0),(1,.pointer (some (ea A0 ((0:Int).toNat * 1)))),(2,.int .u8 h),(3,.int .u32 C),(4,.slice A0 n0 c0),(5,.pointer (some (ea A0 ((1:Int).toNat * 1)))),(6,.int .u8 H),(7,.int .u32 S),(8,.int .u32 Y),(9,.int .u32 a1),(10,.slice A0 n0 c0),(11,.pointer (some (ea A0 ((2:Int).toNat * 1)))),(12,.int .u8 a2),(13,.int .u32 a4),(14,.int .u32 a5),(15,.int .u32 a6),(16,.slice A0 n0 c0),(17,.pointer (some (ea A0 ((3:Int).toNat * 1)))),(18,.int .u8 a7),(19,.int .u32 a9),(20,.int .u32 b3),(21,.int .u32 b4),(22,.int .u32 b4)],?_⟩
 refine gM [0,1,2,3,4,5,6,7,8,9,10,11,12,13,14,15,16,17,18,19,20,21,22] (by kernel_rfl) ⟨pm rfl,pt [(3,.slice A0 n0 c0)] rfl (fun U J=>fH fC sz5 (X.rdl 0 ha0 rfl) z J rfl rfl rfl),pt [(4,.pointer (some (ea A0 ((0:Int).toNat * 1))))] rfl (fun U J=>cM uu5 (b6 0 _ rfl) J rfl rfl rfl),pt [(5,.int .u8 h)] rfl fun U J=>jY b7 (aS uu5 wJ rfl (J.ev rfl)),pm rfl,pt [(7,.slice A0 n0 c0)] rfl (fun U J=>fH fC sz5 (X.rdl 0 ha0 rfl) I J rfl rfl rfl),pt [(8,.pointer (some (ea A0 ((1:Int).toNat * 1))))] rfl (fun U J=>cM uu5 (b8 0 _ rfl) J rfl rfl rfl),pt [(9,.int .u8 H)] rfl fun U J=>jY b9 (aS uu5 wJ rfl (J.ev rfl)),pt [(10,.int .u32 S)] rfl fun U J=>jY c3 (aFv rfl (J.ev rfl) (J.ev rfl) (by decide)),pt [(6,.int .u32 C),(11,.int .u32 Y)] rfl fun U J=>jY c4 (aOw rfl (J.ev rfl) (J.ev rfl)),pm rfl,pt [(13,.slice A0 n0 c0)] rfl (fun U J=>fH fC sz5 (X.rdl 0 ha0 rfl) a3 J rfl rfl rfl),pt [(14,.pointer (some (ea A0 ((2:Int).toNat * 1))))] rfl (fun U J=>cM uu5 (c5 0 _ rfl) J rfl rfl rfl),pt [(15,.int .u8 a2)] rfl fun U J=>jY c6 (aS uu5 wJ rfl (J.ev rfl)),pt [(16,.int .u32 a4)] rfl fun U J=>jY c7 (aFv rfl (J.ev rfl) (J.ev rfl) (by decide)),pt [(12,.int .u32 a1),(17,.int .u32 a5)] rfl fun U J=>jY c8 (aOw rfl (J.ev rfl) (J.ev rfl)),pm rfl,pt [(19,.slice A0 n0 c0)] rfl (fun U J=>fH fC sz5 (X.rdl 0 ha0 rfl) a8 J rfl rfl rfl),pt [(20,.pointer (some (ea A0 ((3:Int).toNat * 1))))] rfl (fun U J=>cM uu5 (c9 0 _ rfl) J rfl rfl rfl),pt [(21,.int .u8 a7)] rfl fun U J=>jY d0 (aS uu5 wJ rfl (J.ev rfl)),pt [(22,.int .u32 a9)] rfl fun U J=>jY d1 (aFv rfl (J.ev rfl) (J.ev rfl) (by decide)),pt [(18,.int .u32 a6),(23,.int .u32 b3)] rfl fun U J=>jY d2 (aOw rfl (J.ev rfl) (J.ev rfl)),pm rfl,trivial⟩ ⟨by kernel_rfl,by kernel_rfl⟩ [(2,_)] rfl (fun U J=>?_)
 cases G
 refine b5 _ _ (wp_ret ?_)
 refine hQ _ _ (lv Tryz.results96 J rfl ?_)
 exact⟨rfl,X⟩
theorem qX {a0 A0 n0 c0 y} (G:dR a0=some y) (X:SH r (L) w) (ha0:RdL L (kI .u8) A0 n0 c0 a0) :
  Ret Tryz.prog 34 #[.slice A0 n0 c0] w fun v w'=>∃ (B0:Option Addr) (m0:Nat) (d0:Nat),v=.slice B0 m0 d0∧SH r (own (kI .u8) 5 B0 m0 d0 y::L) w':=by
 refine enter Tryz.func34 rfl Tryz.ntmps34 [(0,_)] rfl (by simp) ?_
 intro U J Qf hQ hQn
 unfold dR at G
 refine nz 1 J rfl fun U J=>wp_seq_k fun a2 z=>ws fun a3 h=>xk 1 J rfl fun U J=>?_
 rcases A0 with _ | C
 ·replace G:=aVl (RdL.none_nil ha0 (X.sfx 0)) G
  refine x_v (v:=.bool true) J (aCk (p:=none) fC rfl (J.ev rfl) (J.ev rfl)) rfl fun U J=>wn (h _ _ ?_)
  refine c_t (b:=true) rfl J ?_ rfl
  refine nz 1 J rfl fun U J=>?_
  replace X:=SH.nil_own (d:=(kI .u8)) (e:=5) X
  cases G
  refine wp_ret (hQ _ _ ?_)
  exact lv Tryz.results34 J rfl ⟨none,0,0,rfl,X⟩
 replace G:=aU8 G
 refine x_v (v:=.bool false) J (aCk (p:=some C) fC rfl (J.ev rfl) (J.ev rfl)) rfl fun U J=>wn (h _ _ ?_)
 refine c_f (b:=false) rfl J ?_ rfl
 refine wp_skip (z _ _ ?_)
 refine ws fun a4 H=>gV (d:=(kI .u8)) (e:=5) (ps:=#[]) (cells:=[]) (xs:=[]) (fun w=>by kernel_rfl) rfl rfl J X (fun a5 U w X J=>?_) rfl
 refine x_m J rfl fun U J=>?_
 obtain⟨I,G⟩:=aB G
 have hr:=X.rdl 1 ha0 rfl
 refine gG 0 aC8 fC J X hr.1 hr.2.1 I rfl (fun S Y a1 U w X J=>?_) rfl
 rw [List.nil_append] at X
 refine x_m J rfl fun U J=>wn (H _ _ ?_)
 cases G
 refine wp_ret (hQ _ _ ?_)
 exact lv Tryz.results34 J rfl ⟨S,Y,a1,rfl,X⟩
theorem aKe {a0 a1 A0 n0 c0 y} (G:yJ a0 a1=some y) (X:SH r (L) w) (qz:Nat) (hZ:L[qz]?=some (zone Z wz)) (ha0:Imm Z wz (kI .u8) A0 n0 c0 a0) (hG1:Imm Z wz (kI .u32) (some ⟨1,0,none⟩) 16 16 dA) :
  Ret Tryz.prog 74 #[.slice A0 n0 c0,.int .i64 a1] w fun v w'=>∃ (B1:Option Addr) (m1:Nat) (d1:Nat),v=.tuple #[(.int .u8 y.1),(.slice B1 m1 d1),(.int .i64 y.2.2.1),(.int .i64 y.2.2.2)]∧SH r (own (kI .u8) 5 B1 m1 d1 y.2.1::L) w':=by
 refine enter Tryz.func74 rfl Tryz.ntmps74 [(0,_),(1,_)] rfl (by simp) ?_
 intro U J Qf hQ hQn
 unfold yJ at G
 refine nz 4 J rfl fun U J=>wp_seq_k fun h2 c7=>wp_seq_k fun c8 c9=>?_
 have hj1:∀a5,tH a0 a1 a5=some y→∀U w,FR 60 [] U [(0,.slice A0 n0 c0),(1,.int .i64 a1),(18,.bool a5)]→SH r (L) w→c8 U w:=by
  intro a5 G U w J X
  unfold tH at G
  refine c9 _ _ (bB J G rfl (fun d0 G=>?_) fun d0 G=>?_)
  ·refine nz 4 J rfl fun U J=>?_
   replace X:=SH.nil_own (d:=(kI .u8)) (e:=5) X
   cases G
   refine wp_ret (hQ _ _ ?_)
   exact lv4 Tryz.results74 J rfl rfl rfl rfl ⟨none,0,0,rfl,X⟩
  refine wp_skip (c7 _ _ ?_)
  refine ws fun h3 d2=>xk 2 J rfl fun U J=>?_
  obtain⟨d3,a6,G⟩:=bnd G
  obtain⟨z,H,I,d4,h⟩:=aE6 ha0 a6
  refine x_v (v:=.slice z H I) J (aF8 d4 (kJ fC sz5 rfl (J.ev rfl) (J.ev rfl) (sF (X.rdl 0 (ha0.rdl qz hZ) rfl) a6).1 (sF (X.rdl 0 (ha0.rdl qz hZ) rfl) a6).2.2.2.2.2)) rfl fun U J=>x_m J rfl fun U J=>wn (d2 _ _ ?_)
  refine wp_seq_k fun h4 d5=>ws fun h5 d6=>xk 1 J rfl fun U J=>aX fC (X.rdl 0 (h.rdl qz hZ) rfl).2.1 J (fun U J=>?_) rfl
  refine nk 1 J rfl fun U J=>d6 _ _ (bB J G rfl (fun d7 G=>?_) fun d7 G=>?_)
  ·refine nz 4 J rfl fun U J=>?_
   replace X:=SH.nil_own (d:=(kI .u8)) (e:=5) X
   cases G
   refine wp_ret (hQ _ _ ?_)
   exact lv4 Tryz.results74 J rfl rfl rfl rfl ⟨none,0,0,rfl,X⟩
  refine wp_skip (d5 _ _ ?_)
  refine ws fun h6 d8=>xk 1 J rfl fun U J=>?_
  obtain⟨a9,d9,G⟩:=bnd G
  refine x_c aYz J rfl (aBc d9 X (RdL.sfx 0 rfl (h.rdl qz hZ)) :) fun v U w hR J=>?_
  obtain⟨rfl,X⟩:=hR
  refine x_m J rfl fun U J=>wn (d8 _ _ ?_)
  refine wp_seq_k fun h7 e0=>wp_seq_k fun e1 e2=>?_
  have hj2:∀a7,sX a1 d3 a9 a7=some y→∀U w,FR 60 [] U [(1,.int .i64 a1),(8,.slice z H I),(9,.int .u32 a9),(36,.bool a7)]→SH r (L) w→e1 U w:=by
   intro a7 G U w J X
   unfold sX at G
   refine e2 _ _ (bB J G rfl (fun e3 G=>?_) fun e3 G=>?_)
   ·refine nz 4 J rfl fun U J=>?_
    replace X:=SH.nil_own (d:=(kI .u8)) (e:=5) X
    cases G
    refine wp_ret (hQ _ _ ?_)
    exact lv4 Tryz.results74 J rfl rfl rfl rfl ⟨none,0,0,rfl,X⟩
   refine wp_skip (e0 _ _ ?_)
   refine ws fun h8 e4=>xk 1 J rfl fun U J=>fU G J (aS wJ uu3 rfl (J.ev rfl)) rfl fun h9 _ U J G=>x_l G J rfl fun S _ U J G=>x_m J rfl fun U J=>wn (e4 _ _ ?_)
   refine wp_seq_k fun i0 e5=>wp_seq_k fun i1 e6=>cN [0,0,3,7,0,0,48,127,255] [3,7] rfl J X (by kernel_rfl) (by kernel_rfl) (by kernel_rfl) (by kernel_rfl) fun w X=>?_
   obtain⟨i2,a8,G⟩:=bnd G
   obtain⟨e7,e8,e9,f2,f3⟩:=aQn h a8
   obtain⟨i3,Y,G⟩:=bnd G
   obtain⟨f4,f5,f6,b3,f7⟩:=aE6 h Y
   refine⟨[(0,.slice z H I),(1,.int .i64 S),(2,.slice e7 e8 e9),(4,.slice z H I),(5,.int .i64 S),(6,.slice f4 f5 f6)],?_⟩
   refine dF [0,1,2,4,5,6] [3] (by kernel_rfl) ⟨pm rfl,pm rfl,pt [(40,_),(41,_)] rfl fun U J=>aF8 f2 (wC fC sz5 rfl (J.ev rfl) (J.ev rfl) (sF (X.rdl 0 (h.rdl qz hZ) rfl) a8).2.2.2.2.1 (sF (X.rdl 0 (h.rdl qz hZ) rfl) a8).2.2.1),pm rfl,pm rfl,pt [(44,_),(45,_)] rfl fun U J=>aF8 b3 (kJ fC sz5 rfl (J.ev rfl) (J.ev rfl) (sF (X.rdl 0 (h.rdl qz hZ) rfl) Y).1 (sF (X.rdl 0 (h.rdl qz hZ) rfl) Y).2.2.2.2.2),trivial⟩ ⟨et [(42,_)] rfl (fun U J K hK=>?_),trivial⟩
   obtain⟨b4,f8,G⟩:=bnd G
   refine nQ aYy J (aGk f8 X (qz+0) hZ (RdL.sfx 0 rfl (f3.rdl qz hZ)) hG1 :) (fun v w hR=>?_) rfl
   obtain⟨rfl,X⟩:=hR
   refine hK _ [] _ rfl (dF [4,5,6] [7] (by kernel_rfl) ⟨pm rfl,pm rfl,pt [(44,_),(45,_)] rfl fun U J=>aF8 b3 (kJ fC sz5 rfl (J.ev rfl) (J.ev rfl) (sF (X.rdl 0 (h.rdl qz hZ) rfl) Y).1 (sF (X.rdl 0 (h.rdl qz hZ) rfl) Y).2.2.2.2.2),trivial⟩ ⟨et [(46,_)] rfl (fun U J K hK=>?_),trivial⟩)
   obtain⟨b5,f9,G⟩:=bnd G
   refine nQ aYz J (aBc f9 X (RdL.sfx 0 rfl (f7.rdl qz hZ)) :) (fun v w hR=>?_) rfl
   obtain⟨rfl,X⟩:=hR
   refine hK _ [(8,.bool (b4 != b5))] _ rfl (gM [8] (by kernel_rfl) ⟨pt [(43,.int .u32 b4),(47,.int .u32 b5)] rfl (fun U J=>aVg rfl (J.ev rfl) (J.ev rfl)),trivial⟩ ⟨by kernel_rfl,by kernel_rfl⟩ [(1,_),(8,_),(10,_),(48,_)] rfl (fun U J=>?_))
   refine e6 _ _ (bB J G rfl (fun g0 G=>?_) fun g0 G=>?_)
   ·refine nz 4 J rfl fun U J=>?_
    replace X:=SH.nil_own (d:=(kI .u8)) (e:=5) X
    cases G
    refine wp_ret (hQ _ _ ?_)
    exact lv4 Tryz.results74 J rfl rfl rfl rfl ⟨none,0,0,rfl,X⟩
   refine wp_skip (e5 _ _ ?_)
   refine wp_seq_k fun i4 g1=>cN [0,1,3,0,0,24,56,0,0,384,896,127,2175,8191,16383] [6] rfl J X (by kernel_rfl) (by kernel_rfl) (by kernel_rfl) (by kernel_rfl) fun w X=>?_
   obtain⟨b6,a3,G⟩:=bnd G
   obtain⟨cs,hV,g2⟩:=el (X.rdl 0 (h.rdl qz hZ) rfl) a3
   obtain rfl:=hV
   obtain⟨i5,a4,G⟩:=bnd G
   obtain⟨g3,g4,g5,g6,g7⟩:=aTa h a4
   obtain⟨b7,b8,G⟩:=nZ G
   obtain⟨b9,c3,G⟩:=nZ G
   refine⟨[(0,.slice z H I),(1,.pointer (some (ea z ((4:Int).toNat * 1)))),(2,.int .u8 b6),(3,.slice z H I),(4,.int .i64 S),(5,.slice g3 g4 g5),(7,.int .i64 a1),(8,.int .i64 S),(9,.int .i64 b7),(10,.int .i64 b9)],?_⟩
   refine dF [0,1,2,3,4,5,7,8,9,10] [6] (by kernel_rfl) ⟨pm rfl,pt [(49,_)] rfl (fun U J=>fH fC sz5 (X.rdl 0 (h.rdl qz hZ) rfl) a3 J rfl rfl rfl),pt [(50,_)] rfl (fun U J=>cM uu5 (g2 0 _ rfl) J rfl rfl rfl),pm rfl,pm rfl,pt [(52,_),(53,_)] rfl fun U J=>aF8 g6 (aFp fC sz5 rfl (J.ev rfl) (J.ev rfl) (J.ev rfl) (sF (X.rdl 0 (h.rdl qz hZ) rfl) a4).1 (sF (X.rdl 0 (h.rdl qz hZ) rfl) a4).2.1 (sF (X.rdl 0 (h.rdl qz hZ) rfl) a4).2.2.1),pm rfl,pm rfl,pt [(56,_),(57,_)] rfl fun U J=>jY b8 (iR rfl (J.ev rfl) (J.ev rfl)),pt [(58,_)] rfl fun U J=>jY c3 (iR rfl (J.ev rfl) (J.ev rfl)),trivial⟩ ⟨et [(54,_)] rfl (fun U J K hK=>?_),trivial⟩
   obtain⟨i6,g8,G⟩:=bnd G
   refine nQ aZ9 J (qX g8 X (RdL.sfx 0 rfl (g7.rdl qz hZ)) :) (fun v w hR=>?_) rfl
   obtain⟨c4,c5,c6,rfl,X⟩:=hR
   obtain⟨cs,hV,g9⟩:=el (X.rdl 1 (h.rdl qz hZ) rfl) a3
   obtain rfl:=hV
   refine hK _ [(11,.int .u8 b6),(12,.slice c4 c5 c6),(13,.int .i64 b9),(14,.int .i64 0)] _ rfl (gM [0,1,2,7,8,9,10,11,12,13,14] (by kernel_rfl) ⟨pm rfl,pt [(49,.slice z H I)] rfl (fun U J=>fH fC sz5 (X.rdl 1 (h.rdl qz hZ) rfl) a3 J rfl rfl rfl),pt [(50,.pointer (some (ea z ((4:Int).toNat * 1))))] rfl (fun U J=>cM uu5 (g9 0 _ rfl) J rfl rfl rfl),pm rfl,pm rfl,pt [(56,.int .i64 a1),(57,.int .i64 S)] rfl fun U J=>jY b8 (iR rfl (J.ev rfl) (J.ev rfl)),pt [(58,.int .i64 b7)] rfl fun U J=>jY c3 (iR rfl (J.ev rfl) (J.ev rfl)),pm rfl,pm rfl,pm rfl,pm rfl,trivial⟩ ⟨by kernel_rfl,by kernel_rfl⟩ [(4,_),(5,_),(6,_),(7,_)] rfl (fun U J=>?_))
   cases G
   refine g1 _ _ (wp_ret ?_)
   refine hQ _ _ (lv4 Tryz.results74 J rfl rfl rfl rfl ?_)
   exact⟨c4,c5,c6,rfl,X⟩
  refine aC (xk 3 J rfl fun U J=>?_)
  refine bcG G (fun C G=>?_) fun C G=>?_
  ·exact ng 7 C J rfl rfl fun U J=>hj2 true G U w (J.sub _ rfl) X
  refine xg 1 C J rfl rfl fun U J=>aO C J ?_ rfl
  refine fU G J (aS wJ uu3 rfl (J.ev rfl)) rfl fun h0 _ U J G=>xg 1 C J rfl rfl fun U J=>aO C J ?_ rfl
  refine aX fC (X.rdl 0 (h.rdl qz hZ) rfl).2.1 J (fun U J=>?_) rfl
  refine aO C J ?_ rfl
  exact x_l G J rfl fun h1 _ U J G=>ng 2 C J rfl rfl fun U J=>hj2 (decide (h1<h0)) G U w (J.sub _ rfl) X
 refine aC (xk 3 J rfl fun U J=>?_)
 refine bcG G (fun a2 G=>?_) fun a2 G=>?_
 ·exact ng 5 a2 J rfl rfl fun U J=>hj1 true G U w (J.sub _ rfl) X
 refine xg 2 a2 J rfl rfl fun U J=>aO a2 J ?_ rfl
 refine aX fC (X.rdl 0 (ha0.rdl qz hZ) rfl).2.1 J (fun U J=>?_) rfl
 exact ng 2 a2 J rfl rfl fun U J=>hj1 (decide ((a0.length:Int)<a1)) G U w (J.sub _ rfl) X
end
noncomputable section
set_option linter.unusedSimpArgs false
def wF (a0:Int):Option ((List Int)) :=
  ltt (IntKind.u8.wrap a0) fun h=>(ltt (bS .u32 a0 8) fun z=>(ltt (IntKind.u8.wrap z) fun C=>(ltt (bS .u32 a0 16) fun G=>(ltt (IntKind.u8.wrap G) fun H=>(ltt (bS .u32 a0 24) fun I=>(ltt (IntKind.u8.wrap I) fun J=>(some [h,C,H,J])))))))
def zB (a0:(List Int)) (a1:Int) (a2:(List Int)):Option ((List Int)) :=
  ltt (IntKind.u32.wrap (a2.length:Int)) fun C=>((wF C).bind fun h=>(chk (h.length+[a1].length≤140737488355328 / 1) (chk ((h++[a1]).length+a2.length≤140737488355328 / 1) (chk (a0.length+((h++[a1])++a2).length≤140737488355328 / 1) ((xS ((h++[a1])++a2)).bind fun G=>((wF G).bind fun z=>(chk ((a0++((h++[a1])++a2)).length+z.length≤140737488355328 / 1) (some ((a0++((h++[a1])++a2))++z)))))))))
end
section
variable {r:World} {L:List HP} {w:World} {Z:Nat→Prop} {wz:World}
theorem aD0 {a0 y} (G:wF a0=some y) (X:SH r (L) w) :
  Ret Tryz.prog 91 #[.int .u32 a0] w fun v w'=>∃ (B0:Option Addr) (m0:Nat) (d0:Nat),v=.slice B0 m0 d0∧SH r (own (kI .u8) 5 B0 m0 d0 y::L) w':=by
 refine enter Tryz.func91 rfl Tryz.ntmps91 [(0,_)] rfl (by simp) ?_
 intro U J Qf hQ hQn
 unfold wF at G
 refine nz 1 J rfl fun U J=>ws fun Y I=>xk 1 J rfl fun U J=>fU G J (aS wJ uu5 rfl (J.ev rfl)) rfl fun h _ U J G=>x_m J rfl fun U J=>fU G J (qW rfl (J.ev rfl) (J.ev rfl) (by decide)) rfl fun a1 _ U J G=>fU G J (aS wJ uu5 rfl (J.ev rfl)) rfl fun z _ U J G=>x_m J rfl fun U J=>fU G J (qW rfl (J.ev rfl) (J.ev rfl) (by decide)) rfl fun a2 _ U J G=>fU G J (aS wJ uu5 rfl (J.ev rfl)) rfl fun C _ U J G=>x_m J rfl fun U J=>fU G J (qW rfl (J.ev rfl) (J.ev rfl) (by decide)) rfl fun a3 _ U J G=>fU G J (aS wJ uu5 rfl (J.ev rfl)) rfl fun H _ U J G=>gV (d:=(kI .u8)) (e:=5) (ps:=#[(0,.int .u8 h),(1,.int .u8 z),(2,.int .u8 C),(3,.int .u8 H)]) (cells:=[.int .u8 h,.int .u8 z,.int .u8 C,.int .u8 H]) (xs:=[h,z,C,H]) (fun w=>by kernel_rfl) rfl ⟨[.int .u8 h],_,rfl,rfl,⟨[.int .u8 z],_,rfl,rfl,⟨[.int .u8 C],_,rfl,rfl,⟨[.int .u8 H],_,rfl,rfl,rfl⟩⟩⟩⟩ J X (fun S U w X J=>?_) rfl
 refine x_m J rfl fun U J=>wn (I _ _ ?_)
 cases G
 refine wp_ret (hQ _ _ ?_)
 exact lv Tryz.results91 J rfl ⟨some ⟨S,0,none⟩,4,4,rfl,X⟩
theorem aLi {a0 a1 a2 A0 n0 c0 A2 n2 c2 y} (G:zB a0 a1 a2=some y) (X:SH r (own (kI .u8) 5 A0 n0 c0 a0::L) w) (qz:Nat) (hZ:L[qz]?=some (zone Z wz)) (ha2:RdL L (kI .u8) A2 n2 c2 a2) (hG1:Imm Z wz (kI .u32) (some ⟨1,0,none⟩) 16 16 dA) :
  Ret Tryz.prog 70 #[.slice A0 n0 c0,.int .u8 a1,.slice A2 n2 c2] w fun v w'=>∃ (B0:Option Addr) (m0:Nat) (d0:Nat),v=.slice B0 m0 d0∧SH r (own (kI .u8) 5 B0 m0 d0 y::L) w':=by
 refine enter Tryz.func70 rfl Tryz.ntmps70 [(0,_),(1,_),(2,_)] rfl (by simp) ?_
 intro U J Qf hQ hQn
 unfold zB at G
 refine nz 1 J rfl fun U J=>ws fun a8 h=>xk 1 J rfl fun U J=>aX fC (X.rdl 1 ha2 rfl).2.1 J (fun U J=>?_) rfl
 refine fU G J (aS uu3 wJ rfl (J.ev rfl)) rfl fun a9 _ U J G=>?_
 obtain⟨b3,z,G⟩:=bnd G
 refine x_c bAb J rfl (aD0 z X :) fun v U w hR J=>?_
 obtain⟨b4,b5,b6,rfl,X⟩:=hR
 refine x_m J rfl fun U J=>gV (d:=(kI .u8)) (e:=5) (ps:=#[(0,.int .u8 a1)]) (cells:=[.int .u8 a1]) (xs:=[a1]) (fun w=>by kernel_rfl) rfl ⟨[.int .u8 a1],_,rfl,rfl,rfl⟩ J X (fun b7 U w X J=>?_) rfl
 obtain⟨C,G⟩:=aB G
 have hr:=X.rd 0 rfl
 refine gG 1 aC8 fC J X hr.1 hr.2.1 C rfl (fun b8 b9 c3 U w X J=>?_) rfl
 refine x_m J rfl fun U J=>?_
 obtain⟨H,G⟩:=aB G
 have hr:=X.rdl 3 ha2 rfl
 refine gG 0 aC8 fC J X hr.1 hr.2.1 H rfl (fun c4 c5 c6 U w X J=>?_) rfl
 refine x_m J rfl fun U J=>wn (h _ _ ?_)
 refine ws fun c7 I=>xk 2 J rfl fun U J=>?_
 obtain⟨S,G⟩:=aB G
 have hr:=X.rd 0 rfl
 refine gG 2 aC8 fC J X hr.1 hr.2.1 S rfl (fun c8 c9 d1 U w X J=>?_) rfl
 refine x_m J rfl fun U J=>?_
 obtain⟨d2,Y,G⟩:=bnd G
 refine x_c aYy J rfl (aGk Y X (qz+3) hZ (RdL.own 1 rfl (X.dropN 0)) hG1 :) fun v U w hR J=>?_
 obtain⟨rfl,X⟩:=hR
 obtain⟨d3,a3,G⟩:=bnd G
 refine x_c bAb J rfl (aD0 a3 X :) fun v U w hR J=>?_
 obtain⟨d4,d5,d6,rfl,X⟩:=hR
 obtain⟨a4,G⟩:=aB G
 have hr:=X.rd 0 rfl
 refine gG 1 aC8 fC J X hr.1 hr.2.1 a4 rfl (fun a5 a6 a7 U w X J=>?_) rfl
 refine x_m J rfl fun U J=>wn (I _ _ ?_)
 replace X:=X.drop 1 |>.drop 1 |>.drop 1
 cases G
 refine wp_ret (hQ _ _ ?_)
 exact lv Tryz.results70 J rfl ⟨a5,a6,a7,rfl,X⟩
end
noncomputable section
set_option linter.unusedSimpArgs false
def tG (h:(List Int)) (C:Int):Option ((List Int)) :=
  ltt (IntKind.u8.wrap C) fun z=>(chk (h.length+[z].length≤140737488355328 / 1) (some (h++[z])))
def qG (h:(List Int)) (z:Int):Option ((List Int)) :=
  tG h z
def kU (z:(List Int)) (h:Int):Option (((List Int)×Int)⊕(((List Int)×Int))) :=
  if (decide (128≤h))=true then (ltt (IntKind.u8.wrap h) fun G=>(ltt (ior .u8 G 128) fun C=>(chk (z.length+[C].length≤140737488355328 / 1) (ltt (bS .u64 h 7) fun H=>(some (.inl (z++[C],H))))))) else (some (.inr (z,h)))
def kD (a0:(List Int)) (a1:Int):Option ((List Int)) :=
  (loop (fun s=>kU s.1 s.2) (a0,a1)).bind fun t=>qG t.1 t.2
def pJ (a0:(List Int)) (a1:Int):Option ((List Int)) :=
  ltt (yZ .i64 a1 1) fun h=>(ltt (IntKind.u64.wrap h) fun z=>(ltt (bS .i64 a1 63) fun C=>(ltt (IntKind.u64.wrap C) fun G=>(ltt (xT .u64 z G) fun H=>((kD a0 H).bind fun I=>(some I))))))
def pA (a0:(List Int)) (a1:(List UInt8)):Option ((List Int)) :=
  ltt (IntKind.u64.wrap (a1.length:Int)) fun z=>((kD a0 z).bind fun h=>(chk (h.length+a1.length≤140737488355328 / 1) (some (h++stb a1))))
def lI (h:Int):Option (Int) :=
  some h
def jU (h:Int):Option (Int) :=
  lI h
def cJ (a0:(List Int)) (h:Int) (z:Int):Option ((Int×Int)⊕((Int))) :=
  if (decide (z<(a0.length:Int)))=true then ((at_ a0 z).bind fun C=>(ltt (IntKind.i64.wrap (z+1)) fun G=>(some (.inl (if C<h then C else h,G))))) else (some (.inr (h)))
def iG (a0:(List Int)):Option (Int) :=
  if (decide ((a0.length:Int)<1))=true then (none) else ((at_ a0 0).bind fun h=>((loop (fun s=>cJ a0 s.1 s.2) (h,1)).bind fun t=>jU t))
def oJ (h:Int) (z:Int):Option (Int) :=
  ltt (IntKind.u8.wrap h) fun C=>((at_ ([0,1,2,2,3,3,3,3,4,4,4,4,4,4,4,4,5,5,5,5,5,5,5,5,5,5,5,5,5,5,5,5,6,6,6,6,6,6,6,6,6,6,6,6,6,6,6,6,6,6,6,6,6,6,6,6,6,6,6,6,6,6,6,6,7,7,7,7,7,7,7,7,7,7,7,7,7,7,7,7,7,7,7,7,7,7,7,7,7,7,7,7,7,7,7,7,7,7,7,7,7,7,7,7,7,7,7,7,7,7,7,7,7,7,7,7,7,7,7,7,7,7,7,7,7,7,7,7,8,8,8,8,8,8,8,8,8,8,8,8,8,8,8,8,8,8,8,8,8,8,8,8,8,8,8,8,8,8,8,8,8,8,8,8,8,8,8,8,8,8,8,8,8,8,8,8,8,8,8,8,8,8,8,8,8,8,8,8,8,8,8,8,8,8,8,8,8,8,8,8,8,8,8,8,8,8,8,8,8,8,8,8,8,8,8,8,8,8,8,8,8,8,8,8,8,8,8,8,8,8,8,8,8,8,8,8,8,8,8,8,8,8,8,8,8,8,8,8,8,8,8,8,8,8,8,8]:List UInt8) C).bind fun G=>(ltt (IntKind.i64.wrap (G.toNat:Int)) fun H=>(ltt (IntKind.i64.wrap (z+H)) fun I=>(some I))))
def oG (h:Int) (z:Int):Option (Int) :=
  if (decide (256≤h))=true then (ltt (bS .u64 h 8) fun C=>(ltt (IntKind.i64.wrap (z+8)) fun G=>(oJ C G))) else (oJ h z)
def oI (h:Int) (z:Int):Option (Int) :=
  if (decide (65536≤h))=true then (ltt (bS .u64 h 16) fun C=>(ltt (IntKind.i64.wrap (z+16)) fun G=>(oG C G))) else (oG h z)
def wX (a0:Int):Option (Int) :=
  if (decide (4294967296≤a0))=true then (ltt (bS .u64 a0 32) fun h=>(oI h 32)) else (oI a0 0)
def sT (h:((List Int))) (z:Int) (C:(List Int)):Option ((List Int)) :=
  chk ((h++[z]).length+C.length≤140737488355328 / 1) (some ((h++[z])++C))
def qB (h:((List Int))) (z:Int) (C:(List Int)):Option ((List Int)) :=
  sT h z C
def sV (h:Int) (z:Int) (C:(List Int)):Option ((Int×(List Int)×Int)⊕(((List Int)))) :=
  ltt (IntKind.i64.wrap (h+1)) fun G=>(some (.inl (z,C,G)))
def qI (h:Int) (z:Int) (C:(List Int)):Option ((Int×(List Int)×Int)⊕(((List Int)))) :=
  sV h z C
def gY (I:(Int)) (J:Int) (S:Int) (h:Int) (C:(List Int)) (z:Int):Option ((Int×(List Int)×Int)⊕((Int×(List Int)))) :=
  if (decide (z<J))=true then (ltt (IntKind.i64.wrap (h.tdiv 8)) fun G=>((at_ C G).bind fun U=>(ltt (IntKind.i64.wrap (S - I)) fun X=>(ltt (IntKind.u64.wrap X) fun Y=>(chk (0≤z) (ltt (bS .u64 Y z) fun a0=>(ltt (yQ .u64 a0 1) fun a1=>(ltt (IntKind.u8.wrap a1) fun a2=>(ltt (h.tmod 8) fun H=>(chk (0≤H) (ltt (yZ .u8 a2 H) fun a3=>(ltt (ior .u8 U a3) fun a4=>(ltt (IntKind.i64.wrap (h+1)) fun a5=>(ltt (IntKind.i64.wrap (z+1)) fun a6=>(some (.inl (a5,C.set G.toNat a4,a6))))))))))))))))) else (some (.inr (h,C)))
def gU (a1:(List Int)) (C:(Int)) (G:Int) (H:Int) (z:(List Int)) (h:Int):Option ((Int×(List Int)×Int)⊕(((List Int)))) :=
  if (decide (h<(a1.length:Int)))=true then ((at_ a1 h).bind fun I=>((loop (fun s=>gY C G I s.1 s.2.1 s.2.2) (H,z,0)).bind fun t=>qI h t.1 t.2)) else (some (.inr (z)))
def tF (a0:(List Int)) (a1:(List Int)) (C:(Int)) (h:Int):Option ((List Int)) :=
  (pJ a0 C).bind fun G=>(ltt (IntKind.u8.wrap h) fun H=>(chk (G.length+[H].length≤140737488355328 / 1) (ltt (IntKind.i64.wrap ((a1.length:Int) * h)) fun I=>(ltt (IntKind.i64.wrap (I+7)) fun J=>(ltt (IntKind.i64.wrap (J.tdiv 8)) fun z=>(chk (0≤z∧(1:Int) * z≤140737488355328) ((loop (fun s=>gU a1 C h s.1 s.2.1 s.2.2) (0,List.replicate z.toNat (0:Int),0)).bind fun t=>qB G H t)))))))
def qH (a0:(List Int)) (a1:(List Int)) (h:(Int)) (z:Int):Option ((List Int)) :=
  tF a0 a1 h z
def iA (a1:(List Int)) (G:(Int)) (h:Int) (z:Int):Option ((Int×Int)⊕((Int))) :=
  if (decide (z<(a1.length:Int)))=true then ((at_ a1 z).bind fun H=>(ltt (IntKind.i64.wrap (H - G)) fun I=>(ltt (IntKind.u64.wrap I) fun J=>((wX J).bind fun C=>(ltt (IntKind.i64.wrap (z+1)) fun S=>(some (.inl (if h<C then C else h,S)))))))) else (some (.inr (h)))
def rT (a0:(List Int)) (a1:(List Int)):Option ((List Int)) :=
  if ((a1.length:Int)==0)=true then (some a0) else ((iG a1).bind fun h=>((loop (fun s=>iA a1 h s.1 s.2) (0,0)).bind fun t=>qH a0 a1 h t))
def gW (h:(List Int)):Option ((List Int)) :=
  some h
def vL (h:(List Int)):Option ((List Int)) :=
  gW h
def sJ (h:(List Int)):Option ((List Int)) :=
  vL h
def jW (a1:(List Int)) (z:(List Int)) (h:Int):Option (((List Int)×Int)⊕(((List Int)))) :=
  if (decide (h<(a1.length:Int)))=true then ((at_ a1 h).bind fun C=>((pJ z C).bind fun G=>(ltt (IntKind.i64.wrap (h+1)) fun H=>(some (.inl (G,H)))))) else (some (.inr (z)))
def vK (h:(List Int)):Option ((List Int)) :=
  gW h
def sH (h:(List Int)):Option ((List Int)) :=
  vK h
def jZ (a1:(List Int)) (z:(List Int)) (G:Int) (h:Int):Option (((List Int)×Int×Int)⊕(((List Int)))) :=
  if (decide (h<(a1.length:Int)))=true then ((at_ a1 h).bind fun C=>(ltt (IntKind.i64.wrap (C - G)) fun H=>((pJ z H).bind fun I=>(ltt (IntKind.i64.wrap (h+1)) fun J=>(some (.inl (I,C,J))))))) else (some (.inr (z)))
def vO (h:(List Int)):Option ((List Int)) :=
  gW h
def sR (h:(List Int)):Option ((List Int)) :=
  vO h
def vX (a1:(List Int)) (C:(List Int)) (h:Int) (z:Int):Option (((List Int)×Int)⊕(((List Int)))) :=
  (at_ a1 h).bind fun G=>((pJ C G).bind fun H=>(ltt (IntKind.i64.wrap (z - 1)) fun I=>(ltt (IntKind.u64.wrap I) fun J=>((kD H J).bind fun S=>(ltt (IntKind.i64.wrap (h+z)) fun U=>(some (.inl (S,U))))))))
def rY (a1:(List Int)) (h:(List Int)) (z:Int) (C:Int):Option (((List Int)×Int)⊕(((List Int)))) :=
  vX a1 h z C
def nW (h:Int) (z:Bool):Option ((Int)⊕((Int))) :=
  if z=true then (ltt (IntKind.i64.wrap (h+1)) fun C=>(some (.inl (C)))) else (some (.inr (h)))
def lV (a1:(List Int)) (z:Int) (h:Int):Option ((Int)⊕((Int))) :=
  ltt (IntKind.i64.wrap (z+h)) fun C=>(if (decide (C<(a1.length:Int)))=true then ((at_ a1 C).bind fun G=>((at_ a1 z).bind fun H=>(nW h (G==H)))) else (nW h false))
def lK (a1:(List Int)) (z:(List Int)) (h:Int):Option (((List Int)×Int)⊕(((List Int)))) :=
  if (decide (h<(a1.length:Int)))=true then ((loop (fun s=>lV a1 h s) (1)).bind fun t=>rY a1 z h t) else (some (.inr (z)))
def tL (a0:Int) (a1:(List Int)):Option ((List Int)) :=
  ltt (IntKind.u64.wrap (a1.length:Int)) fun z=>((kD [a0] z).bind fun h=>(if (a0==0)=true then ((loop (fun s=>jW a1 s.1 s.2) (h,0)).bind fun t=>sJ t) else (if (a0==1)=true then ((loop (fun s=>jZ a1 s.1 s.2.1 s.2.2) (h,0,0)).bind fun t=>sH t) else (if (a0==2)=true then ((loop (fun s=>lK a1 s.1 s.2) (h,0)).bind fun t=>sR t) else (if (a0==3)=true then ((rT h a1).bind fun C=>(gW C)) else (gW h))))))
def wQ (h:(List Int)):Option ((List Int)) :=
  some h
def tV (h:(List Int)):Option ((List Int)) :=
  wQ h
def pK (h:Int) (z:(List Int)):Option (((List Int)×Int)⊕(((List Int)))) :=
  ltt (IntKind.u8.wrap (h+1)) fun C=>(some (.inl (z,C)))
def fK (a0:(List Int)) (z:(List Int)) (h:Int):Option (((List Int)×Int)⊕(((List Int)))) :=
  if (decide (h≤3))=true then ((tL h a0).bind fun C=>(if (decide ((C.length:Int)<(z.length:Int)))=true then (pK h C) else (pK h z))) else (some (.inr (z)))
def lU (a0:(List Int)):Option ((List Int)) :=
  (tL 0 a0).bind fun h=>((loop (fun s=>fK a0 s.1 s.2) (h,1)).bind fun t=>tV t)
end
section
variable {r:World} {L:List HP} {w:World} {Z:Nat→Prop} {wz:World}
theorem rC {a0 a1 A0 n0 c0 y} (G:kD a0 a1=some y) (X:SH r (own (kI .u8) 5 A0 n0 c0 a0::L) w) :
  Ret Tryz.prog 88 #[.slice A0 n0 c0,.int .u64 a1] w fun v w'=>∃ (B0:Option Addr) (m0:Nat) (d0:Nat),v=.slice B0 m0 d0∧SH r (own (kI .u8) 5 B0 m0 d0 y::L) w':=by
 refine enter Tryz.func88 rfl Tryz.ntmps88 [(0,_),(1,_)] rfl (by simp) ?_
 intro U J Qf hQ hQn
 unfold kD at G
 refine nz 1 J rfl fun U J=>wp_seq_k fun e2 b6=>aA fun b3 b7=>?_
 have hb1:∀a5 a6,tG a5 a6=some y→∀a7 a8 a9 U w,FR 20 [] U [(0,.slice a7 a8 a9),(1,.int .u64 a6)]→SH r (own (kI .u8) 5 a7 a8 a9 a5::L) w→b3 U w:=by
  intro a5 a6 G a7 a8 a9 U w J X
  unfold tG at G
  refine b7 _ _ (b6 _ _ ?_)
  refine ws fun e3 b8=>xk 2 J rfl fun U J=>fU G J (aS mD uu5 rfl (J.ev rfl)) rfl fun C _ U J G=>gV (d:=(kI .u8)) (e:=5) (ps:=#[(0,.int .u8 C)]) (cells:=[.int .u8 C]) (xs:=[C]) (fun w=>by kernel_rfl) rfl ⟨[.int .u8 C],_,rfl,rfl,rfl⟩ J X (fun e4 U w X J=>?_) rfl
  obtain⟨b9,G⟩:=aB G
  have hr:=X.rd 0 rfl
  refine gG 1 aC8 fC J X hr.1 hr.2.1 b9 rfl (fun c3 c4 c5 U w X J=>?_) rfl
  refine x_m J rfl fun U J=>wn (b8 _ _ ?_)
  replace X:=X.drop 1
  cases G
  refine wp_ret (hQ _ _ ?_)
  exact lv Tryz.results88 J rfl ⟨c3,c4,c5,rfl,X⟩
 obtain⟨c6,c7,G⟩:=bnd G
 have c8:∀h z,(h,z)=c6→∀H I S U w,FR 20 [] U [(0,.slice H I S),(1,.int .u64 z)]→SH r (own (kI .u8) 5 H I S h::L) w→b3 U w:=by
  intro h z ht H I S U w J X
  subst ht
  replace G:qG h z=some y:=G
  unfold qG at G
  exact hb1 h z G H I S U w (J.sub _ rfl) X
 refine aD c7 (fun s U w=>∃Y a2 a3,FR 20 [] U [(0,.slice Y a2 a3),(1,.int .u64 s.2)]∧SH r (own (kI .u8) 5 Y a2 a3 s.1::L) w) ⟨A0,n0,c0,J.sub _ rfl,X⟩ ?_
 intro e5 c9 d1 G d2 d3 U w hLab
 obtain⟨b4,b5⟩:=c9
 replace G:kU b4 b5=some d1:=G
 unfold kU at G
 try dsimp only at hLab
 obtain⟨Y,a2,a3,J,X⟩:=hLab
 refine wp_seq_k fun e6 d4=>nz 2 J rfl fun U J=>bB J G rfl (fun d5 G=>?_) fun d5 G=>?_
 ·refine wp_skip (d4 _ _ ?_)
  refine wp_seq_k fun e7 d6=>aA fun e8 d7=>aC (xk 2 J rfl fun U J=>?_)
  refine fU G J (aS mD uu5 rfl (J.ev rfl)) rfl fun e9 _ U J G=>x_l G J rfl fun a4 _ U J G=>gV (d:=(kI .u8)) (e:=5) (ps:=#[(0,.int .u8 a4)]) (cells:=[.int .u8 a4]) (xs:=[a4]) (fun w=>by kernel_rfl) rfl ⟨[.int .u8 a4],_,rfl,rfl,rfl⟩ J X (fun f2 U w X J=>?_) rfl
  obtain⟨d8,G⟩:=aB G
  have hr:=X.rd 0 rfl
  refine gG 1 aC8 fC J X hr.1 hr.2.1 d8 rfl (fun d9 e0 e1 U w X J=>?_) rfl
  refine x_m J rfl fun U J=>wpList_nil (d7 _ _ ?_)
  refine d6 _ _ (aC ?_)
  refine x_m J rfl fun U J=>fU G J (qW rfl (J.ev rfl) (J.ev rfl) (by decide)) rfl fun f3 _ U J G=>x_m J rfl fun U J=>wpList_nil ?_
  replace X:=X.drop 1
  cases G
  exact⟨_,d2 _ rfl,d9,e0,e1,J.sub _ rfl,X⟩
 cases G
 exact wp_exit (c8 b4 b5 (d3 _ rfl) Y a2 a3 U w (J.sub _ rfl) X)
theorem vS {a0 a1 A0 n0 c0 y} (G:pJ a0 a1=some y) (X:SH r (own (kI .u8) 5 A0 n0 c0 a0::L) w) :
  Ret Tryz.prog 110 #[.slice A0 n0 c0,.int .i64 a1] w fun v w'=>∃ (B0:Option Addr) (m0:Nat) (d0:Nat),v=.slice B0 m0 d0∧SH r (own (kI .u8) 5 B0 m0 d0 y::L) w':=by
 refine enter Tryz.func110 rfl Tryz.ntmps110 [(0,_),(1,_)] rfl (by simp) ?_
 intro U J Qf hQ hQn
 unfold pJ at G
 refine nz 1 J rfl fun U J=>ws fun S h=>xk 2 J rfl fun U J=>fU G J (aFv rfl (J.ev rfl) (J.ev rfl) (by decide)) rfl fun Y _ U J G=>fU G J (aS uu2 mD rfl (J.ev rfl)) rfl fun a2 _ U J G=>x_m J rfl fun U J=>fU G J (qW rfl (J.ev rfl) (J.ev rfl) (by decide)) rfl fun a3 _ U J G=>fU G J (aS uu2 mD rfl (J.ev rfl)) rfl fun a4 _ U J G=>x_l G J rfl fun a5 _ U J G=>?_
 obtain⟨a6,z,G⟩:=bnd G
 refine x_c aQ4 J rfl (rC z X :) fun v U w hR J=>?_
 obtain⟨C,H,I,rfl,X⟩:=hR
 refine x_m J rfl fun U J=>wn (h _ _ ?_)
 cases G
 refine wp_ret (hQ _ _ ?_)
 exact lv Tryz.results110 J rfl ⟨C,H,I,rfl,X⟩
theorem aA3 {a0 a1 A0 n0 c0 y} (G:pA a0 a1=some y) (X:SH r (own (kI .u8) 5 A0 n0 c0 a0::L) w) :
  Ret Tryz.prog 69 #[.slice A0 n0 c0,str a1] w fun v w'=>∃ (B0:Option Addr) (m0:Nat) (d0:Nat),v=.slice B0 m0 d0∧SH r (own (kI .u8) 5 B0 m0 d0 y::L) w':=by
 refine enter Tryz.func69 rfl Tryz.ntmps69 [(0,_),(1,_)] rfl (by simp) ?_
 intro U J Qf hQ hQn
 unfold pA at G
 refine nz 1 J rfl fun U J=>ws fun Y h=>xk 2 J rfl fun U J=>x_v J (aBp uu9 rfl (J.ev rfl)) rfl fun U J=>fU G J (aS uu3 mD rfl (J.ev rfl)) rfl fun a2 _ U J G=>?_
 obtain⟨a3,z,G⟩:=bnd G
 refine x_c aQ4 J rfl (rC z X :) fun v U w hR J=>?_
 obtain⟨a4,a5,a6,rfl,X⟩:=hR
 refine x_m J rfl fun U J=>?_
 obtain⟨C,G⟩:=aB G
 refine aSh 0 aC8 fC uu9 J X C rfl (fun H I S U w X J=>?_) rfl
 refine x_m J rfl fun U J=>wn (h _ _ ?_)
 cases G
 refine wp_ret (hQ _ _ ?_)
 exact lv Tryz.results69 J rfl ⟨H,I,S,rfl,X⟩
theorem xL {a0 A0 n0 c0 y} (G:iG a0=some y) (X:SH r (L) w) (ha0:RdL L (kI .i64) A0 n0 c0 a0) :
  Ret Tryz.prog 130 #[.slice A0 n0 c0] w fun v w'=>v=.int .i64 y∧SH r (L) w':=by
 refine enter Tryz.func130 rfl Tryz.ntmps130 [(0,_)] rfl (by simp) ?_
 intro U J Qf hQ hQn
 unfold iG at G
 refine nz 1 J rfl fun U J=>wp_seq_k fun c7 Y=>ws fun c8 a1=>xk 1 J rfl fun U J=>aX bM (X.rdl 0 ha0 rfl).2.1 J (fun U J=>?_) rfl
 refine nk 1 J rfl fun U J=>a1 _ _ (bB J G rfl (fun a2 G=>?_) fun a2 G=>?_)
 ·refine aC (x_v J (aMm uu9 rfl rfl (J.ev rfl)) rfl fun U J=>?_)
  cases G
 refine wp_skip (Y _ _ ?_)
 refine ws fun c9 a3=>xk 1 J rfl fun U J=>?_
 obtain⟨d0,C,G⟩:=bnd G
 refine fO bM sz2 (X.rdl 0 ha0 rfl) C J (fun U J=>?_) rfl
 obtain⟨cs,hV,a4⟩:=el (X.rdl 0 ha0 rfl) C
 obtain rfl:=hV
 refine aI uu2 (a4 0 _ rfl) J (fun U J=>?_) rfl
 refine x_m J rfl fun U J=>wn (a3 _ _ ?_)
 refine wp_seq_k fun d1 a5=>nz 1 J rfl fun U J=>aA fun H a6=>?_
 have hb1:∀z,lI z=some y→∀U w,FR 25 [] U [(3,.int .i64 z)]→SH r (L) w→H U w:=by
  intro z G U w J X
  unfold lI at G
  refine a6 _ _ (a5 _ _ ?_)
  refine nz 2 J rfl fun U J=>?_
  cases G
  refine wp_ret (hQ _ _ ?_)
  exact lv Tryz.results130 J rfl ⟨rfl,X⟩
 obtain⟨a7,a8,G⟩:=bnd G
 have a9:∀h,(h)=a7→∀U w,FR 25 [] U [(3,.int .i64 h)]→SH r (L) w→H U w:=by
  intro h ht U w J X
  subst ht
  replace G:jU h=some y:=G
  unfold jU at G
  exact hb1 h G U w (J.sub _ rfl) X
 refine aD a8 (fun s U w=>FR 25 [] U [(0,.slice A0 n0 c0),(3,.int .i64 s.1),(4,.int .i64 s.2)]∧SH r (L) w) ⟨J.sub _ rfl,X⟩ ?_
 intro d2 b3 b4 G b5 b6 U w hLab
 obtain⟨I,b7⟩:=b3
 replace G:cJ a0 I b7=some b4:=G
 unfold cJ at G
 try dsimp only at hLab
 obtain⟨J,X⟩:=hLab
 refine wp_seq_k fun d3 b8=>ws fun d4 b9=>xk 2 J rfl fun U J=>aX bM (X.rdl 0 ha0 rfl).2.1 J (fun U J=>?_) rfl
 refine nk 1 J rfl fun U J=>b9 _ _ (bB J G rfl (fun c3 G=>?_) fun c3 G=>?_)
 ·refine wp_skip (b8 _ _ ?_)
  refine wp_seq_k fun d5 c4=>aA fun d6 c5=>aC (xk 3 J rfl fun U J=>?_)
  obtain⟨d7,S,G⟩:=bnd G
  refine fO bM sz2 (X.rdl 0 ha0 rfl) S J (fun U J=>?_) rfl
  obtain⟨cs,hV,c6⟩:=el (X.rdl 0 ha0 rfl) S
  obtain rfl:=hV
  refine aI uu2 (c6 0 _ rfl) J (fun U J=>?_) rfl
  refine x_v J (aIf rfl (J.ev rfl) (J.ev rfl)) rfl fun U J=>x_m J rfl fun U J=>wpList_nil (c5 _ _ ?_)
  refine c4 _ _ (aC ?_)
  refine x_m J rfl fun U J=>x_l G J rfl fun d8 _ U J G=>x_m J rfl fun U J=>wpList_nil ?_
  cases G
  exact⟨_,b5 _ rfl,J.sub _ rfl,X⟩
 cases G
 exact wp_exit (a9 I (b6 _ rfl) U w (J.sub _ rfl) X)
theorem aJe {a0 y} (G:wX a0=some y) (X:SH r (L) w) :
  Ret Tryz.prog 126 #[.int .u64 a0] w fun v w'=>v=.int .i64 y∧SH r (L) w':=by
 refine enter Tryz.func126 rfl Tryz.ntmps126 [(0,_)] rfl (by simp) ?_
 intro U J Qf hQ hQn
 unfold wX at G
 refine nz 1 J rfl fun U J=>wp_seq_k fun a1 a2=>?_
 have hj1:∀h z,oI h z=some y→∀U w,FR 25 [] U [(0,.int .u64 h),(2,.int .i64 z)]→SH r (L) w→a1 U w:=by
  intro h z G U w J X
  unfold oI at G
  refine a2 _ _ (wp_seq_k fun a3 a4=>?_)
  have hj2:∀C H,oG C H=some y→∀U w,FR 25 [] U [(0,.int .u64 C),(2,.int .i64 H)]→SH r (L) w→a3 U w:=by
   intro C H G U w J X
   unfold oG at G
   refine a4 _ _ (wp_seq_k fun a5 a6=>?_)
   have hj3:∀I S,oJ I S=some y→∀U w,FR 25 [] U [(0,.int .u64 I),(2,.int .i64 S)]→SH r (L) w→a5 U w:=by
    intro I S G U w J X
    unfold oJ at G
    refine a6 _ _ (ws fun c4 a7=>?_)
    refine xk 2 J rfl fun U J=>fU G J (aS mD uu5 rfl (J.ev rfl)) rfl fun c5 _ U J G=>?_
    obtain⟨c6,Y,G⟩:=bnd G
    refine x_v J (aJq uu9 rfl (J.ev rfl) (J.ev rfl) (dQ Y).1 (dQ Y).2.2) rfl fun U J=>fU G J (aS uu5 uu3 rfl (J.ev rfl)) rfl fun c7 _ U J G=>x_l G J rfl fun c8 _ U J G=>x_m J rfl fun U J=>wn (a7 _ _ ?_)
    cases G
    refine wp_ret (hQ _ _ ?_)
    exact lv Tryz.results126 J rfl ⟨rfl,X⟩
   refine nz 2 J rfl fun U J=>bB J G rfl (fun a8 G=>?_) fun a8 G=>?_
   ·refine ws fun c9 a9=>xk 1 J rfl fun U J=>fU G J (qW rfl (J.ev rfl) (J.ev rfl) (by decide)) rfl fun b3 _ U J G=>x_m J rfl fun U J=>wn (a9 _ _ ?_)
    refine aC (x_m J rfl fun U J=>?_)
    exact x_l G J rfl fun b4 _ U J G=>x_m J rfl fun U J=>wpList_nil (hj3 b3 b4 G U w (J.sub _ rfl) X)
   exact wp_skip (hj3 C H G U w (J.sub _ rfl) X)
  refine nz 2 J rfl fun U J=>bB J G rfl (fun b5 G=>?_) fun b5 G=>?_
  ·refine ws fun d0 b6=>xk 1 J rfl fun U J=>fU G J (qW rfl (J.ev rfl) (J.ev rfl) (by decide)) rfl fun b7 _ U J G=>x_m J rfl fun U J=>wn (b6 _ _ ?_)
   refine aC (x_m J rfl fun U J=>?_)
   exact x_l G J rfl fun b8 _ U J G=>x_m J rfl fun U J=>wpList_nil (hj2 b7 b8 G U w (J.sub _ rfl) X)
  exact wp_skip (hj2 h z G U w (J.sub _ rfl) X)
 refine nz 2 J rfl fun U J=>bB J G rfl (fun b9 G=>?_) fun b9 G=>?_
 ·refine ws fun d1 c0=>xk 1 J rfl fun U J=>fU G J (qW rfl (J.ev rfl) (J.ev rfl) (by decide)) rfl fun c3 _ U J G=>x_m J rfl fun U J=>wn (c0 _ _ ?_)
  refine aC (x_m J rfl fun U J=>?_)
  exact wpList_nil (hj1 c3 32 G U w (J.sub _ rfl) X)
 exact wp_skip (hj1 a0 0 G U w (J.sub _ rfl) X)
theorem aGs {a0 a1 A0 n0 c0 A1 n1 c1 y} (G:rT a0 a1=some y) (X:SH r (own (kI .u8) 5 A0 n0 c0 a0::L) w) (ha1:RdL L (kI .i64) A1 n1 c1 a1) :
  Ret Tryz.prog 111 #[.slice A0 n0 c0,.slice A1 n1 c1] w fun v w'=>∃ (B0:Option Addr) (m0:Nat) (d0:Nat),v=.slice B0 m0 d0∧SH r (own (kI .u8) 5 B0 m0 d0 y::L) w':=by
 refine enter Tryz.func111 rfl Tryz.ntmps111 [(0,_),(1,_)] rfl (by simp) ?_
 intro U J Qf hQ hQn
 unfold rT at G
 refine nz 1 J rfl fun U J=>wp_seq_k fun l9 d5=>ws fun m1 d6=>xk 1 J rfl fun U J=>aX bM (X.rdl 1 ha1 rfl).2.1 J (fun U J=>?_) rfl
 refine nk 1 J rfl fun U J=>d6 _ _ (bB J G rfl (fun d7 G=>?_) fun d7 G=>?_)
 ·refine nz 2 J rfl fun U J=>?_
  cases G
  refine wp_ret (hQ _ _ ?_)
  exact lv Tryz.results111 J rfl ⟨A0,n0,c0,rfl,X⟩
 refine wp_skip (d5 _ _ ?_)
 refine ws fun m2 d8=>xk 1 J rfl fun U J=>?_
 obtain⟨H,d9,G⟩:=bnd G
 refine x_c aZy J rfl (xL d9 X (RdL.sfx 1 rfl ha1) :) fun v U w hR J=>?_
 obtain⟨rfl,X⟩:=hR
 refine x_m J rfl fun U J=>wn (d8 _ _ ?_)
 refine nz 1 J rfl fun U J=>wp_seq_k fun m3 e0=>ws fun m4 e1=>xk 1 J rfl fun U J=>aX bM (X.rdl 1 ha1 rfl).2.1 J (fun U J=>?_) rfl
 refine x_m J rfl fun U J=>wn (e1 _ _ ?_)
 refine aA fun c5 e2=>?_
 have hb1:∀a3,tF a0 a1 H a3=some y→∀U w,FR 83 [] U [(0,.slice A0 n0 c0),(1,.slice A1 n1 c1),(5,.int .i64 H),(6,.int .i64 a3)]→SH r (own (kI .u8) 5 A0 n0 c0 a0::L) w→c5 U w:=by
  intro a3 G U w J X
  unfold tF at G
  refine e2 _ _ (e0 _ _ ?_)
  refine ws fun m5 e3=>xk 2 J rfl fun U J=>?_
  obtain⟨a4,e4,G⟩:=bnd G
  refine x_c aM1 J rfl (vS e4 X :) fun v U w hR J=>?_
  obtain⟨m6,m7,m8,rfl,X⟩:=hR
  refine x_m J rfl fun U J=>fU G J (aS uu3 uu5 rfl (J.ev rfl)) rfl fun I _ U J G=>gV (d:=(kI .u8)) (e:=5) (ps:=#[(0,.int .u8 I)]) (cells:=[.int .u8 I]) (xs:=[I]) (fun w=>by kernel_rfl) rfl ⟨[.int .u8 I],_,rfl,rfl,rfl⟩ J X (fun m9 U w X J=>?_) rfl
  obtain⟨e5,G⟩:=aB G
  have hr:=X.rd 0 rfl
  refine gG 1 aC8 fC J X hr.1 hr.2.1 e5 rfl (fun S Y a2 U w X J=>?_) rfl
  refine x_m J rfl fun U J=>wn (e3 _ _ ?_)
  refine nz 1 J rfl fun U J=>ws fun n3 e6=>xk 1 J rfl fun U J=>aX bM (X.rdl 2 ha1 rfl).2.1 J (fun U J=>?_) rfl
  refine x_m J rfl fun U J=>x_l G J rfl fun n4 _ U J G=>x_l G J rfl fun n5 _ U J G=>fU G J (aDq rfl (J.ev rfl) (J.ev rfl) (by decide)) rfl fun z _ U J G=>?_
  obtain⟨e7,G⟩:=aB G
  refine aEz (d:=(kI .u8)) (bytes:=1) 0 aC8 rfl fC e7 J X (fun C U w X J=>?_) rfl
  refine x_m J rfl fun U J=>wn (e6 _ _ ?_)
  refine wp_seq_k fun n6 e8=>ws fun n7 e9=>xk 1 J rfl fun U J=>aX bM (X.rdl 3 ha1 rfl).2.1 J (fun U J=>?_) rfl
  refine x_m J rfl fun U J=>wn (e9 _ _ ?_)
  refine aA fun c6 f2=>?_
  have hb2:∀b5,sT a4 I b5=some y→∀U w,FR 83 [] U [(0,.slice S Y a2),(10,.slice (some ⟨C,0,none⟩) z.toNat z.toNat)]→SH r (own (kI .u8) 5 S Y a2 (a4++[I])::own (kI .u8) 5 (some ⟨C,0,none⟩) z.toNat z.toNat b5::L) w→c6 U w:=by
   intro b5 G U w J X
   unfold sT at G
   refine f2 _ _ (e8 _ _ ?_)
   refine ws fun n8 f3=>xk 2 J rfl fun U J=>?_
   obtain⟨f4,G⟩:=aB G
   have hr:=X.rd 1 rfl
   refine gG 0 aC8 fC J X hr.1 hr.2.1 f4 rfl (fun f5 f6 f7 U w X J=>?_) rfl
   refine x_m J rfl fun U J=>wn (f3 _ _ ?_)
   replace X:=X.drop 1
   cases G
   refine wp_ret (hQ _ _ ?_)
   exact lv Tryz.results111 J rfl ⟨f5,f6,f7,rfl,X⟩
  obtain⟨f8,f9,G⟩:=bnd G
  have g0:∀a6,(a6)=f8→∀U w,FR 83 [] U [(0,.slice S Y a2),(10,.slice (some ⟨C,0,none⟩) z.toNat z.toNat)]→SH r (own (kI .u8) 5 S Y a2 (a4++[I])::own (kI .u8) 5 (some ⟨C,0,none⟩) z.toNat z.toNat a6::L) w→c6 U w:=by
   intro a6 ht U w J X
   subst ht
   replace G:qB a4 I a6=some y:=G
   unfold qB at G
   exact hb2 a6 G U w (J.sub _ rfl) X
  replace X:=X.drop 2 |>.pk 1
  refine aD f9 (fun s U w=>FR 83 [] U [(0,.slice S Y a2),(5,.int .i64 H),(6,.int .i64 a3),(9,.int .i64 s.1),(10,.slice (some ⟨C,0,none⟩) z.toNat z.toNat),(48,.slice A1 n1 c1),(49,.int .i64 (a1.length:Int)),(50,.int .i64 s.2.2)]∧SH r (own (kI .u8) 5 S Y a2 (a4++[I])::own (kI .u8) 5 (some ⟨C,0,none⟩) z.toNat z.toNat s.2.1::L) w) ⟨J.sub _ rfl,X⟩ ?_
  intro n9 g1 b6 G g2 g3 U w hLab
  obtain⟨g4,c7,a5⟩:=g1
  replace G:gU a1 H a3 g4 c7 a5=some b6:=G
  unfold gU at G
  try dsimp only at hLab
  obtain⟨J,X⟩:=hLab
  refine nz 1 J rfl fun U J=>wp_seq_k fun o0 g5=>bB J G rfl (fun g6 G=>?_) fun g6 G=>?_
  ·refine wp_skip (g5 _ _ ?_)
   refine wp_seq_k fun o1 g7=>aA fun o2 g8=>ws fun o3 g9=>?_
   obtain⟨b7,c8,G⟩:=bnd G
   refine fO bM sz2 (X.rdl 2 ha1 rfl) c8 J (fun U J=>?_) rfl
   obtain⟨cs,hV,h0⟩:=el (X.rdl 2 ha1 rfl) c8
   obtain rfl:=hV
   refine aI uu2 (h0 0 _ rfl) J (fun U J=>?_) rfl
   refine x_m J rfl fun U J=>wn (g9 _ _ ?_)
   refine nz 2 J rfl fun U J=>aA fun c9 h1=>?_
   have hb3:∀b8 b9,sV a5 b8 b9=some b6→∀U w,FR 83 [] U [(0,.slice S Y a2),(5,.int .i64 H),(6,.int .i64 a3),(9,.int .i64 b8),(10,.slice (some ⟨C,0,none⟩) z.toNat z.toNat),(48,.slice A1 n1 c1),(49,.int .i64 (a1.length:Int)),(50,.int .i64 a5)]→SH r (own (kI .u8) 5 S Y a2 (a4++[I])::own (kI .u8) 5 (some ⟨C,0,none⟩) z.toNat z.toNat b9::L) w→c9 U w:=by
    intro b8 b9 G U w J X
    unfold sV at G
    refine h1 _ _ (g8 _ _ ?_)
    refine g7 _ _ (aC ?_)
    refine x_l G J rfl fun o4 _ U J G=>x_m J rfl fun U J=>wpList_nil ?_
    cases G
    exact⟨_,g2 _ rfl,J.sub _ rfl,X⟩
   obtain⟨h2,h3,G⟩:=bnd G
   have h4:∀a7 a8,(a7,a8)=h2→∀U w,FR 83 [] U [(0,.slice S Y a2),(5,.int .i64 H),(6,.int .i64 a3),(9,.int .i64 a7),(10,.slice (some ⟨C,0,none⟩) z.toNat z.toNat),(48,.slice A1 n1 c1),(49,.int .i64 (a1.length:Int)),(50,.int .i64 a5)]→SH r (own (kI .u8) 5 S Y a2 (a4++[I])::own (kI .u8) 5 (some ⟨C,0,none⟩) z.toNat z.toNat a8::L) w→c9 U w:=by
    intro a7 a8 ht U w J X
    subst ht
    replace G:qI a5 a7 a8=some b6:=G
    unfold qI at G
    exact hb3 a7 a8 G U w (J.sub _ rfl) X
   refine aD h3 (fun s U w=>FR 83 [] U [(0,.slice S Y a2),(5,.int .i64 H),(6,.int .i64 a3),(9,.int .i64 s.1),(10,.slice (some ⟨C,0,none⟩) z.toNat z.toNat),(12,.int .i64 b7),(48,.slice A1 n1 c1),(49,.int .i64 (a1.length:Int)),(50,.int .i64 a5),(54,.int .i64 a3),(55,.int .i64 s.2.2)]∧SH r (own (kI .u8) 5 S Y a2 (a4++[I])::own (kI .u8) 5 (some ⟨C,0,none⟩) z.toNat z.toNat s.2.1::L) w) ⟨J.sub _ rfl,X⟩ ?_
   intro o5 h5 h6 G h7 h8 U w hLab
   obtain⟨b3,d1,d2⟩:=h5
   replace G:gY H a3 b7 b3 d1 d2=some h6:=G
   unfold gY at G
   try dsimp only at hLab
   obtain⟨J,X⟩:=hLab
   refine nz 1 J rfl fun U J=>wp_seq_k fun o6 h9=>bB J G rfl (fun i0 G=>?_) fun i0 G=>?_
   ·refine wp_skip (h9 _ _ ?_)
    refine wp_seq_k fun o7 i1=>aA fun o8 i2=>nz 2 J rfl fun U J=>wp_seq_k fun o9 i3=>cN [0,0,2,7,15,0,0,96,224,0,992,2016,4064,0,8192,32736,65535,131071,262143] [18] rfl J X (by kernel_rfl) (by kernel_rfl) (by kernel_rfl) (by kernel_rfl) fun w X=>?_
    obtain⟨c3,i4,G⟩:=nZ G
    obtain⟨i5,b4,G⟩:=bnd G
    obtain⟨cs,hV,i6⟩:=el (X.rd 1 rfl) b4
    obtain rfl:=hV
    obtain⟨i7,i8,G⟩:=nZ G
    obtain⟨i9,j0,G⟩:=nZ G
    obtain⟨j1,G⟩:=aB G
    obtain⟨j2,j3,G⟩:=nZ G
    obtain⟨j4,j5,G⟩:=nZ G
    obtain⟨j6,j7,G⟩:=nZ G
    obtain⟨j8,j9,G⟩:=nZ G
    obtain⟨k0,G⟩:=aB G
    obtain⟨k1,k2,G⟩:=nZ G
    obtain⟨c4,k3,G⟩:=nZ G
    refine⟨[(0,.slice (some ⟨C,0,none⟩) z.toNat z.toNat),(1,.int .i64 b3),(2,.int .i64 c3),(3,.pointer (some (ea (some ⟨C,0,none⟩) (c3.toNat * 1)))),(4,.int .u8 i5),(5,.int .i64 b7),(6,.int .i64 H),(7,.int .i64 i7),(8,.int .u64 i9),(9,.int .i64 d2),(10,.int .u64 j2),(11,.int .u64 j4),(12,.int .u8 j6),(13,.int .i64 b3),(14,.int .i64 j8),(15,.int .u8 k1),(16,.int .u8 c4),(17,.pointer (some (ea (some ⟨C,0,none⟩) (c3.toNat * 1))))],?_⟩
    refine dF [0,1,2,3,4,5,6,7,8,9,10,11,12,13,14,15,16,17] [18] (by kernel_rfl) ⟨pm rfl,pm rfl,pt [(59,_)] rfl fun U J=>jY i4 (aDq rfl (J.ev rfl) (J.ev rfl) (by decide)),pt [(58,_),(60,_)] rfl (fun U J=>fH fC sz5 (X.rd 1 rfl) b4 J rfl rfl rfl),pt [(61,_)] rfl (fun U J=>cM uu5 (i6 0 _ rfl) J rfl rfl rfl),pm rfl,pm rfl,pt [(63,_),(64,_)] rfl fun U J=>jY i8 (oY rfl (J.ev rfl) (J.ev rfl)),pt [(65,_)] rfl fun U J=>jY j0 (aS uu2 mD rfl (J.ev rfl)),pm rfl,pt [(66,_),(67,_)] rfl fun U J=>jY j3 (qW rfl (J.ev rfl) (J.ev rfl) j1),pt [(68,_)] rfl fun U J=>jY j5 (aUt rfl (J.ev rfl) (J.ev rfl)),pt [(69,_)] rfl fun U J=>jY j7 (aS mD uu5 rfl (J.ev rfl)),pm rfl,pt [(71,_)] rfl fun U J=>jY j9 (aDz rfl (J.ev rfl) (J.ev rfl) (by decide)),pt [(70,_),(72,_)] rfl fun U J=>jY k2 (aFv rfl (J.ev rfl) (J.ev rfl) k0),pt [(62,_),(73,_)] rfl fun U J=>jY k3 (aOw rfl (J.ev rfl) (J.ev rfl)),pt [(58,_),(60,_)] rfl (fun U J=>fH fC sz5 (X.rd 1 rfl) b4 J rfl rfl rfl),trivial⟩ ⟨et [(74,_),(75,_)] rfl (fun U J K hK=>?_),trivial⟩
    refine xE (z':=c4) (off:=0) (vs:=[.int .u8 c4]) 1 sz5 J X rfl (dQ b4).2.2 (fun c h=>by cases h; rfl) (fun  w X=>?_) rfl rfl rfl rfl rfl rfl
    refine hK _ [] _ rfl (gM [] (by kernel_rfl) trivial ⟨by kernel_rfl,by kernel_rfl⟩ [(0,_),(5,_),(6,_),(9,_),(10,_),(12,_),(48,_),(49,_),(50,_),(54,_),(55,_)] rfl (fun U J=>?_))
    refine i3 _ _ (aC ?_)
    refine x_m J rfl fun U J=>x_l G J rfl fun p0 _ U J G=>x_m J rfl fun U J=>wpList_nil (i2 _ _ ?_)
    refine i1 _ _ (aC ?_)
    refine x_l G J rfl fun p1 _ U J G=>x_m J rfl fun U J=>wpList_nil ?_
    replace X:=X.pk 1
    cases G
    exact⟨_,h7 _ rfl,J.sub _ rfl,X⟩
   cases G
   exact wp_exit (h4 b3 d1 (h8 _ rfl) U w (J.sub _ rfl) X)
  cases G
  exact wp_exit (g0 c7 (g3 _ rfl) U w (J.sub _ rfl) X)
 obtain⟨k4,k5,G⟩:=bnd G
 have k6:∀a9,(a9)=k4→∀U w,FR 83 [] U [(0,.slice A0 n0 c0),(1,.slice A1 n1 c1),(5,.int .i64 H),(6,.int .i64 a9)]→SH r (own (kI .u8) 5 A0 n0 c0 a0::L) w→c5 U w:=by
  intro a9 ht U w J X
  subst ht
  replace G:qH a0 a1 H a9=some y:=G
  unfold qH at G
  exact hb1 a9 G U w (J.sub _ rfl) X
 refine aD k5 (fun s U w=>FR 83 [] U [(0,.slice A0 n0 c0),(1,.slice A1 n1 c1),(5,.int .i64 H),(6,.int .i64 s.1),(20,.slice A1 n1 c1),(21,.int .i64 (a1.length:Int)),(22,.int .i64 s.2)]∧SH r (own (kI .u8) 5 A0 n0 c0 a0::L) w) ⟨J.sub _ rfl,X⟩ ?_
 intro p2 k7 k8 G k9 l0 U w hLab
 obtain⟨d3,l1⟩:=k7
 replace G:iA a1 H d3 l1=some k8:=G
 unfold iA at G
 try dsimp only at hLab
 obtain⟨J,X⟩:=hLab
 refine nz 1 J rfl fun U J=>wp_seq_k fun p3 l2=>bB J G rfl (fun l3 G=>?_) fun l3 G=>?_
 ·refine wp_skip (l2 _ _ ?_)
  refine wp_seq_k fun p4 l4=>aA fun p5 l5=>ws fun p6 l6=>?_
  obtain⟨p7,d4,G⟩:=bnd G
  refine fO bM sz2 (X.rdl 1 ha1 rfl) d4 J (fun U J=>?_) rfl
  obtain⟨cs,hV,l7⟩:=el (X.rdl 1 ha1 rfl) d4
  obtain rfl:=hV
  refine aI uu2 (l7 0 _ rfl) J (fun U J=>?_) rfl
  refine x_m J rfl fun U J=>wn (l6 _ _ ?_)
  refine aC (xk 3 J rfl fun U J=>?_)
  refine x_l G J rfl fun p8 _ U J G=>fU G J (aS uu2 mD rfl (J.ev rfl)) rfl fun p9 _ U J G=>?_
  obtain⟨q0,l8,G⟩:=bnd G
  refine x_c aZz J rfl (aJe l8 X :) fun v U w hR J=>?_
  obtain⟨rfl,X⟩:=hR
  refine x_v J (aV9 rfl (J.ev rfl) (J.ev rfl)) rfl fun U J=>x_m J rfl fun U J=>wpList_nil (l5 _ _ ?_)
  refine l4 _ _ (aC ?_)
  refine x_l G J rfl fun q1 _ U J G=>x_m J rfl fun U J=>wpList_nil ?_
  cases G
  exact⟨_,k9 _ rfl,J.sub _ rfl,X⟩
 cases G
 exact wp_exit (k6 d3 (l0 _ rfl) U w (J.sub _ rfl) X)
theorem aDh {a0 a1 A1 n1 c1 y} (G:tL a0 a1=some y) (X:SH r (L) w) (ha1:RdL L (kI .i64) A1 n1 c1 a1) :
  Ret Tryz.prog 84 #[.int .u8 a0,.slice A1 n1 c1] w fun v w'=>∃ (B0:Option Addr) (m0:Nat) (d0:Nat),v=.slice B0 m0 d0∧SH r (own (kI .u8) 5 B0 m0 d0 y::L) w':=by
 refine enter Tryz.func84 rfl Tryz.ntmps84 [(0,_),(1,_)] rfl (by simp) ?_
 intro U J Qf hQ hQn
 unfold tL at G
 refine nz 1 J rfl fun U J=>ws fun q0 g7=>xk 1 J rfl fun U J=>gV (d:=(kI .u8)) (e:=5) (ps:=#[(0,.int .u8 a0)]) (cells:=[.int .u8 a0]) (xs:=[a0]) (fun w=>by kernel_rfl) rfl ⟨[.int .u8 a0],_,rfl,rfl,rfl⟩ J X (fun q1 U w X J=>?_) rfl
 refine x_m J rfl fun U J=>aX bM (X.rdl 1 ha1 rfl).2.1 J (fun U J=>?_) rfl
 refine fU G J (aS uu3 mD rfl (J.ev rfl)) rfl fun q2 _ U J G=>?_
 obtain⟨g8,g9,G⟩:=bnd G
 refine x_c aQ4 J rfl (rC g9 X :) fun v U w hR J=>?_
 obtain⟨a9,b3,b4,rfl,X⟩:=hR
 refine x_m J rfl fun U J=>wn (g7 _ _ ?_)
 refine wp_seq_k fun q3 h0=>nz 1 J rfl fun U J=>aA fun h1 h2=>?_
 have hb1:∀e8,gW e8=some y→∀b5 b6 b7 U w,FR 93 [] U [(5,.slice b5 b6 b7)]→SH r (own (kI .u8) 5 b5 b6 b7 e8::L) w→h1 U w:=by
  intro e8 G b5 b6 b7 U w J X
  unfold gW at G
  refine h2 _ _ (h0 _ _ ?_)
  refine nz 2 J rfl fun U J=>?_
  cases G
  refine wp_ret (hQ _ _ ?_)
  exact lv Tryz.results84 J rfl ⟨b5,b6,b7,rfl,X⟩
 refine nz 2 J rfl fun U J=>bB J G rfl (fun h3 G=>?_) fun h3 G=>?_
 ·refine ws fun q4 h4=>xk 1 J rfl fun U J=>aX bM (X.rdl 1 ha1 rfl).2.1 J (fun U J=>?_) rfl
  refine x_m J rfl fun U J=>wn (h4 _ _ ?_)
  refine aA fun f5 h5=>?_
  have hb2:∀b8,vL b8=some y→∀b9 c0 c3 U w,FR 93 [] U [(5,.slice b9 c0 c3)]→SH r (own (kI .u8) 5 b9 c0 c3 b8::L) w→f5 U w:=by
   intro b8 G b9 c0 c3 U w J X
   unfold vL at G
   exact h5 _ _ (hb1 b8 G b9 c0 c3 U w (J.sub _ rfl) X)
  obtain⟨h6,h7,G⟩:=bnd G
  have h8:∀a5,(a5)=h6→∀c4 c5 c6 U w,FR 93 [] U [(5,.slice c4 c5 c6)]→SH r (own (kI .u8) 5 c4 c5 c6 a5::L) w→f5 U w:=by
   intro a5 ht c4 c5 c6 U w J X
   subst ht
   replace G:sJ a5=some y:=G
   unfold sJ at G
   exact hb2 a5 G c4 c5 c6 U w (J.sub _ rfl) X
  refine aD h7 (fun s U w=>∃c7 c8 c9,FR 93 [] U [(5,.slice c7 c8 c9),(22,.slice A1 n1 c1),(23,.int .i64 (a1.length:Int)),(24,.int .i64 s.2)]∧SH r (own (kI .u8) 5 c7 c8 c9 s.1::L) w) ⟨a9,b3,b4,J.sub _ rfl,X⟩ ?_
  intro q5 h9 i0 G i1 i2 U w hLab
  obtain⟨f6,i3⟩:=h9
  replace G:jW a1 f6 i3=some i0:=G
  unfold jW at G
  try dsimp only at hLab
  obtain⟨c7,c8,c9,J,X⟩:=hLab
  refine nz 1 J rfl fun U J=>wp_seq_k fun q6 i4=>bB J G rfl (fun i5 G=>?_) fun i5 G=>?_
  ·refine wp_skip (i4 _ _ ?_)
   refine wp_seq_k fun q7 i6=>aA fun q8 i7=>ws fun q9 i8=>?_
   obtain⟨r0,f7,G⟩:=bnd G
   refine fO bM sz2 (X.rdl 1 ha1 rfl) f7 J (fun U J=>?_) rfl
   obtain⟨cs,hV,i9⟩:=el (X.rdl 1 ha1 rfl) f7
   obtain rfl:=hV
   refine aI uu2 (i9 0 _ rfl) J (fun U J=>?_) rfl
   refine x_m J rfl fun U J=>wn (i8 _ _ ?_)
   refine aC (xk 2 J rfl fun U J=>?_)
   obtain⟨r1,j0,G⟩:=bnd G
   refine x_c aM1 J rfl (vS j0 X :) fun v U w hR J=>?_
   obtain⟨j1,j2,j3,rfl,X⟩:=hR
   refine x_m J rfl fun U J=>wpList_nil (i7 _ _ ?_)
   refine i6 _ _ (aC ?_)
   refine x_l G J rfl fun r2 _ U J G=>x_m J rfl fun U J=>wpList_nil ?_
   cases G
   exact⟨_,i1 _ rfl,j1,j2,j3,J.sub _ rfl,X⟩
  cases G
  exact wp_exit (h8 f6 (i2 _ rfl) c7 c8 c9 U w (J.sub _ rfl) X)
 refine nz 2 J rfl fun U J=>bB J G rfl (fun j4 G=>?_) fun j4 G=>?_
 ·refine nz 1 J rfl fun U J=>ws fun r3 j5=>xk 1 J rfl fun U J=>aX bM (X.rdl 1 ha1 rfl).2.1 J (fun U J=>?_) rfl
  refine x_m J rfl fun U J=>wn (j5 _ _ ?_)
  refine aA fun f8 j6=>?_
  have hb3:∀d1,vK d1=some y→∀d2 d3 d4 U w,FR 93 [] U [(5,.slice d2 d3 d4)]→SH r (own (kI .u8) 5 d2 d3 d4 d1::L) w→f8 U w:=by
   intro d1 G d2 d3 d4 U w J X
   unfold vK at G
   exact j6 _ _ (hb1 d1 G d2 d3 d4 U w (J.sub _ rfl) X)
  obtain⟨j7,j8,G⟩:=bnd G
  have j9:∀a6,(a6)=j7→∀d5 d6 d7 U w,FR 93 [] U [(5,.slice d5 d6 d7)]→SH r (own (kI .u8) 5 d5 d6 d7 a6::L) w→f8 U w:=by
   intro a6 ht d5 d6 d7 U w J X
   subst ht
   replace G:sH a6=some y:=G
   unfold sH at G
   exact hb3 a6 G d5 d6 d7 U w (J.sub _ rfl) X
  refine aD j8 (fun s U w=>∃d8 d9 e0,FR 93 [] U [(5,.slice d8 d9 e0),(8,.int .i64 s.2.1),(34,.slice A1 n1 c1),(35,.int .i64 (a1.length:Int)),(36,.int .i64 s.2.2)]∧SH r (own (kI .u8) 5 d8 d9 e0 s.1::L) w) ⟨a9,b3,b4,J.sub _ rfl,X⟩ ?_
  intro r4 k0 k1 G k2 k3 U w hLab
  obtain⟨f9,k4,k5⟩:=k0
  replace G:jZ a1 f9 k4 k5=some k1:=G
  unfold jZ at G
  try dsimp only at hLab
  obtain⟨d8,d9,e0,J,X⟩:=hLab
  refine nz 1 J rfl fun U J=>wp_seq_k fun r5 k6=>bB J G rfl (fun k7 G=>?_) fun k7 G=>?_
  ·refine wp_skip (k6 _ _ ?_)
   refine wp_seq_k fun r6 k8=>aA fun r7 k9=>ws fun r8 l0=>?_
   obtain⟨r9,g0,G⟩:=bnd G
   refine fO bM sz2 (X.rdl 1 ha1 rfl) g0 J (fun U J=>?_) rfl
   obtain⟨cs,hV,l1⟩:=el (X.rdl 1 ha1 rfl) g0
   obtain rfl:=hV
   refine aI uu2 (l1 0 _ rfl) J (fun U J=>?_) rfl
   refine x_m J rfl fun U J=>wn (l0 _ _ ?_)
   refine ws fun s2 l2=>xk 3 J rfl fun U J=>x_l G J rfl fun s3 _ U J G=>?_
   obtain⟨s4,l3,G⟩:=bnd G
   refine x_c aM1 J rfl (vS l3 X :) fun v U w hR J=>?_
   obtain⟨l4,l5,l6,rfl,X⟩:=hR
   refine x_m J rfl fun U J=>wn (l2 _ _ ?_)
   refine aC (nk 2 J rfl fun U J=>?_)
   refine k9 _ _ (k8 _ _ ?_)
   refine aC (x_l G J rfl fun s5 _ U J G=>?_)
   refine x_m J rfl fun U J=>wpList_nil ?_
   cases G
   exact⟨_,k2 _ rfl,l4,l5,l6,J.sub _ rfl,X⟩
  cases G
  exact wp_exit (j9 f9 (k3 _ rfl) d8 d9 e0 U w (J.sub _ rfl) X)
 refine nz 2 J rfl fun U J=>bB J G rfl (fun l7 G=>?_) fun l7 G=>?_
 ·refine nz 1 J rfl fun U J=>aA fun g1 l8=>?_
  have hb4:∀e1,vO e1=some y→∀e2 e3 e4 U w,FR 93 [] U [(5,.slice e2 e3 e4)]→SH r (own (kI .u8) 5 e2 e3 e4 e1::L) w→g1 U w:=by
   intro e1 G e2 e3 e4 U w J X
   unfold vO at G
   exact l8 _ _ (hb1 e1 G e2 e3 e4 U w (J.sub _ rfl) X)
  obtain⟨l9,m1,G⟩:=bnd G
  have m2:∀a7,(a7)=l9→∀e5 e6 e7 U w,FR 93 [] U [(5,.slice e5 e6 e7)]→SH r (own (kI .u8) 5 e5 e6 e7 a7::L) w→g1 U w:=by
   intro a7 ht e5 e6 e7 U w J X
   subst ht
   replace G:sR a7=some y:=G
   unfold sR at G
   exact hb4 a7 G e5 e6 e7 U w (J.sub _ rfl) X
  refine aD m1 (fun s U w=>∃H I S,FR 93 [] U [(1,.slice A1 n1 c1),(5,.slice H I S),(11,.int .i64 s.2)]∧SH r (own (kI .u8) 5 H I S s.1::L) w) ⟨a9,b3,b4,J.sub _ rfl,X⟩ ?_
  intro s6 m3 e9 G m4 m5 U w hLab
  obtain⟨a2,C⟩:=m3
  replace G:lK a1 a2 C=some e9:=G
  unfold lK at G
  try dsimp only at hLab
  obtain⟨H,I,S,J,X⟩:=hLab
  refine wp_seq_k fun s7 m6=>ws fun s8 m7=>xk 2 J rfl fun U J=>aX bM (X.rdl 1 ha1 rfl).2.1 J (fun U J=>?_) rfl
  refine nk 1 J rfl fun U J=>m7 _ _ (bB J G rfl (fun m8 G=>?_) fun m8 G=>?_)
  ·refine wp_skip (m6 _ _ ?_)
   refine aA fun s9 m9=>nz 1 J rfl fun U J=>wp_seq_k fun t0 n0=>aA fun g2 n3=>?_
   have hb5:∀f2,vX a1 a2 C f2=some e9→∀U w,FR 93 [] U [(1,.slice A1 n1 c1),(5,.slice H I S),(11,.int .i64 C),(12,.int .i64 f2)]→SH r (own (kI .u8) 5 H I S a2::L) w→g2 U w:=by
    intro f2 G U w J X
    unfold vX at G
    refine n3 _ _ (n0 _ _ ?_)
    refine ws fun t1 n4=>xk 3 J rfl fun U J=>?_
    obtain⟨t3,g3,G⟩:=bnd G
    refine fO bM sz2 (X.rdl 1 ha1 rfl) g3 J (fun U J=>?_) rfl
    obtain⟨cs,hV,n5⟩:=el (X.rdl 1 ha1 rfl) g3
    obtain rfl:=hV
    refine aI uu2 (n5 0 _ rfl) J (fun U J=>?_) rfl
    obtain⟨t4,n6,G⟩:=bnd G
    refine x_c aM1 J rfl (vS n6 X :) fun v U w hR J=>?_
    obtain⟨t5,t6,t7,rfl,X⟩:=hR
    refine x_m J rfl fun U J=>x_l G J rfl fun t8 _ U J G=>fU G J (aS uu3 mD rfl (J.ev rfl)) rfl fun t9 _ U J G=>?_
    obtain⟨u0,n7,G⟩:=bnd G
    refine x_c aQ4 J rfl (rC n7 X :) fun v U w hR J=>?_
    obtain⟨n8,n9,o0,rfl,X⟩:=hR
    refine x_m J rfl fun U J=>wn (n4 _ _ ?_)
    refine aC (xk 2 J rfl fun U J=>?_)
    refine x_l G J rfl fun u1 _ U J G=>x_m J rfl fun U J=>wpList_nil ?_
    cases G
    exact m9 _ _ ⟨_,m4 _ rfl,n8,n9,o0,J.sub _ rfl,X⟩
   obtain⟨o1,o2,G⟩:=bnd G
   have o3:∀a8,(a8)=o1→∀U w,FR 93 [] U [(1,.slice A1 n1 c1),(5,.slice H I S),(11,.int .i64 C),(12,.int .i64 a8)]→SH r (own (kI .u8) 5 H I S a2::L) w→g2 U w:=by
    intro a8 ht U w J X
    subst ht
    replace G:rY a1 a2 C a8=some e9:=G
    unfold rY at G
    exact hb5 a8 G U w (J.sub _ rfl) X
   refine aD o2 (fun s U w=>FR 93 [] U [(1,.slice A1 n1 c1),(5,.slice H I S),(11,.int .i64 C),(12,.int .i64 s)]∧SH r (own (kI .u8) 5 H I S a2::L) w) ⟨J.sub _ rfl,X⟩ ?_
   intro u2 o4 g4 G o5 o6 U w hLab
   obtain⟨Y,rfl⟩:∃ q,q=o4:=⟨_,rfl⟩
   replace G:lV a1 C Y=some g4:=G
   unfold lV at G
   try dsimp only at hLab
   obtain⟨J,X⟩:=hLab
   refine wp_seq_k fun u3 o7=>wp_seq_k fun o8 o9=>?_
   have hj1:∀f3,nW Y f3=some g4→∀U w,FR 93 [] U [(1,.slice A1 n1 c1),(5,.slice H I S),(11,.int .i64 C),(12,.int .i64 Y),(71,.bool f3)]→SH r (own (kI .u8) 5 H I S a2::L) w→o8 U w:=by
    intro f3 G U w J X
    unfold nW at G
    refine o9 _ _ (bB J G rfl (fun p0 G=>?_) fun p0 G=>?_)
    ·refine wp_skip (o7 _ _ ?_)
     refine aA fun u4 p1=>aC (x_m J rfl fun U J=>?_)
     refine x_l G J rfl fun u5 _ U J G=>x_m J rfl fun U J=>wpList_nil ?_
     cases G
     exact p1 _ _ ⟨_,o5 _ rfl,J.sub _ rfl,X⟩
    cases G
    exact wp_exit (o3 Y (o6 _ rfl) U w (J.sub _ rfl) X)
   refine cN [0,0,3,0,8,31,63,127,127,127,895,2047,4095,127,127,24703,57471,131071,262143] [] rfl J X (by kernel_rfl) (by kernel_rfl) (by kernel_rfl) (by kernel_rfl) fun w X=>?_
   obtain⟨h,f4,G⟩:=nZ G
   refine bcG G (fun z G=>?_) fun z G=>?_
   ·obtain⟨a3,g5,G⟩:=bnd G
    obtain⟨cs,hV,p2⟩:=el (X.rdl 1 ha1 rfl) g5
    obtain rfl:=hV
    obtain⟨a4,g6,G⟩:=bnd G
    obtain⟨cs,hV,p3⟩:=el (X.rdl 1 ha1 rfl) g6
    obtain rfl:=hV
    refine⟨[(0,.int .i64 C),(1,.int .i64 Y),(2,.int .i64 h),(3,.slice A1 n1 c1),(4,.int .i64 (a1.length:Int)),(5,.bool (decide (h<(a1.length:Int)))),(6,.bool (decide (h<(a1.length:Int)))),(7,.slice A1 n1 c1),(8,.int .i64 C),(9,.int .i64 Y),(10,.int .i64 h),(11,.pointer (some (ea A1 (h.toNat * 1)))),(12,.int .i64 a3),(13,.slice A1 n1 c1),(14,.int .i64 C),(15,.pointer (some (ea A1 (C.toNat * 1)))),(16,.int .i64 a4),(17,.bool (a3==a4)),(18,.bool (a3==a4))],?_⟩
    refine gM [0,1,2,3,4,5,6,7,8,9,10,11,12,13,14,15,16,17,18] (by kernel_rfl) ⟨pm rfl,pm rfl,pt [(53,.int .i64 C),(54,.int .i64 Y)] rfl fun U J=>jY f4 (iR rfl (J.ev rfl) (J.ev rfl)),pm rfl,pt [(56,.slice A1 n1 c1)] rfl (fun U J=>aDm bM (X.rdl 1 ha1 rfl).2.1 J rfl rfl),pt [(55,.int .i64 h),(57,.int .i64 (a1.length:Int))] rfl (fun U J=>rB rfl (J.ev rfl) (J.ev rfl)),pm rfl,iH rfl rfl rfl rfl [(1,.slice A1 n1 c1),(59,.bool (decide (h<(a1.length:Int))))] rfl z (fun U J=>mH J rfl rfl) rfl,iH rfl rfl rfl rfl [(11,.int .i64 C),(59,.bool (decide (h<(a1.length:Int))))] rfl z (fun U J=>mH J rfl rfl) rfl,iH rfl rfl rfl rfl [(12,.int .i64 Y),(59,.bool (decide (h<(a1.length:Int))))] rfl z (fun U J=>mH J rfl rfl) rfl,iH rfl rfl rfl rfl [(59,.bool (decide (h<(a1.length:Int)))),(61,.int .i64 C),(62,.int .i64 Y)] rfl z (fun U J=>(jY f4 (iR rfl (J.ev rfl) (J.ev rfl)):RunV _ _ _ _ (.int .i64 h))) rfl,iH rfl rfl rfl rfl [(59,.bool (decide (h<(a1.length:Int)))),(60,.slice A1 n1 c1),(63,.int .i64 h)] rfl z (fun U J=>fH bM sz2 (X.rdl 1 ha1 rfl) g5 J rfl rfl rfl) rfl,iH rfl rfl rfl rfl [(59,.bool (decide (h<(a1.length:Int)))),(64,.pointer (some (ea A1 (h.toNat * 1))))] rfl z (fun U J=>cM uu2 (p2 0 _ rfl) J rfl rfl rfl) rfl,iH rfl rfl rfl rfl [(1,.slice A1 n1 c1),(59,.bool (decide (h<(a1.length:Int))))] rfl z (fun U J=>mH J rfl rfl) rfl,iH rfl rfl rfl rfl [(11,.int .i64 C),(59,.bool (decide (h<(a1.length:Int))))] rfl z (fun U J=>mH J rfl rfl) rfl,iH rfl rfl rfl rfl [(59,.bool (decide (h<(a1.length:Int)))),(66,.slice A1 n1 c1),(67,.int .i64 C)] rfl z (fun U J=>fH bM sz2 (X.rdl 1 ha1 rfl) g6 J rfl rfl rfl) rfl,iH rfl rfl rfl rfl [(59,.bool (decide (h<(a1.length:Int)))),(68,.pointer (some (ea A1 (C.toNat * 1))))] rfl z (fun U J=>cM uu2 (p3 0 _ rfl) J rfl rfl rfl) rfl,iH rfl rfl rfl rfl [(59,.bool (decide (h<(a1.length:Int)))),(65,.int .i64 a3),(69,.int .i64 a4)] rfl z (fun U J=>aHa rfl (J.ev rfl) (J.ev rfl)) rfl,pt [(59,.bool (decide (h<(a1.length:Int)))),(70,.bool (a3==a4))] rfl (fun U J=>aAw z J rfl rfl rfl),trivial⟩ ⟨by kernel_rfl,by kernel_rfl⟩ [(1,_),(5,_),(11,_),(12,_),(60,_),(61,_),(62,_),(63,_),(65,_),(66,_),(67,_),(69,_),(70,_),(71,_)] rfl (fun U J=>?_)
    exact hj1 (a3==a4) G U w (J.sub _ rfl) X
   refine⟨[(0,.int .i64 C),(1,.int .i64 Y),(2,.int .i64 h),(3,.slice A1 n1 c1),(4,.int .i64 (a1.length:Int)),(5,.bool (decide (h<(a1.length:Int)))),(6,.bool (decide (h<(a1.length:Int)))),(7,undef),(8,undef),(9,undef),(10,undef),(11,undef),(12,undef),(13,undef),(14,undef),(15,undef),(16,undef),(17,undef),(18,.bool false)],?_⟩
   refine gM [0,1,2,3,4,5,6,7,8,9,10,11,12,13,14,15,16,17,18] (by kernel_rfl) ⟨pm rfl,pm rfl,pt [(53,.int .i64 C),(54,.int .i64 Y)] rfl fun U J=>jY f4 (iR rfl (J.ev rfl) (J.ev rfl)),pm rfl,pt [(56,.slice A1 n1 c1)] rfl (fun U J=>aDm bM (X.rdl 1 ha1 rfl).2.1 J rfl rfl),pt [(55,.int .i64 h),(57,.int .i64 (a1.length:Int))] rfl (fun U J=>rB rfl (J.ev rfl) (J.ev rfl)),pm rfl,eG rfl rfl rfl rfl [(1,.slice A1 n1 c1),(59,.bool (decide (h<(a1.length:Int))))] rfl z rfl,eG rfl rfl rfl rfl [(11,.int .i64 C),(59,.bool (decide (h<(a1.length:Int))))] rfl z rfl,eG rfl rfl rfl rfl [(12,.int .i64 Y),(59,.bool (decide (h<(a1.length:Int))))] rfl z rfl,eG rfl rfl rfl rfl [(59,.bool (decide (h<(a1.length:Int)))),(61,undef),(62,undef)] rfl z rfl,eG rfl rfl rfl rfl [(59,.bool (decide (h<(a1.length:Int)))),(60,undef),(63,undef)] rfl z rfl,eG rfl rfl rfl rfl [(59,.bool (decide (h<(a1.length:Int)))),(64,undef)] rfl z rfl,eG rfl rfl rfl rfl [(1,.slice A1 n1 c1),(59,.bool (decide (h<(a1.length:Int))))] rfl z rfl,eG rfl rfl rfl rfl [(11,.int .i64 C),(59,.bool (decide (h<(a1.length:Int))))] rfl z rfl,eG rfl rfl rfl rfl [(59,.bool (decide (h<(a1.length:Int)))),(66,undef),(67,undef)] rfl z rfl,eG rfl rfl rfl rfl [(59,.bool (decide (h<(a1.length:Int)))),(68,undef)] rfl z rfl,eG rfl rfl rfl rfl [(59,.bool (decide (h<(a1.length:Int)))),(65,undef),(69,undef)] rfl z rfl,pt [(59,.bool (decide (h<(a1.length:Int)))),(70,undef)] rfl (fun U J=>yN z J rfl rfl rfl),trivial⟩ ⟨by kernel_rfl,by kernel_rfl⟩ [(1,_),(5,_),(11,_),(12,_),(71,_)] rfl (fun U J=>?_)
   exact hj1 false G U w (J.sub _ rfl) X
  cases G
  exact wp_exit (m2 a2 (m5 _ rfl) H I S U w (J.sub _ rfl) X)
 refine nz 2 J rfl fun U J=>bB J G rfl (fun p4 G=>?_) fun p4 G=>?_
 ·refine aC (xk 2 J rfl fun U J=>?_)
  obtain⟨p5,p6,G⟩:=bnd G
  refine x_c aX0 J rfl (aGs p6 X (RdL.sfx 0 rfl ha1) :) fun v U w hR J=>?_
  obtain⟨p7,p8,p9,rfl,X⟩:=hR
  exact x_m J rfl fun U J=>wpList_nil (hb1 p5 G p7 p8 p9 U w (J.sub _ rfl) X)
 exact wp_skip (hb1 g8 G a9 b3 b4 U w (J.sub _ rfl) X)
theorem qU {a0 A0 n0 c0 y} (G:lU a0=some y) (X:SH r (L) w) (ha0:RdL L (kI .i64) A0 n0 c0 a0) :
  Ret Tryz.prog 66 #[.slice A0 n0 c0] w fun v w'=>∃ (B0:Option Addr) (m0:Nat) (d0:Nat),v=.slice B0 m0 d0∧SH r (own (kI .u8) 5 B0 m0 d0 y::L) w':=by
 refine enter Tryz.func66 rfl Tryz.ntmps66 [(0,_)] rfl (by simp) ?_
 intro U J Qf hQ hQn
 unfold lU at G
 refine nz 1 J rfl fun U J=>ws fun e6 b6=>xk 1 J rfl fun U J=>?_
 obtain⟨e7,b7,G⟩:=bnd G
 refine x_c aX4 J rfl (aDh b7 X (RdL.sfx 0 rfl ha0) :) fun v U w hR J=>?_
 obtain⟨b8,b9,c3,rfl,X⟩:=hR
 refine x_m J rfl fun U J=>wn (b6 _ _ ?_)
 refine wp_seq_k fun e8 c4=>nz 1 J rfl fun U J=>aA fun b4 c5=>?_
 have hb1:∀a7,wQ a7=some y→∀I S Y U w,FR 22 [] U [(3,.slice I S Y)]→SH r (own (kI .u8) 5 I S Y a7::L) w→b4 U w:=by
  intro a7 G I S Y U w J X
  unfold wQ at G
  refine c5 _ _ (c4 _ _ ?_)
  refine nz 2 J rfl fun U J=>?_
  cases G
  refine wp_ret (hQ _ _ ?_)
  exact lv Tryz.results66 J rfl ⟨I,S,Y,rfl,X⟩
 obtain⟨c6,c7,G⟩:=bnd G
 have c8:∀h,(h)=c6→∀a1 a2 a3 U w,FR 22 [] U [(3,.slice a1 a2 a3)]→SH r (own (kI .u8) 5 a1 a2 a3 h::L) w→b4 U w:=by
  intro h ht a1 a2 a3 U w J X
  subst ht
  replace G:tV h=some y:=G
  unfold tV at G
  exact hb1 h G a1 a2 a3 U w (J.sub _ rfl) X
 refine aD c7 (fun s U w=>∃z C H,FR 22 [] U [(0,.slice A0 n0 c0),(3,.slice z C H),(4,.int .u8 s.2)]∧SH r (own (kI .u8) 5 z C H s.1::L) w) ⟨b8,b9,c3,J.sub _ rfl,X⟩ ?_
 intro e9 c9 b5 G d1 d2 U w hLab
 obtain⟨a8,a9⟩:=c9
 replace G:fK a0 a8 a9=some b5:=G
 unfold fK at G
 try dsimp only at hLab
 obtain⟨z,C,H,J,X⟩:=hLab
 refine wp_seq_k fun f2 d3=>nz 2 J rfl fun U J=>bB J G rfl (fun d4 G=>?_) fun d4 G=>?_
 ·refine wp_skip (d3 _ _ ?_)
  refine wp_seq_k fun f3 d5=>aA fun d6 d7=>?_
  have hb2:∀b3,pK a9 b3=some b5→∀a4 a5 a6 U w,FR 22 [] U [(0,.slice A0 n0 c0),(3,.slice a4 a5 a6),(4,.int .u8 a9)]→SH r (own (kI .u8) 5 a4 a5 a6 b3::L) w→d6 U w:=by
   intro b3 G a4 a5 a6 U w J X
   unfold pK at G
   refine d7 _ _ (d5 _ _ ?_)
   refine aC (x_m J rfl fun U J=>?_)
   refine x_l G J rfl fun f4 _ U J G=>x_m J rfl fun U J=>wpList_nil ?_
   cases G
   exact⟨_,d1 _ rfl,a4,a5,a6,J.sub _ rfl,X⟩
  refine ws fun f5 d8=>xk 2 J rfl fun U J=>?_
  obtain⟨d9,e0,G⟩:=bnd G
  refine x_c aX4 J rfl (aDh e0 X (RdL.sfx 1 rfl ha0) :) fun v U w hR J=>?_
  obtain⟨e1,e2,e3,rfl,X⟩:=hR
  refine x_m J rfl fun U J=>wn (d8 _ _ ?_)
  refine ws fun f6 e4=>xk 1 J rfl fun U J=>aX fC (X.rd 0 rfl).2.1 J (fun U J=>?_) rfl
  refine x_m J rfl fun U J=>aX fC (X.rd 1 rfl).2.1 J (fun U J=>?_) rfl
  refine nk 1 J rfl fun U J=>e4 _ _ (bB J G rfl (fun e5 G=>?_) fun e5 G=>?_)
  ·refine aC (nk 2 J rfl fun U J=>?_)
   replace X:=X.drop 1
   exact hb2 d9 G e1 e2 e3 U w (J.sub _ rfl) X
  replace X:=X.drop 0
  exact wp_skip (hb2 a8 G z C H U w (J.sub _ rfl) X)
 cases G
 exact wp_exit (c8 a8 (d2 _ rfl) z C H U w (J.sub _ rfl) X)
end
theorem aO0 {r:World} {L:List HP} {g:Nat} {b:Bool} {w:World} (hS:SH r (blk g 4 [.bool b]::L) w) :
    CallsD Tryz.prog 97 #[.pointer (some ⟨g,0,none⟩)] (.panicking aCo) w fun e u' w'=>e=.returned (.tuple #[])∧u'=.panicking [{ v:=.iface 154 (.agg #[]),recovered:=true }]∧SH r (blk g 4 [.bool false]::L) w':=by
  refine callsD_of_wpS Tryz.func97 rfl fun c₀ cs hu=>?_
  apply wpS_seq
  apply wpS_region
  simp only [List.size_toArray,List.length_cons,List.length_nil,Nat.zero_add]
  rw [show List.range (1+1)=[0,1] from rfl]
  simp [wpOpsS,go_sem,recoverD,hu,aCo,Tryz.ntmps97,Exit.thenS]
  generalize hac:({ tmps:=_,defers:=_ }:Act)=ac
  have hA:FR 15 [] ac [(0,.pointer (some ⟨g,0,none⟩)),(1,.iface 154 (.agg #[]))]:=by
    subst hac
    refine⟨by simp,rfl,fun t v hv=>?_⟩
    simp only [lk] at hv
    by_cases e0:t=0
    · subst e0; cases hv; rfl
    by_cases e1:t=1
    · subst e1; cases hv; rfl
    · exfalso
      rw [show Nat.beq 0 t=false by cases h:Nat.beq 0 t; rfl; exact absurd (Nat.eq_of_beq_eq_true h).symm e0,show Nat.beq 1 t=false by cases h:Nat.beq 1 t; rfl; exact absurd (Nat.eq_of_beq_eq_true h).symm e1] at hv
      cases hv
  clear hac
  refine wpS_of_wp ?_
  have fin:∀ (a:Act) (w:World),FR 15 [] a []→SH r (blk g 4 [.bool false]::L) w→bodyPostS Tryz.prog Tryz.f97 c₀ cs (fun e u' w'=>e=.returned (.tuple #[])∧u'=.panicking [{ v:=.iface 154 (.agg #[]),recovered:=true }]∧SH r (blk g 4 [.bool false]::L) w') .normal a ({ c₀ with mode:=.panicking [{ v:=.iface 154 (.agg #[]),recovered:=true }] }::cs) w:=by
    intro a w hA hS
    exact⟨hA.defers,_,rfl,_,results_none Tryz.results97 _ _ _,rfl,rfl,hS⟩
  refine wp_seq_k fun K1 h1=>?_
  refine aC ?_
  refine sP hA (fun ac hA=>?_)
  refine iY (v:=.bool true) hA (aOs Tryz.underlying20 rfl (hA.ev rfl) (hA.ev rfl)) (fun ac hA=>?_)
  refine wpList_nil ?_
  refine h1 _ _ ?_
  refine c_t (b:=true) rfl hA ?_
  refine wp_seq_k fun K4 h4=>?_
  refine wp_seq_k fun K2 h2=>?_
  refine aC ?_
  refine sP hA (fun ac hA=>?_)
  refine iY (v:=.tuple #[.agg #[],.bool true]) hA (aIr Tryz.underlying154 rfl rfl (hA.ev rfl)) (fun ac hA=>?_)
  refine sP hA (fun ac hA=>?_)
  refine iY hA (uD rfl (hA.ev rfl) rfl) (fun ac hA=>?_)
  refine iY hA (uD rfl (hA.ev rfl) rfl) (fun ac hA=>?_)
  refine aIz (cs:=[]) aYu hA hS (fun g2 ac w hS hA=>?_)
  refine aNd (vs:=[]) 0 aYj hA hS rfl (fun ac w hS hA=>?_)
  refine kQ hA (fun ac hA=>?_)
  refine wpList_nil ?_
  refine h2 _ _ ?_
  refine wp_seq_k fun K3 h3=>?_
  refine aC ?_
  refine sP hA (fun ac hA=>?_)
  refine iY hA (aCp rfl (hA.ev rfl)) (fun ac hA=>?_)
  refine wpList_nil ?_
  refine h3 _ _ ?_
  refine c_f (b := !true) rfl hA ?_
  refine wp_skip ?_
  refine h4 _ _ ?_
  refine aC ?_
  refine aNd (vs:=[.bool false]) 1 sz4 hA hS rfl (fun ac w hS hA=>?_)
  refine wpList_nil ?_
  have hS':=hS.pk 1
  exact fin _ _ (hA.sub _ rfl) (hS'.tail)
theorem aMf {g:Nat} {w:World} :
    CallsD Tryz.prog 97 #[.pointer (some ⟨g,0,none⟩)] .returning w fun e u' w'=>e=.returned (.tuple #[])∧u'=.returning∧w'=w:=by
  refine callsD_of_wpS Tryz.func97 rfl fun c₀ cs hu=>?_
  apply wpS_seq
  apply wpS_region
  simp only [List.size_toArray,List.length_cons,List.length_nil,Nat.zero_add]
  rw [show List.range (1+1)=[0,1] from rfl]
  simp [wpOpsS,go_sem,recoverD,hu,Tryz.ntmps97,Exit.thenS]
  generalize hac:({ tmps:=_,defers:=_ }:Act)=ac
  have hA:FR 15 [] ac [(0,.pointer (some ⟨g,0,none⟩)),(1,.nilIface)]:=by
    subst hac
    refine⟨by simp,rfl,fun t v hv=>?_⟩
    simp only [lk] at hv
    by_cases e0:t=0
    · subst e0; cases hv; rfl
    by_cases e1:t=1
    · subst e1; cases hv; rfl
    · exfalso
      rw [show Nat.beq 0 t=false by cases h:Nat.beq 0 t; rfl; exact absurd (Nat.eq_of_beq_eq_true h).symm e0,show Nat.beq 1 t=false by cases h:Nat.beq 1 t; rfl; exact absurd (Nat.eq_of_beq_eq_true h).symm e1] at hv
      cases hv
  clear hac
  refine wpS_of_wp ?_
  refine wp_seq_k fun K1 h1=>?_
  refine aC ?_
  refine sP hA (fun ac hA=>?_)
  refine iY (v:=.bool false) hA (aN4 Tryz.underlying20 rfl (hA.ev rfl)) (fun ac hA=>?_)
  refine wpList_nil ?_
  refine h1 _ _ ?_
  refine c_f (b:=false) rfl hA ?_
  refine wp_skip ?_
  refine⟨hA.defers,c₀.mode,rfl,_,results_none Tryz.results97 _ _ _,rfl,hu,rfl⟩
theorem aCa {r:World} {L:List HP} {w:World} {g:Nat} {b:Bool} {a:Act} {n:Nat} {D:List Deferred} {F:List (Nat×Value)} (hA:FR n D a F) (h1:lk F 4=some (.pointer (some ⟨g,0,none⟩))) (hS:SH r (blk g 4 [.bool b]::L) w) :
    (results Tryz.f75 a.tmps).run Tryz.prog w=.ok (.bool b) w:=by
  have e1:a.tmps.getD 4 undef=.pointer (some ⟨g,0,none⟩):=hA.ev (x:=.tmp 4) h1
  have e1':a.tmps[4]?.getD undef=.pointer (some ⟨g,0,none⟩):=by rw [← Array.getD_eq_getD_getElem?]; exact e1
  have hc:=hS.cell 0 rfl 0 (.bool b) rfl
  have hagg:(isAgg 4).run Tryz.prog w=.ok false w:=by rw [pN Tryz.underlying4]; rfl
  have hld:(loadVar 4 ⟨g,0,none⟩).run Tryz.prog w=.ok (.bool b) w:=by simp [loadVar,hagg,hc]
  simp [results,Tryz.results75,e1',asAddr,hld]
section
variable {r:World} {L:List HP} {w:World} {A:Option Addr} {n c f:Nat} {fs caps:Array Value}
theorem aFf {R:Value→World→Prop} (hf:EN Tryz.prog f) (hS:SH r L w)
    (hret:∀ g g4 w1,SH r (blk g 157 [.slice A n c]::blk g4 4 [.bool false]::L) w1 →
      (Ret Tryz.prog f (fs++#[.pointer (some ⟨g,0,none⟩)]++caps) w1 fun v w2=>∃ L1 A' n' c',SH r (blk g 157 [.slice A' n' c']::blk g4 4 [.bool false]::L1) w2∧∀ w3,SH r L1 w3→R (.bool ((n':Int)==0)) w3) ∨
      (Calls Tryz.prog f (fs++#[.pointer (some ⟨g,0,none⟩)]++caps) w1 fun e w2=>e=.panicked aCo∧∃ L1,SH r (blk g4 4 [.bool false]::L1) w2∧∀ w3,SH r L1 w3→R (.bool false) w3)) :
    Ret Tryz.prog 75 #[.slice A n c,.func (.func f) fs caps] w R:=by
  refine aWs Tryz.func75 rfl Tryz.ntmps75 [(0,.slice A n c),(1,.func (.func f) fs caps)] rfl (by simp) ?_
  intro ac hA
  refine wp_seq_k fun K0 h0=>?_
  refine aC ?_
  refine aIz (cs:=[.bool false]) zr4 hA hS (fun g4 ac w hS hA=>?_)
  refine wpList_nil ?_
  refine h0 _ _ ?_
  refine wp_seq_k fun K1 h1=>?_
  refine aC ?_
  refine iY hA (mF rfl (rU (vals:=#[]) hA rfl) (rU (vals:=#[.pointer (some ⟨g4,0,none⟩)]) hA rfl)) (fun ac hA=>?_)
  refine aTl (vs:=#[]) hA (fun ac hA=>?_)
  refine wpList_nil ?_
  refine h1 _ _ ?_
  refine wp_seq_k fun K2 h2=>?_
  refine aC ?_
  refine sP hA (fun ac hA=>?_)
  refine iY (v:=.agg #[.slice A n c]) hA (nU (ps:=#[(0,.slice A n c)]) rfl (qP hA rfl) (fun w=>by kernel_rfl)) (fun ac hA=>?_)
  refine aGn hA hS (fun g ac w hS hA=>?_)
  refine kQ hA (fun ac hA=>?_)
  refine wpList_nil ?_
  refine h2 _ _ ?_
  refine wp_seq_k fun K3 h3=>?_
  refine aC ?_
  refine sP hA (fun ac hA=>?_)
  refine sP hA (fun ac hA=>?_)
  rcases hret g g4 w hS with hr | hp
  · refine aNn (vs:=#[.pointer (some ⟨g,0,none⟩)]) hf hA hr (fun v ac w hR hA=>?_)
    obtain⟨L1,A',n',c',hS,hR⟩:=hR
    refine wpList_nil ?_
    refine h3 _ _ ?_
    refine wp_seq_k fun K4 h4=>?_
    refine aC ?_
    refine sP hA (fun ac hA=>?_)
    refine iY hA (dC rfl (hA.ev rfl)) (fun ac hA=>?_)
    refine aU9 pZ hA (fun ac hA=>?_)
    refine aKs Tryz.underlying32 (hS.cell 0 rfl 0 _ rfl) hA (fun ac hA=>?_)
    refine iY hA (aD3 Tryz.underlying32 rfl (hA.ev rfl)) (fun ac hA=>?_)
    refine iY hA (aHa rfl (hA.ev rfl) (hA.ev rfl)) (fun ac hA=>?_)
    refine aNd (vs:=[.bool ((n':Int)==0)]) 1 sz4 hA hS rfl (fun ac w hS hA=>?_)
    refine wpList_nil ?_
    refine h4 _ _ ?_
    refine wp_ret ?_
    show Leaves _ _ _ _ _ _ _
    rw [hA.defers]
    refine leaves_cons (f:=97) (args:=#[.pointer (some ⟨g4,0,none⟩)]) (by simp) (by simp [invoke,(aYv _ _:_=_)]) ?_
    refine CallsD.mono aMf ?_
    rintro e u' w' ⟨rfl,rfl,rfl⟩
    exact⟨_,aCa hA rfl hS,_,rfl,hR _ (hS.tail.tail)⟩
  · refine aNw (vs:=#[.pointer (some ⟨g,0,none⟩)]) hf hA hp (fun w hR=>?_)
    obtain⟨L1,hS,hR⟩:=hR
    show Leaves _ _ _ _ _ _ _
    rw [hA.defers]
    refine leaves_cons (f:=97) (args:=#[.pointer (some ⟨g4,0,none⟩)]) (by simp) (by simp [invoke,(aYv _ _:_=_)]) ?_
    refine CallsD.mono (aO0 hS) ?_
    rintro e u' w' ⟨rfl,rfl,hS⟩
    exact⟨_,aCa hA rfl hS,_,rfl,hR _ hS.tail⟩
end
noncomputable section
set_option linter.unusedSimpArgs false
def aJ (a0:S157) (a1:Bool):Option ((S157)⊕(S157)) :=
  if (!a1)=true then (some (.inr a0)) else (some (.inl a0))
def fJ (a0:S157):Option ((Int×S157)⊕(S157)) :=
  (aJ a0 (decide (0<(a0.f0.length:Int)))).bind fun h=>(mI h (fun h=>((at_ h.f0 0).bind fun z=>((oO h.f0 1 (h.f0.length:Int)).bind fun C=>(some (.inl (z,(⟨C⟩:S157))))))) (fun h=>(some (.inr h))))
def iP (h:Int) (z:(List Int)):Option (((List Int)×Int×Int)⊕(((Int×S157)⊕(S157)))) :=
  some (.inr (.inl (h,(⟨z⟩:S157))))
def eA (a1:Int) (U:Int) (I:Int) (J:(Int×S157)) (H:(List Int)):Option (((List Int)×Int×Int)⊕(((Int×S157)⊕(S157)))) :=
  ltt (yQ .u8 J.1 127) fun X=>(ltt (IntKind.u64.wrap X) fun Y=>(ltt (IntKind.i64.wrap (7 * I)) fun S=>(chk (0≤S) (ltt (yZ .u64 Y S) fun a0=>(ltt (ior .u64 U a0) fun h=>(if (decide (J.1<128))=true then (if (decide (h≤a1))=true then (if (I==0)=true then ((aJ (⟨H⟩:S157) true).bind fun z=>(mI z (fun z=>(iP h z.f0)) (fun z=>(some (.inr (.inr z)))))) else ((aJ (⟨H⟩:S157) (decide (0<J.1))).bind fun C=>(mI C (fun C=>(iP h C.f0)) (fun C=>(some (.inr (.inr C))))))) else ((aJ (⟨H⟩:S157) false).bind fun G=>(mI G (fun G=>(iP h G.f0)) (fun G=>(some (.inr (.inr G))))))) else (ltt (IntKind.i64.wrap (I+1)) fun a2=>(some (.inl (H,h,a2))))))))))
def eB (a1:Int) (J:(List Int)) (I:Int) (z:Int):Option (((List Int)×Int×Int)⊕(((Int×S157)⊕(S157)))) :=
  (fJ (⟨J⟩:S157)).bind fun h=>(mI h (fun h=>(if (decide (z<9))=true then ((aJ h.2 true).bind fun C=>(mI C (fun C=>(eA a1 I z h C.f0)) (fun C=>(some (.inr (.inr C)))))) else (if (z==9)=true then ((aJ h.2 (decide (h.1<2))).bind fun G=>(mI G (fun G=>(eA a1 I z h G.f0)) (fun G=>(some (.inr (.inr G)))))) else ((aJ h.2 false).bind fun H=>(mI H (fun H=>(eA a1 I z h H.f0)) (fun H=>(some (.inr (.inr H))))))))) (fun h=>(some (.inr (.inr h)))))
def eU (a0:S157) (a1:Int):Option ((Int×S157)⊕(S157)) :=
  (loop (fun s=>eB a1 s.1 s.2.1 s.2.2) (a0.f0,0,0)).bind fun t=>some t
def fX (a0:S157):Option ((Int×S157)⊕(S157)) :=
  (eU a0 18446744073709551615).bind fun h=>(mI h (fun h=>(ltt (bS .u64 h.1 1) fun z=>(ltt (IntKind.i64.wrap z) fun C=>(ltt (yQ .u64 h.1 1) fun G=>(ltt (IntKind.i64.wrap G) fun H=>(ltt (xT .i64 C (IntKind.i64.wrap (0 - H))) fun I=>(some (.inl (I,h.2))))))))) (fun h=>(some (.inr h))))
def iU (a0:S157) (a1:Int):Option (((List UInt8)×S157)⊕(S157)) :=
  ltt (IntKind.u64.wrap a1) fun C=>((eU a0 C).bind fun h=>(mI h (fun h=>(ltt (IntKind.u64.wrap (h.2.f0.length:Int)) fun G=>((aJ h.2 (decide (h.1≤G))).bind fun z=>(mI z (fun z=>((oO z.f0 0 h.1).bind fun H=>((oO z.f0 h.1 (z.f0.length:Int)).bind fun I=>(some (.inl (bts H,(⟨I⟩:S157))))))) (fun z=>(some (.inr z))))))) (fun h=>(some (.inr h)))))
def pL (h:(List Int)) (z:(List Int)):Option (((List Int)×S157)⊕(S157)) :=
  some (.inl (z,(⟨h⟩:S157)))
def nT (h:(List Int)) (z:(List Int)):Option (((List Int)×S157)⊕(S157)) :=
  pL h z
def cX (a0:Int) (C:(List Int)) (z:(List Int)) (G:Int):Option (((List Int)×(List Int)×Int)⊕(((List Int)×(List Int))⊕(((List Int)×S157)⊕(S157)))) :=
  if (decide (G<a0))=true then ((fX (⟨C⟩:S157)).bind fun h=>(mI h (fun h=>(chk (z.length+[h.1].length≤140737488355328 / 8) (ltt (IntKind.i64.wrap (G+1)) fun H=>(some (.inl (h.2.f0,z++[h.1],H)))))) (fun h=>(some (.inr (.inr (.inr h))))))) else (some (.inr (.inl (C,z))))
def lP (a0:Int) (h:S157):Option (((List Int)×S157)⊕(S157)) :=
  (loop (fun s=>cX a0 s.1 s.2.1 s.2.2) (h.f0,[],0)).bind fun t=>match t with | (.inl t)=>nT t.1 t.2 | (.inr t)=>some t
def tK (h:(List Int)):Option (((List Int)×S157)⊕(S157)) :=
  some (.inl (h,(⟨[]⟩:S157)))
def rH (h:(List Int)):Option (((List Int)×S157)⊕(S157)) :=
  tK h
def fQ (C:(Int×S157)) (G:(List Int)) (z:(List Int)) (h:Int):Option (((List Int)×Int)⊕(((List Int)))) :=
  if (decide (h<(G.length:Int)))=true then ((at_ z h).bind fun H=>(ltt (IntKind.i64.wrap (H+C.1)) fun I=>(ltt (IntKind.i64.wrap (h+1)) fun J=>(some (.inl (z.set h.toNat I,J)))))) else (some (.inr (z)))
def qE (z:(Int×S157)) (C:(List Int)) (h:(List Int)):Option (((List Int)×S157)⊕(S157)) :=
  (loop (fun s=>fQ z h s.1 s.2) (h,0)).bind fun t=>rH t
def nR (h:(Int×S157)) (z:(List Int)) (C:(List Int)):Option (((List Int)×S157)⊕(S157)) :=
  qE h z C
def kK (h:Int) (z:(List Int)) (C:(List Int)):Option (((List Int)×(List Int)×Int)⊕(((List Int)×(List Int))⊕(((List Int)×S157)⊕(S157)))) :=
  ltt (IntKind.i64.wrap (h+1)) fun G=>(some (.inl (z,C,G)))
def gO (a1:Int) (z:Int) (X:Int) (G:(List Int)) (H:(List Int)) (h:Int):Option (((List Int)×(List Int)×Int)⊕(((List Int)×(List Int))⊕(((List Int)×S157)⊕(S157)))) :=
  if (decide (h<X))=true then (ltt (IntKind.i64.wrap (h.tdiv 8)) fun Y=>((at_ G Y).bind fun a0=>(ltt (h.tmod 8) fun I=>(chk (0≤I) (ltt (bS .u8 a0 I) fun a2=>(ltt (IntKind.u64.wrap a2) fun a3=>(ltt (yQ .u64 a3 1) fun J=>(ltt (IntKind.i64.wrap (a1 * z)) fun a4=>(if (decide (a4≤h))=true then ((aJ (⟨G⟩:S157) (J==0)).bind fun C=>(mI C (fun C=>(kK h C.f0 H)) (fun C=>(some (.inr (.inr (.inr C))))))) else (chk (z≠0) (ltt (IntKind.i64.wrap (h.tdiv z)) fun S=>((at_ H S).bind fun a5=>(chk (z≠0) (ltt (h.tmod z) fun U=>(chk (0≤U) (ltt (yZ .u64 J U) fun a6=>(ltt (IntKind.i64.wrap a6) fun a7=>(ltt (ior .i64 a5 a7) fun a8=>(kK h G (H.set S.toNat a8)))))))))))))))))))) else (some (.inr (.inl (G,H))))
def mQ (a1:Int) (z:(Int×S157)) (C:Int) (h:(List Int)):Option (((List Int)×S157)⊕(S157)) :=
  chk (0≤a1∧(8:Int) * a1≤140737488355328) (ltt (IntKind.i64.wrap (8 * (h.length:Int))) fun G=>((loop (fun s=>gO a1 C G s.1 s.2.1 s.2.2) (h,List.replicate a1.toNat (0:Int),0)).bind fun t=>match t with | (.inl t)=>nR z t.1 t.2 | (.inr t)=>some t))
def qT (a0:S157) (a1:Int):Option (((List Int)×S157)⊕(S157)) :=
  (fX a0).bind fun z=>(mI z (fun z=>((fJ z.2).bind fun h=>(mI h (fun h=>(ltt (IntKind.i64.wrap h.1) fun H=>(if (decide (H≤64))=true then (ltt (IntKind.i64.wrap (a1 * H)) fun I=>(ltt (IntKind.i64.wrap (I+7)) fun J=>(ltt (IntKind.i64.wrap (J.tdiv 8)) fun S=>((aJ h.2 ((h.2.f0.length:Int)==S)).bind fun C=>(mI C (fun C=>(mQ a1 z H C.f0)) (fun C=>(some (.inr C)))))))) else ((aJ h.2 false).bind fun G=>(mI G (fun G=>(mQ a1 z H G.f0)) (fun G=>(some (.inr G)))))))) (fun h=>(some (.inr h)))))) (fun z=>(some (.inr z))))
def jC (h:(List Int)) (z:(List Int)):Option (((List Int)×S157)⊕(S157)) :=
  some (.inl (z,(⟨h⟩:S157)))
def wN (h:(List Int)) (z:(List Int)):Option (((List Int)×S157)⊕(S157)) :=
  jC h z
def tQ (h:(List Int)) (z:(List Int)):Option (((List Int)×S157)⊕(S157)) :=
  wN h z
def gE (I:Int) (G:(List Int)) (z:(List Int)) (J:Int) (H:Int):Option (((List Int)×(List Int)×Int×Int)⊕(((List Int)×(List Int))⊕(((List Int)×S157)⊕(S157)))) :=
  if (decide (H<I))=true then ((fX (⟨G⟩:S157)).bind fun h=>(mI h (fun h=>(ltt (IntKind.i64.wrap (J+h.1)) fun C=>(chk (z.length+[C].length≤140737488355328 / 8) (ltt (IntKind.i64.wrap (H+1)) fun S=>(some (.inl (h.2.f0,z++[C],C,S))))))) (fun h=>(some (.inr (.inr (.inr h))))))) else (some (.inr (.inl (G,z))))
def wS (h:(List Int)) (z:(List Int)):Option (((List Int)×S157)⊕(S157)) :=
  jC h z
def tT (h:(List Int)) (z:(List Int)):Option (((List Int)×S157)⊕(S157)) :=
  wS h z
def wY (h:(Int×S157)) (z:(List Int)):Option (((List Int)×(List Int))⊕(((List Int)×(List Int))⊕(((List Int)×S157)⊕(S157)))) :=
  some (.inl (h.2.f0,z))
def tP (h:(Int×S157)) (z:(List Int)):Option (((List Int)×(List Int))⊕(((List Int)×(List Int))⊕(((List Int)×S157)⊕(S157)))) :=
  wY h z
def iB (z:(Int×S157)) (G:Int) (h:(List Int)) (C:Int):Option (((List Int)×Int)⊕(((List Int)))) :=
  if (decide (C<G))=true then (chk (h.length+[z.1].length≤140737488355328 / 8) (ltt (IntKind.u64.wrap (C+1)) fun H=>(some (.inl (h++[z.1],H))))) else (some (.inr (h)))
def dT (G:Int) (H:(List Int)) (C:(List Int)):Option (((List Int)×(List Int))⊕(((List Int)×(List Int))⊕(((List Int)×S157)⊕(S157)))) :=
  if (decide ((C.length:Int)<G))=true then ((fX (⟨H⟩:S157)).bind fun h=>(mI h (fun h=>(ltt (IntKind.i64.wrap (G - (C.length:Int))) fun I=>(ltt (IntKind.i64.wrap (I - 1)) fun J=>(ltt (IntKind.u64.wrap J) fun S=>((eU h.2 S).bind fun z=>(mI z (fun z=>(ltt (IntKind.u64.wrap (1+z.1)) fun U=>((loop (fun s=>iB h U s.1 s.2) (C,0)).bind fun t=>tP z t))) (fun z=>(some (.inr (.inr (.inr z))))))))))) (fun h=>(some (.inr (.inr (.inr h))))))) else (some (.inr (.inl (H,C))))
def rS (a0:S157):Option (((List Int)×S157)⊕(S157)) :=
  (fJ a0).bind fun z=>(mI z (fun z=>((aJ z.2 (decide (z.1≤3))).bind fun H=>(mI H (fun H=>((eU H 4096).bind fun h=>(mI h (fun h=>(ltt (IntKind.i64.wrap h.1) fun I=>(if (z.1==0)=true then ((lP I h.2).bind fun C=>(mI C (fun C=>(jC C.2.f0 C.1)) (fun C=>(some (.inr C))))) else (if (z.1==1)=true then ((loop (fun s=>gE I s.1 s.2.1 s.2.2.1 s.2.2.2) (h.2.f0,[],0,0)).bind fun t=>match t with | (.inl t)=>tQ t.1 t.2 | (.inr t)=>some t) else (if (z.1==2)=true then ((loop (fun s=>dT I s.1 s.2) (h.2.f0,[])).bind fun t=>match t with | (.inl t)=>tT t.1 t.2 | (.inr t)=>some t) else (if (z.1==3)=true then (if (decide (0<I))=true then ((qT h.2 I).bind fun G=>(mI G (fun G=>(jC G.2.f0 G.1)) (fun G=>(some (.inr G))))) else (jC h.2.f0 [])) else (jC h.2.f0 []))))))) (fun h=>(some (.inr h)))))) (fun H=>(some (.inr H)))))) (fun z=>(some (.inr z))))
def oR (a0:S157) (a1:(List Int)):Option ((S157×(List Int))⊕(S157×(List Int))) :=
  (rS a0).bind fun h=>(mI h (fun h=>(some (.inl (h.2,h.1)))) (fun h=>(some (.inr (h,a1)))))
def oN (a0:(List Int)) (h:(List Int)):Option (Bool×(List Int)) :=
  (oR (⟨a0⟩:S157) h).bind fun y=>(mI y (fun y=>some ((((y.1.f0.length:Int)==0),y.2))) (fun y=>some ((false,y.2))))
def iK (a0:(List Int)):Option ((List Int)×Int) :=
  (oN a0 []).bind fun h=>(if (!h.1)=true then (some ([],3)) else (some (h.2,0)))
end
end Go.Proofs.YtnefioccdkmegaaGreatDoor.M
