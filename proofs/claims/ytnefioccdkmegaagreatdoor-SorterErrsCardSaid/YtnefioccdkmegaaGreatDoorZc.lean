/- Texts of the claim, joined: what it uses of Gr, Op, Dpg, Mpg, Dpl, Mpl, Dce, Mce, Tr, Dcr. -/
import Derived.Test.YtnefioccdkmegaaGreatDoorZb
import Derived.Test.YtnefioccdkmegaaGreatDoorProg
namespace Go.Proofs.YtnefioccdkmegaaGreatDoor.M
open Go Go.RowKit Go.Proofs.YtnefioccdkmegaaGreatDoor.E
set_option linter.unusedVariables false
set_option linter.unusedSimpArgs false
def aB1:List PanicEntry:=[{ v:=.iface 154 (.agg #[]),recovered:=false }]
theorem aYv:Tryz.prog.cellsOf 146=1:=by kernel_rfl
theorem ce2:Tryz.prog.cellsOf 2=1:=by kernel_rfl
theorem bAj:Tryz.prog.cellsOf 26=2:=by kernel_rfl
theorem ce3:Tryz.prog.cellsOf 3=1:=by kernel_rfl
theorem aXf:Tryz.prog.cellsOf 44=1:=by kernel_rfl
theorem bAo:Tryz.prog.cellsOf 45=1:=by kernel_rfl
theorem bA6:Tryz.prog.cellsOf 47=5:=by kernel_rfl
theorem ce9:Tryz.prog.cellsOf 9=1:=by kernel_rfl
theorem aW3:EN Tryz.prog 100:=bF Tryz.func100 (by kernel_rfl) rfl
theorem aU1:EN Tryz.prog 101:=bF Tryz.func101 (by kernel_rfl) rfl
theorem aXj:EN Tryz.prog 102:=bF Tryz.func102 (by kernel_rfl) rfl
theorem aYc:EN Tryz.prog 103:=bF Tryz.func103 (by kernel_rfl) rfl
theorem aZa:EN Tryz.prog 104:=bF Tryz.func104 (by kernel_rfl) rfl
theorem aW8:EN Tryz.prog 105:=bF Tryz.func105 (by kernel_rfl) rfl
theorem aYw:EN Tryz.prog 11:=bF Tryz.func11 (by kernel_rfl) rfl
theorem aL3:EN Tryz.prog 110:=bF Tryz.func110 (by kernel_rfl) rfl
theorem aYy:EN Tryz.prog 111:=bF Tryz.func111 (by kernel_rfl) rfl
theorem aZ5:EN Tryz.prog 115:=bF Tryz.func115 (by kernel_rfl) rfl
theorem aU7:EN Tryz.prog 116:=bF Tryz.func116 (by kernel_rfl) rfl
theorem aUv:EN Tryz.prog 117:=bF Tryz.func117 (by kernel_rfl) rfl
theorem aYu:EN Tryz.prog 118:=bF Tryz.func118 (by kernel_rfl) rfl
theorem aQ5:EN Tryz.prog 119:=bF Tryz.func119 (by kernel_rfl) rfl
theorem aVt:EN Tryz.prog 12:=bF Tryz.func12 (by kernel_rfl) rfl
theorem aYz:EN Tryz.prog 120:=bF Tryz.func120 (by kernel_rfl) rfl
theorem aNc:EN Tryz.prog 121:=bF Tryz.func121 (by kernel_rfl) rfl
theorem aYs:EN Tryz.prog 122:=bF Tryz.func122 (by kernel_rfl) rfl
theorem aXp:EN Tryz.prog 123:=bF Tryz.func123 (by kernel_rfl) rfl
theorem aXg:EN Tryz.prog 126:=bF Tryz.func126 (by kernel_rfl) rfl
theorem aV2:EN Tryz.prog 13:=bF Tryz.func13 (by kernel_rfl) rfl
theorem aXm:EN Tryz.prog 130:=bF Tryz.func130 (by kernel_rfl) rfl
theorem aUy:EN Tryz.prog 134:=bF Tryz.func134 (by kernel_rfl) rfl
theorem aY8:EN Tryz.prog 135:=bF Tryz.func135 (by kernel_rfl) rfl
theorem aOm:EN Tryz.prog 136:=bF Tryz.func136 (by kernel_rfl) rfl
theorem aYh:EN Tryz.prog 17:=bF Tryz.func17 (by kernel_rfl) rfl
theorem bAn:EN Tryz.prog 18:=bF Tryz.func18 (by kernel_rfl) rfl
theorem aZd:EN Tryz.prog 19:=bF Tryz.func19 (by kernel_rfl) rfl
theorem bBp:EN Tryz.prog 20:=bF Tryz.func20 (by kernel_rfl) rfl
theorem aRn:EN Tryz.prog 21:=bF Tryz.func21 (by kernel_rfl) rfl
theorem aO3:EN Tryz.prog 24:=bF Tryz.func24 (by kernel_rfl) rfl
theorem aWy:EN Tryz.prog 25:=bF Tryz.func25 (by kernel_rfl) rfl
theorem aXc:EN Tryz.prog 26:=bF Tryz.func26 (by kernel_rfl) rfl
theorem bAm:EN Tryz.prog 27:=bF Tryz.func27 (by kernel_rfl) rfl
theorem aXt:EN Tryz.prog 28:=bF Tryz.func28 (by kernel_rfl) rfl
theorem bAq:EN Tryz.prog 29:=bF Tryz.func29 (by kernel_rfl) rfl
theorem bBf:EN Tryz.prog 32:=bF Tryz.func32 (by kernel_rfl) rfl
theorem aW4:EN Tryz.prog 33:=bF Tryz.func33 (by kernel_rfl) rfl
theorem aW9:EN Tryz.prog 34:=bF Tryz.func34 (by kernel_rfl) rfl
theorem bAp:EN Tryz.prog 35:=bF Tryz.func35 (by kernel_rfl) rfl
theorem bA2:EN Tryz.prog 36:=bF Tryz.func36 (by kernel_rfl) rfl
theorem aW1:EN Tryz.prog 37:=bF Tryz.func37 (by kernel_rfl) rfl
theorem aXa:EN Tryz.prog 40:=bF Tryz.func40 (by kernel_rfl) rfl
theorem aZx:EN Tryz.prog 41:=bF Tryz.func41 (by kernel_rfl) rfl
theorem bAl:EN Tryz.prog 42:=bF Tryz.func42 (by kernel_rfl) rfl
theorem bBo:EN Tryz.prog 43:=bF Tryz.func43 (by kernel_rfl) rfl
theorem bAb:EN Tryz.prog 44:=bF Tryz.func44 (by kernel_rfl) rfl
theorem aXb:EN Tryz.prog 45:=bF Tryz.func45 (by kernel_rfl) rfl
theorem bAr:EN Tryz.prog 47:=bF Tryz.func47 (by kernel_rfl) rfl
theorem bAv:EN Tryz.prog 48:=bF Tryz.func48 (by kernel_rfl) rfl
theorem bBd:EN Tryz.prog 49:=bF Tryz.func49 (by kernel_rfl) rfl
theorem bAd:EN Tryz.prog 50:=bF Tryz.func50 (by kernel_rfl) rfl
theorem aZp:EN Tryz.prog 52:=bF Tryz.func52 (by kernel_rfl) rfl
theorem bBa:EN Tryz.prog 53:=bF Tryz.func53 (by kernel_rfl) rfl
theorem bA0:EN Tryz.prog 54:=bF Tryz.func54 (by kernel_rfl) rfl
theorem bA7:EN Tryz.prog 55:=bF Tryz.func55 (by kernel_rfl) rfl
theorem bBn:EN Tryz.prog 56:=bF Tryz.func56 (by kernel_rfl) rfl
theorem aSx:EN Tryz.prog 57:=bF Tryz.func57 (by kernel_rfl) rfl
theorem aO7:EN Tryz.prog 58:=bF Tryz.func58 (by kernel_rfl) rfl
theorem bAw:EN Tryz.prog 59:=bF Tryz.func59 (by kernel_rfl) rfl
theorem bA4:EN Tryz.prog 60:=bF Tryz.func60 (by kernel_rfl) rfl
theorem bA8:EN Tryz.prog 61:=bF Tryz.func61 (by kernel_rfl) rfl
theorem bAs:EN Tryz.prog 62:=bF Tryz.func62 (by kernel_rfl) rfl
theorem aP3:EN Tryz.prog 66:=bF Tryz.func66 (by kernel_rfl) rfl
theorem bAy:EN Tryz.prog 67:=bF Tryz.func67 (by kernel_rfl) rfl
theorem bAh:EN Tryz.prog 68:=bF Tryz.func68 (by kernel_rfl) rfl
theorem aY4:EN Tryz.prog 69:=bF Tryz.func69 (by kernel_rfl) rfl
theorem bBl:EN Tryz.prog 70:=bF Tryz.func70 (by kernel_rfl) rfl
theorem bAg:EN Tryz.prog 71:=bF Tryz.func71 (by kernel_rfl) rfl
theorem bAe:EN Tryz.prog 72:=bF Tryz.func72 (by kernel_rfl) rfl
theorem aZz:EN Tryz.prog 73:=bF Tryz.func73 (by kernel_rfl) rfl
theorem bBc:EN Tryz.prog 74:=bF Tryz.func74 (by kernel_rfl) rfl
theorem aVn:EN Tryz.prog 75:=bF Tryz.func75 (by kernel_rfl) rfl
theorem bBq:EN Tryz.prog 76:=bF Tryz.func76 (by kernel_rfl) rfl
theorem aYo:EN Tryz.prog 77:=bF Tryz.func77 (by kernel_rfl) rfl
theorem aTk:EN Tryz.prog 78:=bF Tryz.func78 (by kernel_rfl) rfl
theorem bBk:EN Tryz.prog 79:=bF Tryz.func79 (by kernel_rfl) rfl
theorem bA3:EN Tryz.prog 80:=bF Tryz.func80 (by kernel_rfl) rfl
theorem bBe:EN Tryz.prog 81:=bF Tryz.func81 (by kernel_rfl) rfl
theorem aYb:EN Tryz.prog 84:=bF Tryz.func84 (by kernel_rfl) rfl
theorem bA1:EN Tryz.prog 85:=bF Tryz.func85 (by kernel_rfl) rfl
theorem bBh:EN Tryz.prog 86:=bF Tryz.func86 (by kernel_rfl) rfl
theorem bAz:EN Tryz.prog 87:=bF Tryz.func87 (by kernel_rfl) rfl
theorem aOv:EN Tryz.prog 88:=bF Tryz.func88 (by kernel_rfl) rfl
theorem bBm:EN Tryz.prog 89:=bF Tryz.func89 (by kernel_rfl) rfl
theorem en9:EN Tryz.prog 9:=bF Tryz.func9 (by kernel_rfl) rfl
theorem aXu:EN Tryz.prog 90:=bF Tryz.func90 (by kernel_rfl) rfl
theorem aYi:EN Tryz.prog 91:=bF Tryz.func91 (by kernel_rfl) rfl
theorem aZb:EN Tryz.prog 92:=bF Tryz.func92 (by kernel_rfl) rfl
theorem aZo:EN Tryz.prog 93:=bF Tryz.func93 (by kernel_rfl) rfl
theorem aSg:EN Tryz.prog 94:=bF Tryz.func94 (by kernel_rfl) rfl
theorem aZ4:EN Tryz.prog 95:=bF Tryz.func95 (by kernel_rfl) rfl
theorem aZr:EN Tryz.prog 96:=bF Tryz.func96 (by kernel_rfl) rfl
theorem aZc:EN Tryz.prog 97:=bF Tryz.func97 (by kernel_rfl) rfl
theorem aPd:EN Tryz.prog 98:=bF Tryz.func98 (by kernel_rfl) rfl
theorem zA:EN Tryz.prog 99:=bF Tryz.func99 (by kernel_rfl) rfl
theorem aUb (n:Int):EXT Tryz.prog 124 #[.int .u64 n] (.float .f64 n.toNat):=fun w=>by kernel_rfl
theorem bA5 (b:Nat):EXT Tryz.prog 82 #[.float .f64 b] (.int .u64 b):=fun w=>by kernel_rfl
theorem vH:FA Tryz.prog 151 0 0:=fun ad w=>by kernel_rfl
theorem uZ:FA Tryz.prog 151 1 1:=fun ad w=>by kernel_rfl
theorem pN:FA Tryz.prog 157 0 0:=fun ad w=>by kernel_rfl
theorem aEj:FA Tryz.prog 26 0 0:=fun ad w=>by kernel_rfl
theorem aFy:FA Tryz.prog 26 1 1:=fun ad w=>by kernel_rfl
theorem yH:FA Tryz.prog 47 0 0:=fun ad w=>by kernel_rfl
theorem tL:FA Tryz.prog 47 1 1:=fun ad w=>by kernel_rfl
theorem mP:FA Tryz.prog 47 2 2:=fun ad w=>by kernel_rfl
theorem yX:FA Tryz.prog 47 3 3:=fun ad w=>by kernel_rfl
theorem aK1:FA Tryz.prog 47 4 4:=fun ad w=>by kernel_rfl
theorem uN:FA Tryz.prog 58 0 0:=fun ad w=>by kernel_rfl
theorem aI2:FA Tryz.prog 58 1 1:=fun ad w=>by kernel_rfl
theorem aH9:FA Tryz.prog 58 2 2:=fun ad w=>by kernel_rfl
theorem aLj:FA Tryz.prog 58 3 3:=fun ad w=>by kernel_rfl
theorem aQs:FA Tryz.prog 58 4 4:=fun ad w=>by kernel_rfl
theorem aL0:FA Tryz.prog 64 0 0:=fun ad w=>by kernel_rfl
theorem aIc:FA Tryz.prog 64 1 1:=fun ad w=>by kernel_rfl
theorem aHt:FA Tryz.prog 67 0 0:=fun ad w=>by kernel_rfl
theorem aPz:FA Tryz.prog 67 1 1:=fun ad w=>by kernel_rfl
theorem aVh:FA Tryz.prog 67 2 3:=fun ad w=>by kernel_rfl
theorem aLu:FA Tryz.prog 67 3 4:=fun ad w=>by kernel_rfl
theorem kY:(Tryz.prog.info? 2).map (fun i=>(i.zero,i.size,i.bytes))=some (some (.int .i64 0),1,8):=by kernel_rfl
theorem aU2:(Tryz.prog.info? 22).map (fun i=>(i.zero,i.size,i.bytes))=some (some (.slice none 0 0),1,24):=by kernel_rfl
theorem aZ3:(Tryz.prog.info? 3).map (fun i=>(i.zero,i.size,i.bytes))=some (some (.int .i64 0),1,8):=by kernel_rfl
theorem bAx:(Tryz.prog.info? 4).map (fun i=>(i.zero,i.size,i.bytes))=some (some (.bool false),1,1):=by kernel_rfl
theorem aM7:(Tryz.prog.info? 45).map (fun i=>(i.zero,i.size,i.bytes))=some (some (.float .f64 0),1,8):=by kernel_rfl
theorem aJu:(Tryz.prog.info? 47).map (fun i=>(i.zero,i.size,i.bytes))=some (some (.agg #[(.int .u64 0),(.int .i64 0),(.int .i64 0),(str []),(.float .f64 0)]),5,48):=by kernel_rfl
theorem aCn:(Tryz.prog.info? 5).map (fun i=>(i.zero,i.size,i.bytes))=some (some (.int .u8 0),1,1):=by kernel_rfl
theorem aUo:(Tryz.prog.info? 64).map (fun i=>(i.zero,i.size,i.bytes))=some (some (.agg #[(str []),(.slice none 0 0),(.int .i64 0)]),3,48):=by kernel_rfl
theorem aJ7:(Tryz.prog.info? 9).map (fun i=>(i.zero,i.size,i.bytes))=some (some (str []),1,16):=by kernel_rfl
theorem aXx {args:Array Value} {w:World} (h:(Extern.SlicesOverlaps.overlaps #[56,56] #[4] args).run Tryz.prog w=.ok (.bool false) w):(callFunc 38 args).run Tryz.prog w=.ok (.value (.bool false)) w:=by
  rw [run_callFunc_extern Tryz.func38 (by kernel_rfl) (by kernel_rfl) (by kernel_rfl) (e:=Extern.SlicesOverlaps.overlaps #[56,56] #[4]) (by kernel_rfl),h]
  rfl
theorem aZq:(Tryz.prog.info? 100).map (·.size)=some 1:=by kernel_rfl
theorem aZs:(Tryz.prog.info? 108).map (·.size)=some 1:=by kernel_rfl
theorem aU6:(Tryz.prog.info? 146).map (·.size)=some 1:=by kernel_rfl
theorem aYk:(Tryz.prog.info? 154).map (·.size)=some 0:=by kernel_rfl
theorem sz2:(Tryz.prog.info? 2).map (·.size)=some 1:=by kernel_rfl
theorem aCu:(Tryz.prog.info? 22).map (·.size)=some 1:=by kernel_rfl
theorem aRm:(Tryz.prog.info? 26).map (·.size)=some 2:=by kernel_rfl
theorem aNu:(Tryz.prog.info? 28).map (·.size)=some 1:=by kernel_rfl
theorem sz3:(Tryz.prog.info? 3).map (·.size)=some 1:=by kernel_rfl
theorem aCt:(Tryz.prog.info? 32).map (·.size)=some 1:=by kernel_rfl
theorem aSh:(Tryz.prog.info? 37).map (·.size)=some 1:=by kernel_rfl
theorem sz4:(Tryz.prog.info? 4).map (·.size)=some 1:=by kernel_rfl
theorem aV1:(Tryz.prog.info? 45).map (·.size)=some 1:=by kernel_rfl
theorem dI:(Tryz.prog.info? 47).map (·.size)=some 5:=by kernel_rfl
theorem sz5:(Tryz.prog.info? 5).map (·.size)=some 1:=by kernel_rfl
theorem bAu:(Tryz.prog.info? 52).map (·.size)=some 1:=by kernel_rfl
theorem aW6:(Tryz.prog.info? 56).map (·.size)=some 1:=by kernel_rfl
theorem qR:(Tryz.prog.info? 64).map (·.size)=some 3:=by kernel_rfl
theorem sz9:(Tryz.prog.info? 9).map (·.size)=some 1:=by kernel_rfl
theorem aXi:(Tryz.prog.info? 108).bind (·.zero)=some (.slice none 0 0):=by kernel_rfl
theorem aYa:(Tryz.prog.info? 124).bind (·.zero)=some (.agg #[(.slice none 0 0),(.slice none 0 0),(.slice none 0 0),(.slice none 0 0),(.slice none 0 0)]):=by kernel_rfl
theorem aYr:(Tryz.prog.info? 154).bind (·.zero)=some (.agg #[]):=by kernel_rfl
theorem aZ9:(Tryz.prog.info? 22).bind (·.zero)=some (.slice none 0 0):=by kernel_rfl
theorem bBi:(Tryz.prog.info? 28).bind (·.zero)=some (.int .i64 0):=by kernel_rfl
theorem zr3:(Tryz.prog.info? 3).bind (·.zero)=some (.int .i64 0):=by kernel_rfl
theorem bBb:(Tryz.prog.info? 32).bind (·.zero)=some (.slice none 0 0):=by kernel_rfl
theorem aWt:(Tryz.prog.info? 37).bind (·.zero)=some (.slice none 0 0):=by kernel_rfl
theorem zr4:(Tryz.prog.info? 4).bind (·.zero)=some (.bool false):=by kernel_rfl
theorem aJb:(Tryz.prog.info? 47).bind (·.zero)=some (.agg #[(.int .u64 0),(.int .i64 0),(.int .i64 0),(str []),(.float .f64 0)]):=by kernel_rfl
theorem aWj:(Tryz.prog.info? 64).bind (·.zero)=some (.agg #[(str []),(.slice none 0 0),(.int .i64 0)]):=by kernel_rfl
abbrev pP (g:Nat):Value:=.pointer (some ⟨g,0,none⟩)
abbrev uu2:=Tryz.underlying2
abbrev uu3:=Tryz.underlying3
abbrev uu4:=Tryz.underlying4
abbrev uu5:=Tryz.underlying5
abbrev uu9:=Tryz.underlying9
abbrev gO:=Tryz.underlying22
abbrev aP7:=Tryz.underlying26
abbrev yK:=Tryz.underlying27
abbrev aOd:=Tryz.underlying28
abbrev fC:=Tryz.underlying32
abbrev lL:=Tryz.underlying37
abbrev nH:=Tryz.underlying44
abbrev aOc:=Tryz.underlying45
abbrev nG:=Tryz.underlying47
abbrev wJ:=Tryz.underlying52
abbrev kC:=Tryz.underlying56
abbrev aSa:=Tryz.underlying64
abbrev aK2:=Tryz.underlying65
abbrev aDy:=Tryz.underlying93
abbrev qJ:=Tryz.underlying100
abbrev bM:=Tryz.underlying108
abbrev aCe:=Tryz.underlying109
abbrev aT9:=Tryz.underlying113
abbrev aVa:=Tryz.underlying117
abbrev aHb:=Tryz.underlying124
abbrev aUm:=Tryz.underlying135
abbrev wL:=Tryz.underlying146
abbrev aXr:=Tryz.underlying154
abbrev aNf:=Tryz.underlying161
abbrev aU4:=Tryz.underlying174
def g26 (x:S26):Prop:=(gI .i64) x.f0∧(gI .i64) x.f1
set_option maxRecDepth 100000 in
theorem op26 {W:World}:Opens Tryz.prog W 26 k26 g26:=by
  intro H enc held fuel cs x h hw
  obtain⟨ys,n,_,rfl,hl,hyl,hf⟩:=DataW.trod_struct Tryz.underlying26 h
  rw [bAj] at hl
  match cs,hl with
  | [c0,c1],_ =>
    obtain⟨a0,h0,q0⟩:=fld Tryz.underlying26 hf hyl hw 0 rfl (o:=0) (c:=1) (t:=3) rfl rfl ce3 (opI Tryz.underlying3)
    cases (show [c0]=[.int .i64 a0] from h0)
    obtain⟨a1,h1,q1⟩:=fld Tryz.underlying26 hf hyl hw 1 rfl (o:=1) (c:=1) (t:=3) rfl rfl ce3 (opI Tryz.underlying3)
    cases (show [c1]=[.int .i64 a1] from h1)
    exact⟨⟨a0,a1⟩,rfl,q0,q1⟩
def g47 (x:S47):Prop:=(gI .u64) x.f0∧(gI .i64) x.f1∧(gI .i64) x.f2∧gS x.f3∧gF x.f4
set_option maxRecDepth 100000 in
theorem op47 {W:World}:Opens Tryz.prog W 47 k47 g47:=by
  intro H enc held fuel cs x h hw
  obtain⟨ys,n,_,rfl,hl,hyl,hf⟩:=DataW.trod_struct Tryz.underlying47 h
  rw [bA6] at hl
  match cs,hl with
  | [c0,c1,c2,c3,c4],_ =>
    obtain⟨a0,h0,q0⟩:=fld Tryz.underlying47 hf hyl hw 0 rfl (o:=0) (c:=1) (t:=44) rfl rfl aXf (opI Tryz.underlying44)
    cases (show [c0]=[.int .u64 a0] from h0)
    obtain⟨a1,h1,q1⟩:=fld Tryz.underlying47 hf hyl hw 1 rfl (o:=1) (c:=1) (t:=3) rfl rfl ce3 (opI Tryz.underlying3)
    cases (show [c1]=[.int .i64 a1] from h1)
    obtain⟨a2,h2,q2⟩:=fld Tryz.underlying47 hf hyl hw 2 rfl (o:=2) (c:=1) (t:=2) rfl rfl ce2 (opI Tryz.underlying2)
    cases (show [c2]=[.int .i64 a2] from h2)
    obtain⟨a3,h3,q3⟩:=fld Tryz.underlying47 hf hyl hw 3 rfl (o:=3) (c:=1) (t:=9) rfl rfl ce9 (opS Tryz.underlying9)
    cases (show [c3]=[str a3] from h3)
    obtain⟨a4,h4,q4⟩:=fld Tryz.underlying47 hf hyl hw 4 rfl (o:=4) (c:=1) (t:=45) rfl rfl bAo (opF Tryz.underlying45)
    cases (show [c4]=[.float .f64 a4] from h4)
    exact⟨⟨a0,a1,a2,a3,a4⟩,rfl,q0,q1,q2,q3,q4⟩
noncomputable section
set_option linter.unusedSimpArgs false
def zO (h:Int):Option (Int) :=
  some (xN .u32 (IntKind.u32.max) h)
def xG (h:Int):Option (Int) :=
  zO h
def mK (a0:(List Int)) (h:Int) (z:Int):Option ((Int×Int)⊕((Int))) :=
  if (decide (z<(a0.length:Int)))=true then ((at_ a0 z).bind fun H=>(ltt (IntKind.u32.wrap H) fun C=>(ltt (xN .u32 h C) fun I=>(ltt (yM .u32 I 15) fun J=>((at_ cX J).bind fun S=>(ltt (bS .u32 h 4) fun U=>(ltt (xN .u32 S U) fun G=>(ltt (bS .u32 C 4) fun X=>(ltt (xN .u32 G X) fun Y=>(ltt (yM .u32 Y 15) fun a1=>((at_ cX a1).bind fun a2=>(ltt (bS .u32 G 4) fun a3=>(ltt (xN .u32 a2 a3) fun a4=>(ltt (IntKind.i64.wrap (z+1)) fun a5=>(some (.inl (a4,a5))))))))))))))))) else (some (.inr (h)))
def xI (a0:(List Int)):Option (Int) :=
  (loop (fun s=>mK a0 s.1 s.2) (4294967295,0)).bind fun t=>xG t
def rU (a0:(List Int)):Option (Int) :=
  (at_ a0 0).bind fun h=>(ltt (IntKind.u32.wrap h) fun z=>((at_ a0 1).bind fun C=>(ltt (IntKind.u32.wrap C) fun G=>(ltt (yP .u32 G 8) fun H=>(ltt (ior .u32 z H) fun I=>((at_ a0 2).bind fun J=>(ltt (IntKind.u32.wrap J) fun S=>(ltt (yP .u32 S 16) fun U=>(ltt (ior .u32 I U) fun X=>((at_ a0 3).bind fun Y=>(ltt (IntKind.u32.wrap Y) fun a1=>(ltt (yP .u32 a1 24) fun a2=>(ltt (ior .u32 X a2) fun a3=>(some a3))))))))))))))
def dT (a0:(List Int)):Option ((List Int)) :=
  oY (a0).isEmpty (some []) (chk (([]:List Int).length+a0.length≤140737488355328 / 1) (some a0))
def sH (a1:Int) (h:(List Int)) (C:(Int)) (G:Bool):Option (Int×(List Int)×Int×Int) :=
  if G=true then (some (0,[],0,3)) else (ltt (IntKind.i64.wrap C) fun H=>(ltt (IntKind.i64.wrap (5+H)) fun z=>((pA h 0 z).bind fun I=>((pA h z (h.length:Int)).bind fun J=>((xI I).bind fun S=>((rU J).bind fun U=>(if (S != U)=true then (some (0,[],0,4)) else ((at_ h 4).bind fun X=>((pA h 5 z).bind fun Y=>(ltt (IntKind.i64.wrap (a1+z)) fun a0=>(ltt (IntKind.i64.wrap (a0+4)) fun a2=>((dT Y).bind fun a3=>(some (X,a3,a2,0))))))))))))))
def sG (a0:(List Int)) (a1:Int) (C:Bool):Option (Int×(List Int)×Int×Int) :=
  if C=true then (some (0,[],0,1)) else ((pA a0 a1 (a0.length:Int)).bind fun h=>(if (decide ((h.length:Int)<9))=true then (some (0,[],0,3)) else ((rU h).bind fun z=>(if (decide (1048576<z))=true then (sH a1 h z true) else (ltt (IntKind.i64.wrap z) fun G=>(ltt (IntKind.i64.wrap ((h.length:Int) - 9)) fun H=>(sH a1 h z (decide (H<G)))))))))
def xQ (a0:(List Int)) (a1:Int):Option (Int×(List Int)×Int×Int) :=
  if (decide (a1<0))=true then (sG a0 a1 true) else (sG a0 a1 (decide ((a0.length:Int)<a1)))
end
set_option maxRecDepth 100000
set_option maxHeartbeats 4000000
section
variable {r:World} {L:List HP} {w:World} {Z:Nat→Prop} {wz:World}
theorem aEw {a0 A0 n0 c0 y} (G:xI a0=some y) (X:SH r (L) w) (qz:Nat) (hZ:L[qz]?=some (zone Z wz)) (ha0:RdL L (kI .u8) A0 n0 c0 a0) (hG1:Imm Z wz (kI .u32) (some ⟨1,0,none⟩) 16 16 cX) :
  Ret Tryz.prog 92 #[.slice A0 n0 c0] w fun v w'=>v=.int .u32 y∧SH r (L) w':=by
 refine enter Tryz.func92 rfl Tryz.ntmps92 [(0,_)] rfl (by simp) ?_
 intro U J Qf hQ hQn
 unfold xI at G
 refine nz 1 J rfl fun U J=>nz 1 J rfl fun U J=>wp_seq_k fun d0 a1=>ws fun d1 a2=>xk 1 J rfl fun U J=>bC fC (X.rdl 0 ha0 rfl).2.1 J (fun U J=>?_) rfl
 refine x_m J rfl fun U J=>wn (a2 _ _ ?_)
 refine aA fun C a3=>?_
 have hb1:∀z,zO z=some y→∀U w,FR 36 [] U [(3,.int .u32 z)]→SH r (L) w→C U w:=by
  intro z G U w J X
  unfold zO at G
  refine a3 _ _ (a1 _ _ ?_)
  refine ws fun d2 a4=>xk 1 J rfl fun U J=>x_v J (aTg rfl (J.ev rfl)) rfl fun U J=>x_m J rfl fun U J=>wn (a4 _ _ ?_)
  cases G
  refine wp_ret (hQ _ _ ?_)
  exact lv Tryz.results92 J rfl ⟨rfl,X⟩
 obtain⟨a5,a6,G⟩:=bnd G
 have a7:∀h,(h)=a5→∀U w,FR 36 [] U [(3,.int .u32 h)]→SH r (L) w→C U w:=by
  intro h ht U w J X
  subst ht
  replace G:xG h=some y:=G
  unfold xG at G
  exact hb1 h G U w (J.sub _ rfl) X
 refine aE a6 (fun s U w=>FR 36 [] U [(3,.int .u32 s.1),(6,.slice A0 n0 c0),(7,.int .i64 (a0.length:Int)),(8,.int .i64 s.2)]∧SH r (L) w) ⟨J.sub _ rfl,X⟩ ?_
 intro d3 a8 a9 G b3 b4 U w hLab
 obtain⟨H,b5⟩:=a8
 replace G:mK a0 H b5=some a9:=G
 unfold mK at G
 try dsimp only at hLab
 obtain⟨J,X⟩:=hLab
 refine nz 1 J rfl fun U J=>wp_seq_k fun d4 b6=>bH J G rfl (fun b7 G=>?_) fun b7 G=>?_
 ·refine wp_skip (b6 _ _ ?_)
  refine wp_seq_k fun d5 b8=>aA fun d6 b9=>ws fun d7 c3=>?_
  obtain⟨d8,I,G⟩:=bnd G
  refine fR fC sz5 (X.rdl 0 ha0 rfl) I J (fun U J=>?_) rfl
  obtain⟨cs,hV,c4⟩:=el (X.rdl 0 ha0 rfl) I
  obtain rfl:=hV
  refine aK uu5 (c4 0 _ rfl) J (fun U J=>?_) rfl
  refine x_m J rfl fun U J=>wn (c3 _ _ ?_)
  refine ws fun d9 c5=>xk 2 J rfl fun U J=>iQ G J (aX uu5 wL rfl (J.ev rfl)) rfl fun c6 c7 U J G=>x_l G J rfl fun e0 _ U J G=>x_l G J rfl fun e1 _ U J G=>?_
  obtain⟨e2,S,G⟩:=bnd G
  refine zC aU4 aU6 (X.rdl 0 (hG1.rdl qz hZ) rfl) S J (fun U J=>?_) rfl
  obtain⟨cs,hV,c8⟩:=el (X.rdl 0 (hG1.rdl qz hZ) rfl) S
  obtain rfl:=hV
  refine aK wL (c8 0 _ rfl) J (fun U J=>?_) rfl
  refine x_m J rfl fun U J=>iQ G J (rW rfl (J.ev rfl) (J.ev rfl) (by decide)) rfl fun e3 _ U J G=>x_l G J rfl fun e4 _ U J G=>x_m J rfl fun U J=>wn (c5 _ _ ?_)
  refine aC (xk 2 J rfl fun U J=>?_)
  refine x_v (v:=.int .u32 c6) J (kR c7 (aX uu5 wL rfl (J.ev rfl))) rfl fun U J=>iQ G J (rW rfl (J.ev rfl) (J.ev rfl) (by decide)) rfl fun e5 _ U J G=>x_l G J rfl fun e6 _ U J G=>x_l G J rfl fun e7 _ U J G=>?_
  obtain⟨e8,Y,G⟩:=bnd G
  refine zC aU4 aU6 (X.rdl 0 (hG1.rdl qz hZ) rfl) Y J (fun U J=>?_) rfl
  obtain⟨cs,hV,c9⟩:=el (X.rdl 0 (hG1.rdl qz hZ) rfl) Y
  obtain rfl:=hV
  refine aK wL (c9 0 _ rfl) J (fun U J=>?_) rfl
  refine x_m J rfl fun U J=>iQ G J (rW rfl (J.ev rfl) (J.ev rfl) (by decide)) rfl fun e9 _ U J G=>x_l G J rfl fun f2 _ U J G=>x_m J rfl fun U J=>wpList_nil (b9 _ _ ?_)
  refine b8 _ _ (aC ?_)
  refine x_l G J rfl fun f3 _ U J G=>x_m J rfl fun U J=>wpList_nil ?_
  cases G
  exact⟨_,b3 _ rfl,J.sub _ rfl,X⟩
 cases G
 exact wp_exit (a7 H (b4 _ rfl) U w (J.sub _ rfl) X)
theorem aAu {a0 A0 n0 c0 y} (G:rU a0=some y) (X:SH r (L) w) (ha0:RdL L (kI .u8) A0 n0 c0 a0) :
  Ret Tryz.prog 96 #[.slice A0 n0 c0] w fun v w'=>v=.int .u32 y∧SH r (L) w':=by
 refine enter Tryz.func96 rfl Tryz.ntmps96 [(0,_)] rfl (by simp) ?_
 intro U J Qf hQ hQn
 unfold rU at G
 refine nz 1 J rfl fun U J=>wp_seq_k fun d3 b5=>dE [0,1,3,7,0,16,48,112,240,511,0,1024,3072,7168,15360,32767,0,65536,196608,458752,983040,2097151,4194303] [] rfl J X (by kernel_rfl) (by kernel_rfl) (by kernel_rfl) (by kernel_rfl) fun w X=>?_
 obtain⟨h,z,G⟩:=bnd G
 obtain⟨cs,hV,b6⟩:=el (X.rdl 0 ha0 rfl) z
 obtain rfl:=hV
 obtain⟨C,b7,G⟩:=nR G
 obtain⟨H,I,G⟩:=bnd G
 obtain⟨cs,hV,b8⟩:=el (X.rdl 0 ha0 rfl) I
 obtain rfl:=hV
 obtain⟨S,b9,G⟩:=nR G
 obtain⟨Y,c3,G⟩:=nR G
 obtain⟨a1,c4,G⟩:=nR G
 obtain⟨a2,a3,G⟩:=bnd G
 obtain⟨cs,hV,c5⟩:=el (X.rdl 0 ha0 rfl) a3
 obtain rfl:=hV
 obtain⟨a4,c6,G⟩:=nR G
 obtain⟨a5,c7,G⟩:=nR G
 obtain⟨a6,c8,G⟩:=nR G
 obtain⟨a7,a8,G⟩:=bnd G
 obtain⟨cs,hV,c9⟩:=el (X.rdl 0 ha0 rfl) a8
 obtain rfl:=hV
 obtain⟨a9,d0,G⟩:=nR G
 obtain⟨b3,d1,G⟩:=nR G
 obtain⟨b4,d2,G⟩:=nR G
 refine⟨[(0,.slice A0 n0 c0),(1,.pointer (some (ea A0 ((0:Int).toNat * 1)))),(2,.int .u8 h),(3,.int .u32 C),(4,.slice A0 n0 c0),(5,.pointer (some (ea A0 ((1:Int).toNat * 1)))),(6,.int .u8 H),(7,.int .u32 S),(8,.int .u32 Y),(9,.int .u32 a1),(10,.slice A0 n0 c0),(11,.pointer (some (ea A0 ((2:Int).toNat * 1)))),(12,.int .u8 a2),(13,.int .u32 a4),(14,.int .u32 a5),(15,.int .u32 a6),(16,.slice A0 n0 c0),(17,.pointer (some (ea A0 ((3:Int).toNat * 1)))),(18,.int .u8 a7),(19,.int .u32 a9),(20,.int .u32 b3),(21,.int .u32 b4),(22,.int .u32 b4)],?_⟩
 refine gW [0,1,2,3,4,5,6,7,8,9,10,11,12,13,14,15,16,17,18,19,20,21,22] (by kernel_rfl) ⟨pm rfl,pt [(3,.slice A0 n0 c0)] rfl (fun U J=>fT fC sz5 (X.rdl 0 ha0 rfl) z J rfl rfl rfl),pt [(4,.pointer (some (ea A0 ((0:Int).toNat * 1))))] rfl (fun U J=>cM uu5 (b6 0 _ rfl) J rfl rfl rfl),pt [(5,.int .u8 h)] rfl fun U J=>kR b7 (aX uu5 wL rfl (J.ev rfl)),pm rfl,pt [(7,.slice A0 n0 c0)] rfl (fun U J=>fT fC sz5 (X.rdl 0 ha0 rfl) I J rfl rfl rfl),pt [(8,.pointer (some (ea A0 ((1:Int).toNat * 1))))] rfl (fun U J=>cM uu5 (b8 0 _ rfl) J rfl rfl rfl),pt [(9,.int .u8 H)] rfl fun U J=>kR b9 (aX uu5 wL rfl (J.ev rfl)),pt [(10,.int .u32 S)] rfl fun U J=>kR c3 (aF8 rfl (J.ev rfl) (J.ev rfl) (by decide)),pt [(6,.int .u32 C),(11,.int .u32 Y)] rfl fun U J=>kR c4 (aN0 rfl (J.ev rfl) (J.ev rfl)),pm rfl,pt [(13,.slice A0 n0 c0)] rfl (fun U J=>fT fC sz5 (X.rdl 0 ha0 rfl) a3 J rfl rfl rfl),pt [(14,.pointer (some (ea A0 ((2:Int).toNat * 1))))] rfl (fun U J=>cM uu5 (c5 0 _ rfl) J rfl rfl rfl),pt [(15,.int .u8 a2)] rfl fun U J=>kR c6 (aX uu5 wL rfl (J.ev rfl)),pt [(16,.int .u32 a4)] rfl fun U J=>kR c7 (aF8 rfl (J.ev rfl) (J.ev rfl) (by decide)),pt [(12,.int .u32 a1),(17,.int .u32 a5)] rfl fun U J=>kR c8 (aN0 rfl (J.ev rfl) (J.ev rfl)),pm rfl,pt [(19,.slice A0 n0 c0)] rfl (fun U J=>fT fC sz5 (X.rdl 0 ha0 rfl) a8 J rfl rfl rfl),pt [(20,.pointer (some (ea A0 ((3:Int).toNat * 1))))] rfl (fun U J=>cM uu5 (c9 0 _ rfl) J rfl rfl rfl),pt [(21,.int .u8 a7)] rfl fun U J=>kR d0 (aX uu5 wL rfl (J.ev rfl)),pt [(22,.int .u32 a9)] rfl fun U J=>kR d1 (aF8 rfl (J.ev rfl) (J.ev rfl) (by decide)),pt [(18,.int .u32 a6),(23,.int .u32 b3)] rfl fun U J=>kR d2 (aN0 rfl (J.ev rfl) (J.ev rfl)),pm rfl,trivial⟩ ⟨by kernel_rfl,by kernel_rfl⟩ [(2,_)] rfl (fun U J=>?_)
 cases G
 refine b5 _ _ (wp_ret ?_)
 refine hQ _ _ (lv Tryz.results96 J rfl ?_)
 exact⟨rfl,X⟩
theorem qX {a0 A0 n0 c0 y} (G:dT a0=some y) (X:SH r (L) w) (ha0:RdL L (kI .u8) A0 n0 c0 a0) :
  Ret Tryz.prog 34 #[.slice A0 n0 c0] w fun v w'=>∃ (B0:Option Addr) (m0:Nat) (d0:Nat),v=.slice B0 m0 d0∧SH r (own (kI .u8) 5 B0 m0 d0 y::L) w':=by
 refine enter Tryz.func34 rfl Tryz.ntmps34 [(0,_)] rfl (by simp) ?_
 intro U J Qf hQ hQn
 unfold dT at G
 refine nz 1 J rfl fun U J=>wp_seq_k fun a2 z=>ws fun a3 h=>xk 1 J rfl fun U J=>?_
 rcases A0 with _ | C
 ·replace G:=aUc (RdL.none_nil ha0 (X.sfx 0)) G
  refine x_v (v:=.bool true) J (aB0 (p:=none) fC rfl (J.ev rfl) (J.ev rfl)) rfl fun U J=>wn (h _ _ ?_)
  refine c_t (b:=true) rfl J ?_ rfl
  refine nz 1 J rfl fun U J=>?_
  replace X:=SH.nil_own (d:=(kI .u8)) (e:=5) X
  cases G
  refine wp_ret (hQ _ _ ?_)
  exact lv Tryz.results34 J rfl ⟨none,0,0,rfl,X⟩
 replace G:=aU3 G
 refine x_v (v:=.bool false) J (aB0 (p:=some C) fC rfl (J.ev rfl) (J.ev rfl)) rfl fun U J=>wn (h _ _ ?_)
 refine c_f (b:=false) rfl J ?_ rfl
 refine wp_skip (z _ _ ?_)
 refine ws fun a4 H=>iV (d:=(kI .u8)) (e:=5) (ps:=#[]) (cells:=[]) (xs:=[]) (fun w=>by kernel_rfl) rfl rfl J X (fun a5 U w X J=>?_) rfl
 refine x_m J rfl fun U J=>?_
 obtain⟨I,G⟩:=aB G
 have hr:=X.rdl 1 ha0 rfl
 refine iP 0 aCn fC J X hr.1 hr.2.1 I rfl (fun S Y a1 U w X J=>?_) rfl
 rw [List.nil_append] at X
 refine x_m J rfl fun U J=>wn (H _ _ ?_)
 cases G
 refine wp_ret (hQ _ _ ?_)
 exact lv Tryz.results34 J rfl ⟨S,Y,a1,rfl,X⟩
theorem aJw {a0 a1 A0 n0 c0 y} (G:xQ a0 a1=some y) (X:SH r (L) w) (qz:Nat) (hZ:L[qz]?=some (zone Z wz)) (ha0:Imm Z wz (kI .u8) A0 n0 c0 a0) (hG1:Imm Z wz (kI .u32) (some ⟨1,0,none⟩) 16 16 cX) :
  Ret Tryz.prog 74 #[.slice A0 n0 c0,.int .i64 a1] w fun v w'=>∃ (B1:Option Addr) (m1:Nat) (d1:Nat),v=.tuple #[(.int .u8 y.1),(.slice B1 m1 d1),(.int .i64 y.2.2.1),(.int .i64 y.2.2.2)]∧SH r (own (kI .u8) 5 B1 m1 d1 y.2.1::L) w':=by
 refine enter Tryz.func74 rfl Tryz.ntmps74 [(0,_),(1,_)] rfl (by simp) ?_
 intro U J Qf hQ hQn
 unfold xQ at G
 refine nz 4 J rfl fun U J=>wp_seq_k fun h2 c7=>wp_seq_k fun c8 c9=>?_
 have hj1:∀a5,sG a0 a1 a5=some y→∀U w,FR 60 [] U [(0,.slice A0 n0 c0),(1,.int .i64 a1),(18,.bool a5)]→SH r (L) w→c8 U w:=by
  intro a5 G U w J X
  unfold sG at G
  refine c9 _ _ (bH J G rfl (fun d0 G=>?_) fun d0 G=>?_)
  ·refine nz 4 J rfl fun U J=>?_
   replace X:=SH.nil_own (d:=(kI .u8)) (e:=5) X
   cases G
   refine wp_ret (hQ _ _ ?_)
   exact lv4 Tryz.results74 J rfl rfl rfl rfl ⟨none,0,0,rfl,X⟩
  refine wp_skip (c7 _ _ ?_)
  refine ws fun h3 d2=>xk 2 J rfl fun U J=>?_
  obtain⟨d3,a6,G⟩:=bnd G
  obtain⟨z,H,I,d4,h⟩:=aFz ha0 a6
  refine x_v (v:=.slice z H I) J (aF5 d4 (lQ fC sz5 rfl (J.ev rfl) (J.ev rfl) (uP (X.rdl 0 (ha0.rdl qz hZ) rfl) a6).1 (uP (X.rdl 0 (ha0.rdl qz hZ) rfl) a6).2.2.2.2.2)) rfl fun U J=>x_m J rfl fun U J=>wn (d2 _ _ ?_)
  refine wp_seq_k fun h4 d5=>ws fun h5 d6=>xk 1 J rfl fun U J=>bC fC (X.rdl 0 (h.rdl qz hZ) rfl).2.1 J (fun U J=>?_) rfl
  refine nk 1 J rfl fun U J=>d6 _ _ (bH J G rfl (fun d7 G=>?_) fun d7 G=>?_)
  ·refine nz 4 J rfl fun U J=>?_
   replace X:=SH.nil_own (d:=(kI .u8)) (e:=5) X
   cases G
   refine wp_ret (hQ _ _ ?_)
   exact lv4 Tryz.results74 J rfl rfl rfl rfl ⟨none,0,0,rfl,X⟩
  refine wp_skip (d5 _ _ ?_)
  refine ws fun h6 d8=>xk 1 J rfl fun U J=>?_
  obtain⟨a9,d9,G⟩:=bnd G
  refine x_c aZr J rfl (aAu d9 X (RdL.sfx 0 rfl (h.rdl qz hZ)) :) fun v U w hR J=>?_
  obtain⟨rfl,X⟩:=hR
  refine x_m J rfl fun U J=>wn (d8 _ _ ?_)
  refine wp_seq_k fun h7 e0=>wp_seq_k fun e1 e2=>?_
  have hj2:∀a7,sH a1 d3 a9 a7=some y→∀U w,FR 60 [] U [(1,.int .i64 a1),(8,.slice z H I),(9,.int .u32 a9),(36,.bool a7)]→SH r (L) w→e1 U w:=by
   intro a7 G U w J X
   unfold sH at G
   refine e2 _ _ (bH J G rfl (fun e3 G=>?_) fun e3 G=>?_)
   ·refine nz 4 J rfl fun U J=>?_
    replace X:=SH.nil_own (d:=(kI .u8)) (e:=5) X
    cases G
    refine wp_ret (hQ _ _ ?_)
    exact lv4 Tryz.results74 J rfl rfl rfl rfl ⟨none,0,0,rfl,X⟩
   refine wp_skip (e0 _ _ ?_)
   refine ws fun h8 e4=>xk 1 J rfl fun U J=>iQ G J (aX wL uu3 rfl (J.ev rfl)) rfl fun h9 _ U J G=>x_l G J rfl fun S _ U J G=>x_m J rfl fun U J=>wn (e4 _ _ ?_)
   refine wp_seq_k fun i0 e5=>wp_seq_k fun i1 e6=>dE [0,0,3,7,0,0,48,127,255] [3,7] rfl J X (by kernel_rfl) (by kernel_rfl) (by kernel_rfl) (by kernel_rfl) fun w X=>?_
   obtain⟨i2,a8,G⟩:=bnd G
   obtain⟨e7,e8,e9,f2,f3⟩:=aQ9 h a8
   obtain⟨i3,Y,G⟩:=bnd G
   obtain⟨f4,f5,f6,b3,f7⟩:=aFz h Y
   refine⟨[(0,.slice z H I),(1,.int .i64 S),(2,.slice e7 e8 e9),(4,.slice z H I),(5,.int .i64 S),(6,.slice f4 f5 f6)],?_⟩
   refine dF [0,1,2,4,5,6] [3] (by kernel_rfl) ⟨pm rfl,pm rfl,pt [(40,_),(41,_)] rfl fun U J=>aF5 f2 (xT fC sz5 rfl (J.ev rfl) (J.ev rfl) (uP (X.rdl 0 (h.rdl qz hZ) rfl) a8).2.2.2.2.1 (uP (X.rdl 0 (h.rdl qz hZ) rfl) a8).2.2.1),pm rfl,pm rfl,pt [(44,_),(45,_)] rfl fun U J=>aF5 b3 (lQ fC sz5 rfl (J.ev rfl) (J.ev rfl) (uP (X.rdl 0 (h.rdl qz hZ) rfl) Y).1 (uP (X.rdl 0 (h.rdl qz hZ) rfl) Y).2.2.2.2.2),trivial⟩ ⟨et [(42,_)] rfl (fun U J K hK=>?_),trivial⟩
   obtain⟨b4,f8,G⟩:=bnd G
   refine pQ aZb J (aEw f8 X (qz+0) hZ (RdL.sfx 0 rfl (f3.rdl qz hZ)) hG1 :) (fun v w hR=>?_) rfl
   obtain⟨rfl,X⟩:=hR
   refine hK _ [] _ rfl (dF [4,5,6] [7] (by kernel_rfl) ⟨pm rfl,pm rfl,pt [(44,_),(45,_)] rfl fun U J=>aF5 b3 (lQ fC sz5 rfl (J.ev rfl) (J.ev rfl) (uP (X.rdl 0 (h.rdl qz hZ) rfl) Y).1 (uP (X.rdl 0 (h.rdl qz hZ) rfl) Y).2.2.2.2.2),trivial⟩ ⟨et [(46,_)] rfl (fun U J K hK=>?_),trivial⟩)
   obtain⟨b5,f9,G⟩:=bnd G
   refine pQ aZr J (aAu f9 X (RdL.sfx 0 rfl (f7.rdl qz hZ)) :) (fun v w hR=>?_) rfl
   obtain⟨rfl,X⟩:=hR
   refine hK _ [(8,.bool (b4 != b5))] _ rfl (gW [8] (by kernel_rfl) ⟨pt [(43,.int .u32 b4),(47,.int .u32 b5)] rfl (fun U J=>aUl rfl (J.ev rfl) (J.ev rfl)),trivial⟩ ⟨by kernel_rfl,by kernel_rfl⟩ [(1,_),(8,_),(10,_),(48,_)] rfl (fun U J=>?_))
   refine e6 _ _ (bH J G rfl (fun g0 G=>?_) fun g0 G=>?_)
   ·refine nz 4 J rfl fun U J=>?_
    replace X:=SH.nil_own (d:=(kI .u8)) (e:=5) X
    cases G
    refine wp_ret (hQ _ _ ?_)
    exact lv4 Tryz.results74 J rfl rfl rfl rfl ⟨none,0,0,rfl,X⟩
   refine wp_skip (e5 _ _ ?_)
   refine wp_seq_k fun i4 g1=>dE [0,1,3,0,0,24,56,0,0,384,896,127,2175,8191,16383] [6] rfl J X (by kernel_rfl) (by kernel_rfl) (by kernel_rfl) (by kernel_rfl) fun w X=>?_
   obtain⟨b6,a3,G⟩:=bnd G
   obtain⟨cs,hV,g2⟩:=el (X.rdl 0 (h.rdl qz hZ) rfl) a3
   obtain rfl:=hV
   obtain⟨i5,a4,G⟩:=bnd G
   obtain⟨g3,g4,g5,g6,g7⟩:=aSy h a4
   obtain⟨b7,b8,G⟩:=nR G
   obtain⟨b9,c3,G⟩:=nR G
   refine⟨[(0,.slice z H I),(1,.pointer (some (ea z ((4:Int).toNat * 1)))),(2,.int .u8 b6),(3,.slice z H I),(4,.int .i64 S),(5,.slice g3 g4 g5),(7,.int .i64 a1),(8,.int .i64 S),(9,.int .i64 b7),(10,.int .i64 b9)],?_⟩
   refine dF [0,1,2,3,4,5,7,8,9,10] [6] (by kernel_rfl) ⟨pm rfl,pt [(49,_)] rfl (fun U J=>fT fC sz5 (X.rdl 0 (h.rdl qz hZ) rfl) a3 J rfl rfl rfl),pt [(50,_)] rfl (fun U J=>cM uu5 (g2 0 _ rfl) J rfl rfl rfl),pm rfl,pm rfl,pt [(52,_),(53,_)] rfl fun U J=>aF5 g6 (aFn fC sz5 rfl (J.ev rfl) (J.ev rfl) (J.ev rfl) (uP (X.rdl 0 (h.rdl qz hZ) rfl) a4).1 (uP (X.rdl 0 (h.rdl qz hZ) rfl) a4).2.1 (uP (X.rdl 0 (h.rdl qz hZ) rfl) a4).2.2.1),pm rfl,pm rfl,pt [(56,_),(57,_)] rfl fun U J=>kR b8 (iT rfl (J.ev rfl) (J.ev rfl)),pt [(58,_)] rfl fun U J=>kR c3 (iT rfl (J.ev rfl) (J.ev rfl)),trivial⟩ ⟨et [(54,_)] rfl (fun U J K hK=>?_),trivial⟩
   obtain⟨i6,g8,G⟩:=bnd G
   refine pQ aW9 J (qX g8 X (RdL.sfx 0 rfl (g7.rdl qz hZ)) :) (fun v w hR=>?_) rfl
   obtain⟨c4,c5,c6,rfl,X⟩:=hR
   obtain⟨cs,hV,g9⟩:=el (X.rdl 1 (h.rdl qz hZ) rfl) a3
   obtain rfl:=hV
   refine hK _ [(11,.int .u8 b6),(12,.slice c4 c5 c6),(13,.int .i64 b9),(14,.int .i64 0)] _ rfl (gW [0,1,2,7,8,9,10,11,12,13,14] (by kernel_rfl) ⟨pm rfl,pt [(49,.slice z H I)] rfl (fun U J=>fT fC sz5 (X.rdl 1 (h.rdl qz hZ) rfl) a3 J rfl rfl rfl),pt [(50,.pointer (some (ea z ((4:Int).toNat * 1))))] rfl (fun U J=>cM uu5 (g9 0 _ rfl) J rfl rfl rfl),pm rfl,pm rfl,pt [(56,.int .i64 a1),(57,.int .i64 S)] rfl fun U J=>kR b8 (iT rfl (J.ev rfl) (J.ev rfl)),pt [(58,.int .i64 b7)] rfl fun U J=>kR c3 (iT rfl (J.ev rfl) (J.ev rfl)),pm rfl,pm rfl,pm rfl,pm rfl,trivial⟩ ⟨by kernel_rfl,by kernel_rfl⟩ [(4,_),(5,_),(6,_),(7,_)] rfl (fun U J=>?_))
   cases G
   refine g1 _ _ (wp_ret ?_)
   refine hQ _ _ (lv4 Tryz.results74 J rfl rfl rfl rfl ?_)
   exact⟨c4,c5,c6,rfl,X⟩
  refine aC (xk 3 J rfl fun U J=>?_)
  refine bcG G (fun C G=>?_) fun C G=>?_
  ·exact ng 7 C J rfl rfl fun U J=>hj2 true G U w (J.sub _ rfl) X
  refine xg 1 C J rfl rfl fun U J=>aM C J ?_ rfl
  refine iQ G J (aX wL uu3 rfl (J.ev rfl)) rfl fun h0 _ U J G=>xg 1 C J rfl rfl fun U J=>aM C J ?_ rfl
  refine bC fC (X.rdl 0 (h.rdl qz hZ) rfl).2.1 J (fun U J=>?_) rfl
  refine aM C J ?_ rfl
  exact x_l G J rfl fun h1 _ U J G=>ng 2 C J rfl rfl fun U J=>hj2 (decide (h1<h0)) G U w (J.sub _ rfl) X
 refine aC (xk 3 J rfl fun U J=>?_)
 refine bcG G (fun a2 G=>?_) fun a2 G=>?_
 ·exact ng 5 a2 J rfl rfl fun U J=>hj1 true G U w (J.sub _ rfl) X
 refine xg 2 a2 J rfl rfl fun U J=>aM a2 J ?_ rfl
 refine bC fC (X.rdl 0 (ha0.rdl qz hZ) rfl).2.1 J (fun U J=>?_) rfl
 exact ng 2 a2 J rfl rfl fun U J=>hj1 (decide ((a0.length:Int)<a1)) G U w (J.sub _ rfl) X
end
noncomputable section
set_option linter.unusedSimpArgs false
def vU (a0:Int):Option ((List Int)) :=
  ltt (IntKind.u8.wrap a0) fun h=>(ltt (bS .u32 a0 8) fun z=>(ltt (IntKind.u8.wrap z) fun C=>(ltt (bS .u32 a0 16) fun G=>(ltt (IntKind.u8.wrap G) fun H=>(ltt (bS .u32 a0 24) fun I=>(ltt (IntKind.u8.wrap I) fun J=>(some [h,C,H,J])))))))
def yY (a0:(List Int)) (a1:Int) (a2:(List Int)):Option ((List Int)) :=
  ltt (IntKind.u32.wrap (a2.length:Int)) fun C=>((vU C).bind fun h=>(chk (h.length+[a1].length≤140737488355328 / 1) (chk ((h++[a1]).length+a2.length≤140737488355328 / 1) (chk (a0.length+((h++[a1])++a2).length≤140737488355328 / 1) ((xI ((h++[a1])++a2)).bind fun G=>((vU G).bind fun z=>(chk ((a0++((h++[a1])++a2)).length+z.length≤140737488355328 / 1) (some ((a0++((h++[a1])++a2))++z)))))))))
end
section
variable {r:World} {L:List HP} {w:World} {Z:Nat→Prop} {wz:World}
theorem aC4 {a0 y} (G:vU a0=some y) (X:SH r (L) w) :
  Ret Tryz.prog 91 #[.int .u32 a0] w fun v w'=>∃ (B0:Option Addr) (m0:Nat) (d0:Nat),v=.slice B0 m0 d0∧SH r (own (kI .u8) 5 B0 m0 d0 y::L) w':=by
 refine enter Tryz.func91 rfl Tryz.ntmps91 [(0,_)] rfl (by simp) ?_
 intro U J Qf hQ hQn
 unfold vU at G
 refine nz 1 J rfl fun U J=>ws fun Y I=>xk 1 J rfl fun U J=>iQ G J (aX wL uu5 rfl (J.ev rfl)) rfl fun h _ U J G=>x_m J rfl fun U J=>iQ G J (rW rfl (J.ev rfl) (J.ev rfl) (by decide)) rfl fun a1 _ U J G=>iQ G J (aX wL uu5 rfl (J.ev rfl)) rfl fun z _ U J G=>x_m J rfl fun U J=>iQ G J (rW rfl (J.ev rfl) (J.ev rfl) (by decide)) rfl fun a2 _ U J G=>iQ G J (aX wL uu5 rfl (J.ev rfl)) rfl fun C _ U J G=>x_m J rfl fun U J=>iQ G J (rW rfl (J.ev rfl) (J.ev rfl) (by decide)) rfl fun a3 _ U J G=>iQ G J (aX wL uu5 rfl (J.ev rfl)) rfl fun H _ U J G=>iV (d:=(kI .u8)) (e:=5) (ps:=#[(0,.int .u8 h),(1,.int .u8 z),(2,.int .u8 C),(3,.int .u8 H)]) (cells:=[.int .u8 h,.int .u8 z,.int .u8 C,.int .u8 H]) (xs:=[h,z,C,H]) (fun w=>by kernel_rfl) rfl ⟨[.int .u8 h],_,rfl,rfl,⟨[.int .u8 z],_,rfl,rfl,⟨[.int .u8 C],_,rfl,rfl,⟨[.int .u8 H],_,rfl,rfl,rfl⟩⟩⟩⟩ J X (fun S U w X J=>?_) rfl
 refine x_m J rfl fun U J=>wn (I _ _ ?_)
 cases G
 refine wp_ret (hQ _ _ ?_)
 exact lv Tryz.results91 J rfl ⟨some ⟨S,0,none⟩,4,4,rfl,X⟩
theorem aLp {a0 a1 a2 A0 n0 c0 A2 n2 c2 y} (G:yY a0 a1 a2=some y) (X:SH r (own (kI .u8) 5 A0 n0 c0 a0::L) w) (qz:Nat) (hZ:L[qz]?=some (zone Z wz)) (ha2:RdL L (kI .u8) A2 n2 c2 a2) (hG1:Imm Z wz (kI .u32) (some ⟨1,0,none⟩) 16 16 cX) :
  Ret Tryz.prog 70 #[.slice A0 n0 c0,.int .u8 a1,.slice A2 n2 c2] w fun v w'=>∃ (B0:Option Addr) (m0:Nat) (d0:Nat),v=.slice B0 m0 d0∧SH r (own (kI .u8) 5 B0 m0 d0 y::L) w':=by
 refine enter Tryz.func70 rfl Tryz.ntmps70 [(0,_),(1,_),(2,_)] rfl (by simp) ?_
 intro U J Qf hQ hQn
 unfold yY at G
 refine nz 1 J rfl fun U J=>ws fun a8 h=>xk 1 J rfl fun U J=>bC fC (X.rdl 1 ha2 rfl).2.1 J (fun U J=>?_) rfl
 refine iQ G J (aX uu3 wL rfl (J.ev rfl)) rfl fun a9 _ U J G=>?_
 obtain⟨b3,z,G⟩:=bnd G
 refine x_c aYi J rfl (aC4 z X :) fun v U w hR J=>?_
 obtain⟨b4,b5,b6,rfl,X⟩:=hR
 refine x_m J rfl fun U J=>iV (d:=(kI .u8)) (e:=5) (ps:=#[(0,.int .u8 a1)]) (cells:=[.int .u8 a1]) (xs:=[a1]) (fun w=>by kernel_rfl) rfl ⟨[.int .u8 a1],_,rfl,rfl,rfl⟩ J X (fun b7 U w X J=>?_) rfl
 obtain⟨C,G⟩:=aB G
 have hr:=X.rd 0 rfl
 refine iP 1 aCn fC J X hr.1 hr.2.1 C rfl (fun b8 b9 c3 U w X J=>?_) rfl
 refine x_m J rfl fun U J=>?_
 obtain⟨H,G⟩:=aB G
 have hr:=X.rdl 3 ha2 rfl
 refine iP 0 aCn fC J X hr.1 hr.2.1 H rfl (fun c4 c5 c6 U w X J=>?_) rfl
 refine x_m J rfl fun U J=>wn (h _ _ ?_)
 refine ws fun c7 I=>xk 2 J rfl fun U J=>?_
 obtain⟨S,G⟩:=aB G
 have hr:=X.rd 0 rfl
 refine iP 2 aCn fC J X hr.1 hr.2.1 S rfl (fun c8 c9 d1 U w X J=>?_) rfl
 refine x_m J rfl fun U J=>?_
 obtain⟨d2,Y,G⟩:=bnd G
 refine x_c aZb J rfl (aEw Y X (qz+3) hZ (RdL.own 1 rfl (X.dropN 0)) hG1 :) fun v U w hR J=>?_
 obtain⟨rfl,X⟩:=hR
 obtain⟨d3,a3,G⟩:=bnd G
 refine x_c aYi J rfl (aC4 a3 X :) fun v U w hR J=>?_
 obtain⟨d4,d5,d6,rfl,X⟩:=hR
 obtain⟨a4,G⟩:=aB G
 have hr:=X.rd 0 rfl
 refine iP 1 aCn fC J X hr.1 hr.2.1 a4 rfl (fun a5 a6 a7 U w X J=>?_) rfl
 refine x_m J rfl fun U J=>wn (I _ _ ?_)
 replace X:=X.drop 1 |>.drop 1 |>.drop 1
 cases G
 refine wp_ret (hQ _ _ ?_)
 exact lv Tryz.results70 J rfl ⟨a5,a6,a7,rfl,X⟩
end
noncomputable section
set_option linter.unusedSimpArgs false
def sM (h:(List Int)) (C:Int):Option ((List Int)) :=
  ltt (IntKind.u8.wrap C) fun z=>(chk (h.length+[z].length≤140737488355328 / 1) (some (h++[z])))
def qE (h:(List Int)) (z:Int):Option ((List Int)) :=
  sM h z
def lB (z:(List Int)) (h:Int):Option (((List Int)×Int)⊕(((List Int)×Int))) :=
  if (decide (128≤h))=true then (ltt (IntKind.u8.wrap h) fun G=>(ltt (ior .u8 G 128) fun C=>(chk (z.length+[C].length≤140737488355328 / 1) (ltt (bS .u64 h 7) fun H=>(some (.inl (z++[C],H))))))) else (some (.inr (z,h)))
def kQ (a0:(List Int)) (a1:Int):Option ((List Int)) :=
  (loop (fun s=>lB s.1 s.2) (a0,a1)).bind fun t=>qE t.1 t.2
def oV (a0:(List Int)) (a1:Int):Option ((List Int)) :=
  ltt (yP .i64 a1 1) fun h=>(ltt (IntKind.u64.wrap h) fun z=>(ltt (bS .i64 a1 63) fun C=>(ltt (IntKind.u64.wrap C) fun G=>(ltt (xN .u64 z G) fun H=>((kQ a0 H).bind fun I=>(some I))))))
def pF (a0:(List Int)) (a1:(List UInt8)):Option ((List Int)) :=
  ltt (IntKind.u64.wrap (a1.length:Int)) fun z=>((kQ a0 z).bind fun h=>(chk (h.length+a1.length≤140737488355328 / 1) (some (h++stb a1))))
def lP (h:Int):Option (Int) :=
  some h
def kH (h:Int):Option (Int) :=
  lP h
def cJ (a0:(List Int)) (h:Int) (z:Int):Option ((Int×Int)⊕((Int))) :=
  if (decide (z<(a0.length:Int)))=true then ((at_ a0 z).bind fun C=>(ltt (IntKind.i64.wrap (z+1)) fun G=>(some (.inl (if C<h then C else h,G))))) else (some (.inr (h)))
def iF (a0:(List Int)):Option (Int) :=
  if (decide ((a0.length:Int)<1))=true then (none) else ((at_ a0 0).bind fun h=>((loop (fun s=>cJ a0 s.1 s.2) (h,1)).bind fun t=>kH t))
def oC (h:Int) (z:Int):Option (Int) :=
  ltt (IntKind.u8.wrap h) fun C=>((at_ ([0,1,2,2,3,3,3,3,4,4,4,4,4,4,4,4,5,5,5,5,5,5,5,5,5,5,5,5,5,5,5,5,6,6,6,6,6,6,6,6,6,6,6,6,6,6,6,6,6,6,6,6,6,6,6,6,6,6,6,6,6,6,6,6,7,7,7,7,7,7,7,7,7,7,7,7,7,7,7,7,7,7,7,7,7,7,7,7,7,7,7,7,7,7,7,7,7,7,7,7,7,7,7,7,7,7,7,7,7,7,7,7,7,7,7,7,7,7,7,7,7,7,7,7,7,7,7,7,8,8,8,8,8,8,8,8,8,8,8,8,8,8,8,8,8,8,8,8,8,8,8,8,8,8,8,8,8,8,8,8,8,8,8,8,8,8,8,8,8,8,8,8,8,8,8,8,8,8,8,8,8,8,8,8,8,8,8,8,8,8,8,8,8,8,8,8,8,8,8,8,8,8,8,8,8,8,8,8,8,8,8,8,8,8,8,8,8,8,8,8,8,8,8,8,8,8,8,8,8,8,8,8,8,8,8,8,8,8,8,8,8,8,8,8,8,8,8,8,8,8,8,8,8,8,8,8]:List UInt8) C).bind fun G=>(ltt (IntKind.i64.wrap (G.toNat:Int)) fun H=>(ltt (IntKind.i64.wrap (z+H)) fun I=>(some I))))
def nZ (h:Int) (z:Int):Option (Int) :=
  if (decide (256≤h))=true then (ltt (bS .u64 h 8) fun C=>(ltt (IntKind.i64.wrap (z+8)) fun G=>(oC C G))) else (oC h z)
def oB (h:Int) (z:Int):Option (Int) :=
  if (decide (65536≤h))=true then (ltt (bS .u64 h 16) fun C=>(ltt (IntKind.i64.wrap (z+16)) fun G=>(nZ C G))) else (nZ h z)
def wK (a0:Int):Option (Int) :=
  if (decide (4294967296≤a0))=true then (ltt (bS .u64 a0 32) fun h=>(oB h 32)) else (oB a0 0)
def tG (h:((List Int))) (z:Int) (C:(List Int)):Option ((List Int)) :=
  chk ((h++[z]).length+C.length≤140737488355328 / 1) (some ((h++[z])++C))
def pO (h:((List Int))) (z:Int) (C:(List Int)):Option ((List Int)) :=
  tG h z C
def sO (h:Int) (z:Int) (C:(List Int)):Option ((Int×(List Int)×Int)⊕(((List Int)))) :=
  ltt (IntKind.i64.wrap (h+1)) fun G=>(some (.inl (z,C,G)))
def pW (h:Int) (z:Int) (C:(List Int)):Option ((Int×(List Int)×Int)⊕(((List Int)))) :=
  sO h z C
def iG (I:(Int)) (J:Int) (S:Int) (h:Int) (C:(List Int)) (z:Int):Option ((Int×(List Int)×Int)⊕((Int×(List Int)))) :=
  if (decide (z<J))=true then (ltt (IntKind.i64.wrap (h.tdiv 8)) fun G=>((at_ C G).bind fun U=>(ltt (IntKind.i64.wrap (S - I)) fun X=>(ltt (IntKind.u64.wrap X) fun Y=>(chk (0≤z) (ltt (bS .u64 Y z) fun a0=>(ltt (yM .u64 a0 1) fun a1=>(ltt (IntKind.u8.wrap a1) fun a2=>(ltt (h.tmod 8) fun H=>(chk (0≤H) (ltt (yP .u8 a2 H) fun a3=>(ltt (ior .u8 U a3) fun a4=>(ltt (IntKind.i64.wrap (h+1)) fun a5=>(ltt (IntKind.i64.wrap (z+1)) fun a6=>(some (.inl (a5,C.set G.toNat a4,a6))))))))))))))))) else (some (.inr (h,C)))
def iC (a1:(List Int)) (C:(Int)) (G:Int) (H:Int) (z:(List Int)) (h:Int):Option ((Int×(List Int)×Int)⊕(((List Int)))) :=
  if (decide (h<(a1.length:Int)))=true then ((at_ a1 h).bind fun I=>((loop (fun s=>iG C G I s.1 s.2.1 s.2.2) (H,z,0)).bind fun t=>pW h t.1 t.2)) else (some (.inr (z)))
def tB (a0:(List Int)) (a1:(List Int)) (C:(Int)) (h:Int):Option ((List Int)) :=
  (oV a0 C).bind fun G=>(ltt (IntKind.u8.wrap h) fun H=>(chk (G.length+[H].length≤140737488355328 / 1) (ltt (IntKind.i64.wrap ((a1.length:Int) * h)) fun I=>(ltt (IntKind.i64.wrap (I+7)) fun J=>(ltt (IntKind.i64.wrap (J.tdiv 8)) fun z=>(chk (0≤z∧(1:Int) * z≤140737488355328) ((loop (fun s=>iC a1 C h s.1 s.2.1 s.2.2) (0,List.replicate z.toNat (0:Int),0)).bind fun t=>pO G H t)))))))
def pM (a0:(List Int)) (a1:(List Int)) (h:(Int)) (z:Int):Option ((List Int)) :=
  tB a0 a1 h z
def gY (a1:(List Int)) (G:(Int)) (h:Int) (z:Int):Option ((Int×Int)⊕((Int))) :=
  if (decide (z<(a1.length:Int)))=true then ((at_ a1 z).bind fun H=>(ltt (IntKind.i64.wrap (H - G)) fun I=>(ltt (IntKind.u64.wrap I) fun J=>((wK J).bind fun C=>(ltt (IntKind.i64.wrap (z+1)) fun S=>(some (.inl (if h<C then C else h,S)))))))) else (some (.inr (h)))
def rS (a0:(List Int)) (a1:(List Int)):Option ((List Int)) :=
  if ((a1.length:Int)==0)=true then (some a0) else ((iF a1).bind fun h=>((loop (fun s=>gY a1 h s.1 s.2) (0,0)).bind fun t=>pM a0 a1 h t))
def iD (h:(List Int)):Option ((List Int)) :=
  some h
def vL (h:(List Int)):Option ((List Int)) :=
  iD h
def sX (h:(List Int)):Option ((List Int)) :=
  vL h
def kN (a1:(List Int)) (z:(List Int)) (h:Int):Option (((List Int)×Int)⊕(((List Int)))) :=
  if (decide (h<(a1.length:Int)))=true then ((at_ a1 h).bind fun C=>((oV z C).bind fun G=>(ltt (IntKind.i64.wrap (h+1)) fun H=>(some (.inl (G,H)))))) else (some (.inr (z)))
def vK (h:(List Int)):Option ((List Int)) :=
  iD h
def sE (h:(List Int)):Option ((List Int)) :=
  vK h
def kO (a1:(List Int)) (z:(List Int)) (G:Int) (h:Int):Option (((List Int)×Int×Int)⊕(((List Int)))) :=
  if (decide (h<(a1.length:Int)))=true then ((at_ a1 h).bind fun C=>(ltt (IntKind.i64.wrap (C - G)) fun H=>((oV z H).bind fun I=>(ltt (IntKind.i64.wrap (h+1)) fun J=>(some (.inl (I,C,J))))))) else (some (.inr (z)))
def vI (h:(List Int)):Option ((List Int)) :=
  iD h
def sA (h:(List Int)):Option ((List Int)) :=
  vI h
def vC (a1:(List Int)) (C:(List Int)) (h:Int) (z:Int):Option (((List Int)×Int)⊕(((List Int)))) :=
  (at_ a1 h).bind fun G=>((oV C G).bind fun H=>(ltt (IntKind.i64.wrap (z - 1)) fun I=>(ltt (IntKind.u64.wrap I) fun J=>((kQ H J).bind fun S=>(ltt (IntKind.i64.wrap (h+z)) fun U=>(some (.inl (S,U))))))))
def sZ (a1:(List Int)) (h:(List Int)) (z:Int) (C:Int):Option (((List Int)×Int)⊕(((List Int)))) :=
  vC a1 h z C
def nN (h:Int) (z:Bool):Option ((Int)⊕((Int))) :=
  if z=true then (ltt (IntKind.i64.wrap (h+1)) fun C=>(some (.inl (C)))) else (some (.inr (h)))
def lY (a1:(List Int)) (z:Int) (h:Int):Option ((Int)⊕((Int))) :=
  ltt (IntKind.i64.wrap (z+h)) fun C=>(if (decide (C<(a1.length:Int)))=true then ((at_ a1 C).bind fun G=>((at_ a1 z).bind fun H=>(nN h (G==H)))) else (nN h false))
def lS (a1:(List Int)) (z:(List Int)) (h:Int):Option (((List Int)×Int)⊕(((List Int)))) :=
  if (decide (h<(a1.length:Int)))=true then ((loop (fun s=>lY a1 h s) (1)).bind fun t=>sZ a1 z h t) else (some (.inr (z)))
def tX (a0:Int) (a1:(List Int)):Option ((List Int)) :=
  ltt (IntKind.u64.wrap (a1.length:Int)) fun z=>((kQ [a0] z).bind fun h=>(if (a0==0)=true then ((loop (fun s=>kN a1 s.1 s.2) (h,0)).bind fun t=>sX t) else (if (a0==1)=true then ((loop (fun s=>kO a1 s.1 s.2.1 s.2.2) (h,0,0)).bind fun t=>sE t) else (if (a0==2)=true then ((loop (fun s=>lS a1 s.1 s.2) (h,0)).bind fun t=>sA t) else (if (a0==3)=true then ((rS h a1).bind fun C=>(iD C)) else (iD h))))))
def wB (h:(List Int)):Option ((List Int)) :=
  some h
def tU (h:(List Int)):Option ((List Int)) :=
  wB h
def pE (h:Int) (z:(List Int)):Option (((List Int)×Int)⊕(((List Int)))) :=
  ltt (IntKind.u8.wrap (h+1)) fun C=>(some (.inl (z,C)))
def fI (a0:(List Int)) (z:(List Int)) (h:Int):Option (((List Int)×Int)⊕(((List Int)))) :=
  if (decide (h≤3))=true then ((tX h a0).bind fun C=>(if (decide ((C.length:Int)<(z.length:Int)))=true then (pE h C) else (pE h z))) else (some (.inr (z)))
def mH (a0:(List Int)):Option ((List Int)) :=
  (tX 0 a0).bind fun h=>((loop (fun s=>fI a0 s.1 s.2) (h,1)).bind fun t=>tU t)
end
section
variable {r:World} {L:List HP} {w:World} {Z:Nat→Prop} {wz:World}
theorem qU {a0 a1 A0 n0 c0 y} (G:kQ a0 a1=some y) (X:SH r (own (kI .u8) 5 A0 n0 c0 a0::L) w) :
  Ret Tryz.prog 88 #[.slice A0 n0 c0,.int .u64 a1] w fun v w'=>∃ (B0:Option Addr) (m0:Nat) (d0:Nat),v=.slice B0 m0 d0∧SH r (own (kI .u8) 5 B0 m0 d0 y::L) w':=by
 refine enter Tryz.func88 rfl Tryz.ntmps88 [(0,_),(1,_)] rfl (by simp) ?_
 intro U J Qf hQ hQn
 unfold kQ at G
 refine nz 1 J rfl fun U J=>wp_seq_k fun e2 b6=>aA fun b3 b7=>?_
 have hb1:∀a5 a6,sM a5 a6=some y→∀a7 a8 a9 U w,FR 20 [] U [(0,.slice a7 a8 a9),(1,.int .u64 a6)]→SH r (own (kI .u8) 5 a7 a8 a9 a5::L) w→b3 U w:=by
  intro a5 a6 G a7 a8 a9 U w J X
  unfold sM at G
  refine b7 _ _ (b6 _ _ ?_)
  refine ws fun e3 b8=>xk 2 J rfl fun U J=>iQ G J (aX nH uu5 rfl (J.ev rfl)) rfl fun C _ U J G=>iV (d:=(kI .u8)) (e:=5) (ps:=#[(0,.int .u8 C)]) (cells:=[.int .u8 C]) (xs:=[C]) (fun w=>by kernel_rfl) rfl ⟨[.int .u8 C],_,rfl,rfl,rfl⟩ J X (fun e4 U w X J=>?_) rfl
  obtain⟨b9,G⟩:=aB G
  have hr:=X.rd 0 rfl
  refine iP 1 aCn fC J X hr.1 hr.2.1 b9 rfl (fun c3 c4 c5 U w X J=>?_) rfl
  refine x_m J rfl fun U J=>wn (b8 _ _ ?_)
  replace X:=X.drop 1
  cases G
  refine wp_ret (hQ _ _ ?_)
  exact lv Tryz.results88 J rfl ⟨c3,c4,c5,rfl,X⟩
 obtain⟨c6,c7,G⟩:=bnd G
 have c8:∀h z,(h,z)=c6→∀H I S U w,FR 20 [] U [(0,.slice H I S),(1,.int .u64 z)]→SH r (own (kI .u8) 5 H I S h::L) w→b3 U w:=by
  intro h z ht H I S U w J X
  subst ht
  replace G:qE h z=some y:=G
  unfold qE at G
  exact hb1 h z G H I S U w (J.sub _ rfl) X
 refine aE c7 (fun s U w=>∃Y a2 a3,FR 20 [] U [(0,.slice Y a2 a3),(1,.int .u64 s.2)]∧SH r (own (kI .u8) 5 Y a2 a3 s.1::L) w) ⟨A0,n0,c0,J.sub _ rfl,X⟩ ?_
 intro e5 c9 d1 G d2 d3 U w hLab
 obtain⟨b4,b5⟩:=c9
 replace G:lB b4 b5=some d1:=G
 unfold lB at G
 try dsimp only at hLab
 obtain⟨Y,a2,a3,J,X⟩:=hLab
 refine wp_seq_k fun e6 d4=>nz 2 J rfl fun U J=>bH J G rfl (fun d5 G=>?_) fun d5 G=>?_
 ·refine wp_skip (d4 _ _ ?_)
  refine wp_seq_k fun e7 d6=>aA fun e8 d7=>aC (xk 2 J rfl fun U J=>?_)
  refine iQ G J (aX nH uu5 rfl (J.ev rfl)) rfl fun e9 _ U J G=>x_l G J rfl fun a4 _ U J G=>iV (d:=(kI .u8)) (e:=5) (ps:=#[(0,.int .u8 a4)]) (cells:=[.int .u8 a4]) (xs:=[a4]) (fun w=>by kernel_rfl) rfl ⟨[.int .u8 a4],_,rfl,rfl,rfl⟩ J X (fun f2 U w X J=>?_) rfl
  obtain⟨d8,G⟩:=aB G
  have hr:=X.rd 0 rfl
  refine iP 1 aCn fC J X hr.1 hr.2.1 d8 rfl (fun d9 e0 e1 U w X J=>?_) rfl
  refine x_m J rfl fun U J=>wpList_nil (d7 _ _ ?_)
  refine d6 _ _ (aC ?_)
  refine x_m J rfl fun U J=>iQ G J (rW rfl (J.ev rfl) (J.ev rfl) (by decide)) rfl fun f3 _ U J G=>x_m J rfl fun U J=>wpList_nil ?_
  replace X:=X.drop 1
  cases G
  exact⟨_,d2 _ rfl,d9,e0,e1,J.sub _ rfl,X⟩
 cases G
 exact wp_exit (c8 b4 b5 (d3 _ rfl) Y a2 a3 U w (J.sub _ rfl) X)
theorem uY {a0 a1 A0 n0 c0 y} (G:oV a0 a1=some y) (X:SH r (own (kI .u8) 5 A0 n0 c0 a0::L) w) :
  Ret Tryz.prog 110 #[.slice A0 n0 c0,.int .i64 a1] w fun v w'=>∃ (B0:Option Addr) (m0:Nat) (d0:Nat),v=.slice B0 m0 d0∧SH r (own (kI .u8) 5 B0 m0 d0 y::L) w':=by
 refine enter Tryz.func110 rfl Tryz.ntmps110 [(0,_),(1,_)] rfl (by simp) ?_
 intro U J Qf hQ hQn
 unfold oV at G
 refine nz 1 J rfl fun U J=>ws fun S h=>xk 2 J rfl fun U J=>iQ G J (aF8 rfl (J.ev rfl) (J.ev rfl) (by decide)) rfl fun Y _ U J G=>iQ G J (aX uu2 nH rfl (J.ev rfl)) rfl fun a2 _ U J G=>x_m J rfl fun U J=>iQ G J (rW rfl (J.ev rfl) (J.ev rfl) (by decide)) rfl fun a3 _ U J G=>iQ G J (aX uu2 nH rfl (J.ev rfl)) rfl fun a4 _ U J G=>x_l G J rfl fun a5 _ U J G=>?_
 obtain⟨a6,z,G⟩:=bnd G
 refine x_c aOv J rfl (qU z X :) fun v U w hR J=>?_
 obtain⟨C,H,I,rfl,X⟩:=hR
 refine x_m J rfl fun U J=>wn (h _ _ ?_)
 cases G
 refine wp_ret (hQ _ _ ?_)
 exact lv Tryz.results110 J rfl ⟨C,H,I,rfl,X⟩
theorem aAt {a0 a1 A0 n0 c0 y} (G:pF a0 a1=some y) (X:SH r (own (kI .u8) 5 A0 n0 c0 a0::L) w) :
  Ret Tryz.prog 69 #[.slice A0 n0 c0,str a1] w fun v w'=>∃ (B0:Option Addr) (m0:Nat) (d0:Nat),v=.slice B0 m0 d0∧SH r (own (kI .u8) 5 B0 m0 d0 y::L) w':=by
 refine enter Tryz.func69 rfl Tryz.ntmps69 [(0,_),(1,_)] rfl (by simp) ?_
 intro U J Qf hQ hQn
 unfold pF at G
 refine nz 1 J rfl fun U J=>ws fun Y h=>xk 2 J rfl fun U J=>x_v J (yW uu9 rfl (J.ev rfl)) rfl fun U J=>iQ G J (aX uu3 nH rfl (J.ev rfl)) rfl fun a2 _ U J G=>?_
 obtain⟨a3,z,G⟩:=bnd G
 refine x_c aOv J rfl (qU z X :) fun v U w hR J=>?_
 obtain⟨a4,a5,a6,rfl,X⟩:=hR
 refine x_m J rfl fun U J=>?_
 obtain⟨C,G⟩:=aB G
 refine aTd 0 aCn fC uu9 J X C rfl (fun H I S U w X J=>?_) rfl
 refine x_m J rfl fun U J=>wn (h _ _ ?_)
 cases G
 refine wp_ret (hQ _ _ ?_)
 exact lv Tryz.results69 J rfl ⟨H,I,S,rfl,X⟩
theorem xE {a0 A0 n0 c0 y} (G:iF a0=some y) (X:SH r (L) w) (ha0:RdL L (kI .i64) A0 n0 c0 a0) :
  Ret Tryz.prog 130 #[.slice A0 n0 c0] w fun v w'=>v=.int .i64 y∧SH r (L) w':=by
 refine enter Tryz.func130 rfl Tryz.ntmps130 [(0,_)] rfl (by simp) ?_
 intro U J Qf hQ hQn
 unfold iF at G
 refine nz 1 J rfl fun U J=>wp_seq_k fun c7 Y=>ws fun c8 a1=>xk 1 J rfl fun U J=>bC bM (X.rdl 0 ha0 rfl).2.1 J (fun U J=>?_) rfl
 refine nk 1 J rfl fun U J=>a1 _ _ (bH J G rfl (fun a2 G=>?_) fun a2 G=>?_)
 ·refine aC (x_v J (aMy uu9 rfl rfl (J.ev rfl)) rfl fun U J=>?_)
  cases G
 refine wp_skip (Y _ _ ?_)
 refine ws fun c9 a3=>xk 1 J rfl fun U J=>?_
 obtain⟨d0,C,G⟩:=bnd G
 refine fR bM sz2 (X.rdl 0 ha0 rfl) C J (fun U J=>?_) rfl
 obtain⟨cs,hV,a4⟩:=el (X.rdl 0 ha0 rfl) C
 obtain rfl:=hV
 refine aK uu2 (a4 0 _ rfl) J (fun U J=>?_) rfl
 refine x_m J rfl fun U J=>wn (a3 _ _ ?_)
 refine wp_seq_k fun d1 a5=>nz 1 J rfl fun U J=>aA fun H a6=>?_
 have hb1:∀z,lP z=some y→∀U w,FR 25 [] U [(3,.int .i64 z)]→SH r (L) w→H U w:=by
  intro z G U w J X
  unfold lP at G
  refine a6 _ _ (a5 _ _ ?_)
  refine nz 2 J rfl fun U J=>?_
  cases G
  refine wp_ret (hQ _ _ ?_)
  exact lv Tryz.results130 J rfl ⟨rfl,X⟩
 obtain⟨a7,a8,G⟩:=bnd G
 have a9:∀h,(h)=a7→∀U w,FR 25 [] U [(3,.int .i64 h)]→SH r (L) w→H U w:=by
  intro h ht U w J X
  subst ht
  replace G:kH h=some y:=G
  unfold kH at G
  exact hb1 h G U w (J.sub _ rfl) X
 refine aE a8 (fun s U w=>FR 25 [] U [(0,.slice A0 n0 c0),(3,.int .i64 s.1),(4,.int .i64 s.2)]∧SH r (L) w) ⟨J.sub _ rfl,X⟩ ?_
 intro d2 b3 b4 G b5 b6 U w hLab
 obtain⟨I,b7⟩:=b3
 replace G:cJ a0 I b7=some b4:=G
 unfold cJ at G
 try dsimp only at hLab
 obtain⟨J,X⟩:=hLab
 refine wp_seq_k fun d3 b8=>ws fun d4 b9=>xk 2 J rfl fun U J=>bC bM (X.rdl 0 ha0 rfl).2.1 J (fun U J=>?_) rfl
 refine nk 1 J rfl fun U J=>b9 _ _ (bH J G rfl (fun c3 G=>?_) fun c3 G=>?_)
 ·refine wp_skip (b8 _ _ ?_)
  refine wp_seq_k fun d5 c4=>aA fun d6 c5=>aC (xk 3 J rfl fun U J=>?_)
  obtain⟨d7,S,G⟩:=bnd G
  refine fR bM sz2 (X.rdl 0 ha0 rfl) S J (fun U J=>?_) rfl
  obtain⟨cs,hV,c6⟩:=el (X.rdl 0 ha0 rfl) S
  obtain rfl:=hV
  refine aK uu2 (c6 0 _ rfl) J (fun U J=>?_) rfl
  refine x_v J (aHu rfl (J.ev rfl) (J.ev rfl)) rfl fun U J=>x_m J rfl fun U J=>wpList_nil (c5 _ _ ?_)
  refine c4 _ _ (aC ?_)
  refine x_m J rfl fun U J=>x_l G J rfl fun d8 _ U J G=>x_m J rfl fun U J=>wpList_nil ?_
  cases G
  exact⟨_,b5 _ rfl,J.sub _ rfl,X⟩
 cases G
 exact wp_exit (a9 I (b6 _ rfl) U w (J.sub _ rfl) X)
theorem aHo {a0 y} (G:wK a0=some y) (X:SH r (L) w) :
  Ret Tryz.prog 126 #[.int .u64 a0] w fun v w'=>v=.int .i64 y∧SH r (L) w':=by
 refine enter Tryz.func126 rfl Tryz.ntmps126 [(0,_)] rfl (by simp) ?_
 intro U J Qf hQ hQn
 unfold wK at G
 refine nz 1 J rfl fun U J=>wp_seq_k fun a1 a2=>?_
 have hj1:∀h z,oB h z=some y→∀U w,FR 25 [] U [(0,.int .u64 h),(2,.int .i64 z)]→SH r (L) w→a1 U w:=by
  intro h z G U w J X
  unfold oB at G
  refine a2 _ _ (wp_seq_k fun a3 a4=>?_)
  have hj2:∀C H,nZ C H=some y→∀U w,FR 25 [] U [(0,.int .u64 C),(2,.int .i64 H)]→SH r (L) w→a3 U w:=by
   intro C H G U w J X
   unfold nZ at G
   refine a4 _ _ (wp_seq_k fun a5 a6=>?_)
   have hj3:∀I S,oC I S=some y→∀U w,FR 25 [] U [(0,.int .u64 I),(2,.int .i64 S)]→SH r (L) w→a5 U w:=by
    intro I S G U w J X
    unfold oC at G
    refine a6 _ _ (ws fun c4 a7=>?_)
    refine xk 2 J rfl fun U J=>iQ G J (aX nH uu5 rfl (J.ev rfl)) rfl fun c5 _ U J G=>?_
    obtain⟨c6,Y,G⟩:=bnd G
    refine x_v J (aKt uu9 rfl (J.ev rfl) (J.ev rfl) (dU Y).1 (dU Y).2.2) rfl fun U J=>iQ G J (aX uu5 uu3 rfl (J.ev rfl)) rfl fun c7 _ U J G=>x_l G J rfl fun c8 _ U J G=>x_m J rfl fun U J=>wn (a7 _ _ ?_)
    cases G
    refine wp_ret (hQ _ _ ?_)
    exact lv Tryz.results126 J rfl ⟨rfl,X⟩
   refine nz 2 J rfl fun U J=>bH J G rfl (fun a8 G=>?_) fun a8 G=>?_
   ·refine ws fun c9 a9=>xk 1 J rfl fun U J=>iQ G J (rW rfl (J.ev rfl) (J.ev rfl) (by decide)) rfl fun b3 _ U J G=>x_m J rfl fun U J=>wn (a9 _ _ ?_)
    refine aC (x_m J rfl fun U J=>?_)
    exact x_l G J rfl fun b4 _ U J G=>x_m J rfl fun U J=>wpList_nil (hj3 b3 b4 G U w (J.sub _ rfl) X)
   exact wp_skip (hj3 C H G U w (J.sub _ rfl) X)
  refine nz 2 J rfl fun U J=>bH J G rfl (fun b5 G=>?_) fun b5 G=>?_
  ·refine ws fun d0 b6=>xk 1 J rfl fun U J=>iQ G J (rW rfl (J.ev rfl) (J.ev rfl) (by decide)) rfl fun b7 _ U J G=>x_m J rfl fun U J=>wn (b6 _ _ ?_)
   refine aC (x_m J rfl fun U J=>?_)
   exact x_l G J rfl fun b8 _ U J G=>x_m J rfl fun U J=>wpList_nil (hj2 b7 b8 G U w (J.sub _ rfl) X)
  exact wp_skip (hj2 h z G U w (J.sub _ rfl) X)
 refine nz 2 J rfl fun U J=>bH J G rfl (fun b9 G=>?_) fun b9 G=>?_
 ·refine ws fun d1 c0=>xk 1 J rfl fun U J=>iQ G J (rW rfl (J.ev rfl) (J.ev rfl) (by decide)) rfl fun c3 _ U J G=>x_m J rfl fun U J=>wn (c0 _ _ ?_)
  refine aC (x_m J rfl fun U J=>?_)
  exact wpList_nil (hj1 c3 32 G U w (J.sub _ rfl) X)
 exact wp_skip (hj1 a0 0 G U w (J.sub _ rfl) X)
theorem aGg {a0 a1 A0 n0 c0 A1 n1 c1 y} (G:rS a0 a1=some y) (X:SH r (own (kI .u8) 5 A0 n0 c0 a0::L) w) (ha1:RdL L (kI .i64) A1 n1 c1 a1) :
  Ret Tryz.prog 111 #[.slice A0 n0 c0,.slice A1 n1 c1] w fun v w'=>∃ (B0:Option Addr) (m0:Nat) (d0:Nat),v=.slice B0 m0 d0∧SH r (own (kI .u8) 5 B0 m0 d0 y::L) w':=by
 refine enter Tryz.func111 rfl Tryz.ntmps111 [(0,_),(1,_)] rfl (by simp) ?_
 intro U J Qf hQ hQn
 unfold rS at G
 refine nz 1 J rfl fun U J=>wp_seq_k fun l9 d5=>ws fun m1 d6=>xk 1 J rfl fun U J=>bC bM (X.rdl 1 ha1 rfl).2.1 J (fun U J=>?_) rfl
 refine nk 1 J rfl fun U J=>d6 _ _ (bH J G rfl (fun d7 G=>?_) fun d7 G=>?_)
 ·refine nz 2 J rfl fun U J=>?_
  cases G
  refine wp_ret (hQ _ _ ?_)
  exact lv Tryz.results111 J rfl ⟨A0,n0,c0,rfl,X⟩
 refine wp_skip (d5 _ _ ?_)
 refine ws fun m2 d8=>xk 1 J rfl fun U J=>?_
 obtain⟨H,d9,G⟩:=bnd G
 refine x_c aXm J rfl (xE d9 X (RdL.sfx 1 rfl ha1) :) fun v U w hR J=>?_
 obtain⟨rfl,X⟩:=hR
 refine x_m J rfl fun U J=>wn (d8 _ _ ?_)
 refine nz 1 J rfl fun U J=>wp_seq_k fun m3 e0=>ws fun m4 e1=>xk 1 J rfl fun U J=>bC bM (X.rdl 1 ha1 rfl).2.1 J (fun U J=>?_) rfl
 refine x_m J rfl fun U J=>wn (e1 _ _ ?_)
 refine aA fun c5 e2=>?_
 have hb1:∀a3,tB a0 a1 H a3=some y→∀U w,FR 83 [] U [(0,.slice A0 n0 c0),(1,.slice A1 n1 c1),(5,.int .i64 H),(6,.int .i64 a3)]→SH r (own (kI .u8) 5 A0 n0 c0 a0::L) w→c5 U w:=by
  intro a3 G U w J X
  unfold tB at G
  refine e2 _ _ (e0 _ _ ?_)
  refine ws fun m5 e3=>xk 2 J rfl fun U J=>?_
  obtain⟨a4,e4,G⟩:=bnd G
  refine x_c aL3 J rfl (uY e4 X :) fun v U w hR J=>?_
  obtain⟨m6,m7,m8,rfl,X⟩:=hR
  refine x_m J rfl fun U J=>iQ G J (aX uu3 uu5 rfl (J.ev rfl)) rfl fun I _ U J G=>iV (d:=(kI .u8)) (e:=5) (ps:=#[(0,.int .u8 I)]) (cells:=[.int .u8 I]) (xs:=[I]) (fun w=>by kernel_rfl) rfl ⟨[.int .u8 I],_,rfl,rfl,rfl⟩ J X (fun m9 U w X J=>?_) rfl
  obtain⟨e5,G⟩:=aB G
  have hr:=X.rd 0 rfl
  refine iP 1 aCn fC J X hr.1 hr.2.1 e5 rfl (fun S Y a2 U w X J=>?_) rfl
  refine x_m J rfl fun U J=>wn (e3 _ _ ?_)
  refine nz 1 J rfl fun U J=>ws fun n3 e6=>xk 1 J rfl fun U J=>bC bM (X.rdl 2 ha1 rfl).2.1 J (fun U J=>?_) rfl
  refine x_m J rfl fun U J=>x_l G J rfl fun n4 _ U J G=>x_l G J rfl fun n5 _ U J G=>iQ G J (aEz rfl (J.ev rfl) (J.ev rfl) (by decide)) rfl fun z _ U J G=>?_
  obtain⟨e7,G⟩:=aB G
  refine aEv (d:=(kI .u8)) (bytes:=1) 0 aCn rfl fC e7 J X (fun C U w X J=>?_) rfl
  refine x_m J rfl fun U J=>wn (e6 _ _ ?_)
  refine wp_seq_k fun n6 e8=>ws fun n7 e9=>xk 1 J rfl fun U J=>bC bM (X.rdl 3 ha1 rfl).2.1 J (fun U J=>?_) rfl
  refine x_m J rfl fun U J=>wn (e9 _ _ ?_)
  refine aA fun c6 f2=>?_
  have hb2:∀b5,tG a4 I b5=some y→∀U w,FR 83 [] U [(0,.slice S Y a2),(10,.slice (some ⟨C,0,none⟩) z.toNat z.toNat)]→SH r (own (kI .u8) 5 S Y a2 (a4++[I])::own (kI .u8) 5 (some ⟨C,0,none⟩) z.toNat z.toNat b5::L) w→c6 U w:=by
   intro b5 G U w J X
   unfold tG at G
   refine f2 _ _ (e8 _ _ ?_)
   refine ws fun n8 f3=>xk 2 J rfl fun U J=>?_
   obtain⟨f4,G⟩:=aB G
   have hr:=X.rd 1 rfl
   refine iP 0 aCn fC J X hr.1 hr.2.1 f4 rfl (fun f5 f6 f7 U w X J=>?_) rfl
   refine x_m J rfl fun U J=>wn (f3 _ _ ?_)
   replace X:=X.drop 1
   cases G
   refine wp_ret (hQ _ _ ?_)
   exact lv Tryz.results111 J rfl ⟨f5,f6,f7,rfl,X⟩
  obtain⟨f8,f9,G⟩:=bnd G
  have g0:∀a6,(a6)=f8→∀U w,FR 83 [] U [(0,.slice S Y a2),(10,.slice (some ⟨C,0,none⟩) z.toNat z.toNat)]→SH r (own (kI .u8) 5 S Y a2 (a4++[I])::own (kI .u8) 5 (some ⟨C,0,none⟩) z.toNat z.toNat a6::L) w→c6 U w:=by
   intro a6 ht U w J X
   subst ht
   replace G:pO a4 I a6=some y:=G
   unfold pO at G
   exact hb2 a6 G U w (J.sub _ rfl) X
  replace X:=X.drop 2 |>.pk 1
  refine aE f9 (fun s U w=>FR 83 [] U [(0,.slice S Y a2),(5,.int .i64 H),(6,.int .i64 a3),(9,.int .i64 s.1),(10,.slice (some ⟨C,0,none⟩) z.toNat z.toNat),(48,.slice A1 n1 c1),(49,.int .i64 (a1.length:Int)),(50,.int .i64 s.2.2)]∧SH r (own (kI .u8) 5 S Y a2 (a4++[I])::own (kI .u8) 5 (some ⟨C,0,none⟩) z.toNat z.toNat s.2.1::L) w) ⟨J.sub _ rfl,X⟩ ?_
  intro n9 g1 b6 G g2 g3 U w hLab
  obtain⟨g4,c7,a5⟩:=g1
  replace G:iC a1 H a3 g4 c7 a5=some b6:=G
  unfold iC at G
  try dsimp only at hLab
  obtain⟨J,X⟩:=hLab
  refine nz 1 J rfl fun U J=>wp_seq_k fun o0 g5=>bH J G rfl (fun g6 G=>?_) fun g6 G=>?_
  ·refine wp_skip (g5 _ _ ?_)
   refine wp_seq_k fun o1 g7=>aA fun o2 g8=>ws fun o3 g9=>?_
   obtain⟨b7,c8,G⟩:=bnd G
   refine fR bM sz2 (X.rdl 2 ha1 rfl) c8 J (fun U J=>?_) rfl
   obtain⟨cs,hV,h0⟩:=el (X.rdl 2 ha1 rfl) c8
   obtain rfl:=hV
   refine aK uu2 (h0 0 _ rfl) J (fun U J=>?_) rfl
   refine x_m J rfl fun U J=>wn (g9 _ _ ?_)
   refine nz 2 J rfl fun U J=>aA fun c9 h1=>?_
   have hb3:∀b8 b9,sO a5 b8 b9=some b6→∀U w,FR 83 [] U [(0,.slice S Y a2),(5,.int .i64 H),(6,.int .i64 a3),(9,.int .i64 b8),(10,.slice (some ⟨C,0,none⟩) z.toNat z.toNat),(48,.slice A1 n1 c1),(49,.int .i64 (a1.length:Int)),(50,.int .i64 a5)]→SH r (own (kI .u8) 5 S Y a2 (a4++[I])::own (kI .u8) 5 (some ⟨C,0,none⟩) z.toNat z.toNat b9::L) w→c9 U w:=by
    intro b8 b9 G U w J X
    unfold sO at G
    refine h1 _ _ (g8 _ _ ?_)
    refine g7 _ _ (aC ?_)
    refine x_l G J rfl fun o4 _ U J G=>x_m J rfl fun U J=>wpList_nil ?_
    cases G
    exact⟨_,g2 _ rfl,J.sub _ rfl,X⟩
   obtain⟨h2,h3,G⟩:=bnd G
   have h4:∀a7 a8,(a7,a8)=h2→∀U w,FR 83 [] U [(0,.slice S Y a2),(5,.int .i64 H),(6,.int .i64 a3),(9,.int .i64 a7),(10,.slice (some ⟨C,0,none⟩) z.toNat z.toNat),(48,.slice A1 n1 c1),(49,.int .i64 (a1.length:Int)),(50,.int .i64 a5)]→SH r (own (kI .u8) 5 S Y a2 (a4++[I])::own (kI .u8) 5 (some ⟨C,0,none⟩) z.toNat z.toNat a8::L) w→c9 U w:=by
    intro a7 a8 ht U w J X
    subst ht
    replace G:pW a5 a7 a8=some b6:=G
    unfold pW at G
    exact hb3 a7 a8 G U w (J.sub _ rfl) X
   refine aE h3 (fun s U w=>FR 83 [] U [(0,.slice S Y a2),(5,.int .i64 H),(6,.int .i64 a3),(9,.int .i64 s.1),(10,.slice (some ⟨C,0,none⟩) z.toNat z.toNat),(12,.int .i64 b7),(48,.slice A1 n1 c1),(49,.int .i64 (a1.length:Int)),(50,.int .i64 a5),(54,.int .i64 a3),(55,.int .i64 s.2.2)]∧SH r (own (kI .u8) 5 S Y a2 (a4++[I])::own (kI .u8) 5 (some ⟨C,0,none⟩) z.toNat z.toNat s.2.1::L) w) ⟨J.sub _ rfl,X⟩ ?_
   intro o5 h5 h6 G h7 h8 U w hLab
   obtain⟨b3,d1,d2⟩:=h5
   replace G:iG H a3 b7 b3 d1 d2=some h6:=G
   unfold iG at G
   try dsimp only at hLab
   obtain⟨J,X⟩:=hLab
   refine nz 1 J rfl fun U J=>wp_seq_k fun o6 h9=>bH J G rfl (fun i0 G=>?_) fun i0 G=>?_
   ·refine wp_skip (h9 _ _ ?_)
    refine wp_seq_k fun o7 i1=>aA fun o8 i2=>nz 2 J rfl fun U J=>wp_seq_k fun o9 i3=>dE [0,0,2,7,15,0,0,96,224,0,992,2016,4064,0,8192,32736,65535,131071,262143] [18] rfl J X (by kernel_rfl) (by kernel_rfl) (by kernel_rfl) (by kernel_rfl) fun w X=>?_
    obtain⟨c3,i4,G⟩:=nR G
    obtain⟨i5,b4,G⟩:=bnd G
    obtain⟨cs,hV,i6⟩:=el (X.rd 1 rfl) b4
    obtain rfl:=hV
    obtain⟨i7,i8,G⟩:=nR G
    obtain⟨i9,j0,G⟩:=nR G
    obtain⟨j1,G⟩:=aB G
    obtain⟨j2,j3,G⟩:=nR G
    obtain⟨j4,j5,G⟩:=nR G
    obtain⟨j6,j7,G⟩:=nR G
    obtain⟨j8,j9,G⟩:=nR G
    obtain⟨k0,G⟩:=aB G
    obtain⟨k1,k2,G⟩:=nR G
    obtain⟨c4,k3,G⟩:=nR G
    refine⟨[(0,.slice (some ⟨C,0,none⟩) z.toNat z.toNat),(1,.int .i64 b3),(2,.int .i64 c3),(3,.pointer (some (ea (some ⟨C,0,none⟩) (c3.toNat * 1)))),(4,.int .u8 i5),(5,.int .i64 b7),(6,.int .i64 H),(7,.int .i64 i7),(8,.int .u64 i9),(9,.int .i64 d2),(10,.int .u64 j2),(11,.int .u64 j4),(12,.int .u8 j6),(13,.int .i64 b3),(14,.int .i64 j8),(15,.int .u8 k1),(16,.int .u8 c4),(17,.pointer (some (ea (some ⟨C,0,none⟩) (c3.toNat * 1))))],?_⟩
    refine dF [0,1,2,3,4,5,6,7,8,9,10,11,12,13,14,15,16,17] [18] (by kernel_rfl) ⟨pm rfl,pm rfl,pt [(59,_)] rfl fun U J=>kR i4 (aEz rfl (J.ev rfl) (J.ev rfl) (by decide)),pt [(58,_),(60,_)] rfl (fun U J=>fT fC sz5 (X.rd 1 rfl) b4 J rfl rfl rfl),pt [(61,_)] rfl (fun U J=>cM uu5 (i6 0 _ rfl) J rfl rfl rfl),pm rfl,pm rfl,pt [(63,_),(64,_)] rfl fun U J=>kR i8 (qM rfl (J.ev rfl) (J.ev rfl)),pt [(65,_)] rfl fun U J=>kR j0 (aX uu2 nH rfl (J.ev rfl)),pm rfl,pt [(66,_),(67,_)] rfl fun U J=>kR j3 (rW rfl (J.ev rfl) (J.ev rfl) j1),pt [(68,_)] rfl fun U J=>kR j5 (aUw rfl (J.ev rfl) (J.ev rfl)),pt [(69,_)] rfl fun U J=>kR j7 (aX nH uu5 rfl (J.ev rfl)),pm rfl,pt [(71,_)] rfl fun U J=>kR j9 (aPn rfl (J.ev rfl) (J.ev rfl) (by decide)),pt [(70,_),(72,_)] rfl fun U J=>kR k2 (aF8 rfl (J.ev rfl) (J.ev rfl) k0),pt [(62,_),(73,_)] rfl fun U J=>kR k3 (aN0 rfl (J.ev rfl) (J.ev rfl)),pt [(58,_),(60,_)] rfl (fun U J=>fT fC sz5 (X.rd 1 rfl) b4 J rfl rfl rfl),trivial⟩ ⟨et [(74,_),(75,_)] rfl (fun U J K hK=>?_),trivial⟩
    refine wY (z':=c4) (off:=0) (vs:=[.int .u8 c4]) 1 sz5 J X rfl (dU b4).2.2 (fun c h=>by cases h; rfl) (fun  w X=>?_) rfl rfl rfl rfl rfl rfl
    refine hK _ [] _ rfl (gW [] (by kernel_rfl) trivial ⟨by kernel_rfl,by kernel_rfl⟩ [(0,_),(5,_),(6,_),(9,_),(10,_),(12,_),(48,_),(49,_),(50,_),(54,_),(55,_)] rfl (fun U J=>?_))
    refine i3 _ _ (aC ?_)
    refine x_m J rfl fun U J=>x_l G J rfl fun p0 _ U J G=>x_m J rfl fun U J=>wpList_nil (i2 _ _ ?_)
    refine i1 _ _ (aC ?_)
    refine x_l G J rfl fun p1 _ U J G=>x_m J rfl fun U J=>wpList_nil ?_
    replace X:=X.pk 1
    cases G
    exact⟨_,h7 _ rfl,J.sub _ rfl,X⟩
   cases G
   exact wp_exit (h4 b3 d1 (h8 _ rfl) U w (J.sub _ rfl) X)
  cases G
  exact wp_exit (g0 c7 (g3 _ rfl) U w (J.sub _ rfl) X)
 obtain⟨k4,k5,G⟩:=bnd G
 have k6:∀a9,(a9)=k4→∀U w,FR 83 [] U [(0,.slice A0 n0 c0),(1,.slice A1 n1 c1),(5,.int .i64 H),(6,.int .i64 a9)]→SH r (own (kI .u8) 5 A0 n0 c0 a0::L) w→c5 U w:=by
  intro a9 ht U w J X
  subst ht
  replace G:pM a0 a1 H a9=some y:=G
  unfold pM at G
  exact hb1 a9 G U w (J.sub _ rfl) X
 refine aE k5 (fun s U w=>FR 83 [] U [(0,.slice A0 n0 c0),(1,.slice A1 n1 c1),(5,.int .i64 H),(6,.int .i64 s.1),(20,.slice A1 n1 c1),(21,.int .i64 (a1.length:Int)),(22,.int .i64 s.2)]∧SH r (own (kI .u8) 5 A0 n0 c0 a0::L) w) ⟨J.sub _ rfl,X⟩ ?_
 intro p2 k7 k8 G k9 l0 U w hLab
 obtain⟨d3,l1⟩:=k7
 replace G:gY a1 H d3 l1=some k8:=G
 unfold gY at G
 try dsimp only at hLab
 obtain⟨J,X⟩:=hLab
 refine nz 1 J rfl fun U J=>wp_seq_k fun p3 l2=>bH J G rfl (fun l3 G=>?_) fun l3 G=>?_
 ·refine wp_skip (l2 _ _ ?_)
  refine wp_seq_k fun p4 l4=>aA fun p5 l5=>ws fun p6 l6=>?_
  obtain⟨p7,d4,G⟩:=bnd G
  refine fR bM sz2 (X.rdl 1 ha1 rfl) d4 J (fun U J=>?_) rfl
  obtain⟨cs,hV,l7⟩:=el (X.rdl 1 ha1 rfl) d4
  obtain rfl:=hV
  refine aK uu2 (l7 0 _ rfl) J (fun U J=>?_) rfl
  refine x_m J rfl fun U J=>wn (l6 _ _ ?_)
  refine aC (xk 3 J rfl fun U J=>?_)
  refine x_l G J rfl fun p8 _ U J G=>iQ G J (aX uu2 nH rfl (J.ev rfl)) rfl fun p9 _ U J G=>?_
  obtain⟨q0,l8,G⟩:=bnd G
  refine x_c aXg J rfl (aHo l8 X :) fun v U w hR J=>?_
  obtain⟨rfl,X⟩:=hR
  refine x_v J (aVs rfl (J.ev rfl) (J.ev rfl)) rfl fun U J=>x_m J rfl fun U J=>wpList_nil (l5 _ _ ?_)
  refine l4 _ _ (aC ?_)
  refine x_l G J rfl fun q1 _ U J G=>x_m J rfl fun U J=>wpList_nil ?_
  cases G
  exact⟨_,k9 _ rfl,J.sub _ rfl,X⟩
 cases G
 exact wp_exit (k6 d3 (l0 _ rfl) U w (J.sub _ rfl) X)
theorem aC5 {a0 a1 A1 n1 c1 y} (G:tX a0 a1=some y) (X:SH r (L) w) (ha1:RdL L (kI .i64) A1 n1 c1 a1) :
  Ret Tryz.prog 84 #[.int .u8 a0,.slice A1 n1 c1] w fun v w'=>∃ (B0:Option Addr) (m0:Nat) (d0:Nat),v=.slice B0 m0 d0∧SH r (own (kI .u8) 5 B0 m0 d0 y::L) w':=by
 refine enter Tryz.func84 rfl Tryz.ntmps84 [(0,_),(1,_)] rfl (by simp) ?_
 intro U J Qf hQ hQn
 unfold tX at G
 refine nz 1 J rfl fun U J=>ws fun q0 g7=>xk 1 J rfl fun U J=>iV (d:=(kI .u8)) (e:=5) (ps:=#[(0,.int .u8 a0)]) (cells:=[.int .u8 a0]) (xs:=[a0]) (fun w=>by kernel_rfl) rfl ⟨[.int .u8 a0],_,rfl,rfl,rfl⟩ J X (fun q1 U w X J=>?_) rfl
 refine x_m J rfl fun U J=>bC bM (X.rdl 1 ha1 rfl).2.1 J (fun U J=>?_) rfl
 refine iQ G J (aX uu3 nH rfl (J.ev rfl)) rfl fun q2 _ U J G=>?_
 obtain⟨g8,g9,G⟩:=bnd G
 refine x_c aOv J rfl (qU g9 X :) fun v U w hR J=>?_
 obtain⟨a9,b3,b4,rfl,X⟩:=hR
 refine x_m J rfl fun U J=>wn (g7 _ _ ?_)
 refine wp_seq_k fun q3 h0=>nz 1 J rfl fun U J=>aA fun h1 h2=>?_
 have hb1:∀e8,iD e8=some y→∀b5 b6 b7 U w,FR 93 [] U [(5,.slice b5 b6 b7)]→SH r (own (kI .u8) 5 b5 b6 b7 e8::L) w→h1 U w:=by
  intro e8 G b5 b6 b7 U w J X
  unfold iD at G
  refine h2 _ _ (h0 _ _ ?_)
  refine nz 2 J rfl fun U J=>?_
  cases G
  refine wp_ret (hQ _ _ ?_)
  exact lv Tryz.results84 J rfl ⟨b5,b6,b7,rfl,X⟩
 refine nz 2 J rfl fun U J=>bH J G rfl (fun h3 G=>?_) fun h3 G=>?_
 ·refine ws fun q4 h4=>xk 1 J rfl fun U J=>bC bM (X.rdl 1 ha1 rfl).2.1 J (fun U J=>?_) rfl
  refine x_m J rfl fun U J=>wn (h4 _ _ ?_)
  refine aA fun f5 h5=>?_
  have hb2:∀b8,vL b8=some y→∀b9 c0 c3 U w,FR 93 [] U [(5,.slice b9 c0 c3)]→SH r (own (kI .u8) 5 b9 c0 c3 b8::L) w→f5 U w:=by
   intro b8 G b9 c0 c3 U w J X
   unfold vL at G
   exact h5 _ _ (hb1 b8 G b9 c0 c3 U w (J.sub _ rfl) X)
  obtain⟨h6,h7,G⟩:=bnd G
  have h8:∀a5,(a5)=h6→∀c4 c5 c6 U w,FR 93 [] U [(5,.slice c4 c5 c6)]→SH r (own (kI .u8) 5 c4 c5 c6 a5::L) w→f5 U w:=by
   intro a5 ht c4 c5 c6 U w J X
   subst ht
   replace G:sX a5=some y:=G
   unfold sX at G
   exact hb2 a5 G c4 c5 c6 U w (J.sub _ rfl) X
  refine aE h7 (fun s U w=>∃c7 c8 c9,FR 93 [] U [(5,.slice c7 c8 c9),(22,.slice A1 n1 c1),(23,.int .i64 (a1.length:Int)),(24,.int .i64 s.2)]∧SH r (own (kI .u8) 5 c7 c8 c9 s.1::L) w) ⟨a9,b3,b4,J.sub _ rfl,X⟩ ?_
  intro q5 h9 i0 G i1 i2 U w hLab
  obtain⟨f6,i3⟩:=h9
  replace G:kN a1 f6 i3=some i0:=G
  unfold kN at G
  try dsimp only at hLab
  obtain⟨c7,c8,c9,J,X⟩:=hLab
  refine nz 1 J rfl fun U J=>wp_seq_k fun q6 i4=>bH J G rfl (fun i5 G=>?_) fun i5 G=>?_
  ·refine wp_skip (i4 _ _ ?_)
   refine wp_seq_k fun q7 i6=>aA fun q8 i7=>ws fun q9 i8=>?_
   obtain⟨r0,f7,G⟩:=bnd G
   refine fR bM sz2 (X.rdl 1 ha1 rfl) f7 J (fun U J=>?_) rfl
   obtain⟨cs,hV,i9⟩:=el (X.rdl 1 ha1 rfl) f7
   obtain rfl:=hV
   refine aK uu2 (i9 0 _ rfl) J (fun U J=>?_) rfl
   refine x_m J rfl fun U J=>wn (i8 _ _ ?_)
   refine aC (xk 2 J rfl fun U J=>?_)
   obtain⟨r1,j0,G⟩:=bnd G
   refine x_c aL3 J rfl (uY j0 X :) fun v U w hR J=>?_
   obtain⟨j1,j2,j3,rfl,X⟩:=hR
   refine x_m J rfl fun U J=>wpList_nil (i7 _ _ ?_)
   refine i6 _ _ (aC ?_)
   refine x_l G J rfl fun r2 _ U J G=>x_m J rfl fun U J=>wpList_nil ?_
   cases G
   exact⟨_,i1 _ rfl,j1,j2,j3,J.sub _ rfl,X⟩
  cases G
  exact wp_exit (h8 f6 (i2 _ rfl) c7 c8 c9 U w (J.sub _ rfl) X)
 refine nz 2 J rfl fun U J=>bH J G rfl (fun j4 G=>?_) fun j4 G=>?_
 ·refine nz 1 J rfl fun U J=>ws fun r3 j5=>xk 1 J rfl fun U J=>bC bM (X.rdl 1 ha1 rfl).2.1 J (fun U J=>?_) rfl
  refine x_m J rfl fun U J=>wn (j5 _ _ ?_)
  refine aA fun f8 j6=>?_
  have hb3:∀d1,vK d1=some y→∀d2 d3 d4 U w,FR 93 [] U [(5,.slice d2 d3 d4)]→SH r (own (kI .u8) 5 d2 d3 d4 d1::L) w→f8 U w:=by
   intro d1 G d2 d3 d4 U w J X
   unfold vK at G
   exact j6 _ _ (hb1 d1 G d2 d3 d4 U w (J.sub _ rfl) X)
  obtain⟨j7,j8,G⟩:=bnd G
  have j9:∀a6,(a6)=j7→∀d5 d6 d7 U w,FR 93 [] U [(5,.slice d5 d6 d7)]→SH r (own (kI .u8) 5 d5 d6 d7 a6::L) w→f8 U w:=by
   intro a6 ht d5 d6 d7 U w J X
   subst ht
   replace G:sE a6=some y:=G
   unfold sE at G
   exact hb3 a6 G d5 d6 d7 U w (J.sub _ rfl) X
  refine aE j8 (fun s U w=>∃d8 d9 e0,FR 93 [] U [(5,.slice d8 d9 e0),(8,.int .i64 s.2.1),(34,.slice A1 n1 c1),(35,.int .i64 (a1.length:Int)),(36,.int .i64 s.2.2)]∧SH r (own (kI .u8) 5 d8 d9 e0 s.1::L) w) ⟨a9,b3,b4,J.sub _ rfl,X⟩ ?_
  intro r4 k0 k1 G k2 k3 U w hLab
  obtain⟨f9,k4,k5⟩:=k0
  replace G:kO a1 f9 k4 k5=some k1:=G
  unfold kO at G
  try dsimp only at hLab
  obtain⟨d8,d9,e0,J,X⟩:=hLab
  refine nz 1 J rfl fun U J=>wp_seq_k fun r5 k6=>bH J G rfl (fun k7 G=>?_) fun k7 G=>?_
  ·refine wp_skip (k6 _ _ ?_)
   refine wp_seq_k fun r6 k8=>aA fun r7 k9=>ws fun r8 l0=>?_
   obtain⟨r9,g0,G⟩:=bnd G
   refine fR bM sz2 (X.rdl 1 ha1 rfl) g0 J (fun U J=>?_) rfl
   obtain⟨cs,hV,l1⟩:=el (X.rdl 1 ha1 rfl) g0
   obtain rfl:=hV
   refine aK uu2 (l1 0 _ rfl) J (fun U J=>?_) rfl
   refine x_m J rfl fun U J=>wn (l0 _ _ ?_)
   refine ws fun s2 l2=>xk 3 J rfl fun U J=>x_l G J rfl fun s3 _ U J G=>?_
   obtain⟨s4,l3,G⟩:=bnd G
   refine x_c aL3 J rfl (uY l3 X :) fun v U w hR J=>?_
   obtain⟨l4,l5,l6,rfl,X⟩:=hR
   refine x_m J rfl fun U J=>wn (l2 _ _ ?_)
   refine aC (nk 2 J rfl fun U J=>?_)
   refine k9 _ _ (k8 _ _ ?_)
   refine aC (x_l G J rfl fun s5 _ U J G=>?_)
   refine x_m J rfl fun U J=>wpList_nil ?_
   cases G
   exact⟨_,k2 _ rfl,l4,l5,l6,J.sub _ rfl,X⟩
  cases G
  exact wp_exit (j9 f9 (k3 _ rfl) d8 d9 e0 U w (J.sub _ rfl) X)
 refine nz 2 J rfl fun U J=>bH J G rfl (fun l7 G=>?_) fun l7 G=>?_
 ·refine nz 1 J rfl fun U J=>aA fun g1 l8=>?_
  have hb4:∀e1,vI e1=some y→∀e2 e3 e4 U w,FR 93 [] U [(5,.slice e2 e3 e4)]→SH r (own (kI .u8) 5 e2 e3 e4 e1::L) w→g1 U w:=by
   intro e1 G e2 e3 e4 U w J X
   unfold vI at G
   exact l8 _ _ (hb1 e1 G e2 e3 e4 U w (J.sub _ rfl) X)
  obtain⟨l9,m1,G⟩:=bnd G
  have m2:∀a7,(a7)=l9→∀e5 e6 e7 U w,FR 93 [] U [(5,.slice e5 e6 e7)]→SH r (own (kI .u8) 5 e5 e6 e7 a7::L) w→g1 U w:=by
   intro a7 ht e5 e6 e7 U w J X
   subst ht
   replace G:sA a7=some y:=G
   unfold sA at G
   exact hb4 a7 G e5 e6 e7 U w (J.sub _ rfl) X
  refine aE m1 (fun s U w=>∃H I S,FR 93 [] U [(1,.slice A1 n1 c1),(5,.slice H I S),(11,.int .i64 s.2)]∧SH r (own (kI .u8) 5 H I S s.1::L) w) ⟨a9,b3,b4,J.sub _ rfl,X⟩ ?_
  intro s6 m3 e9 G m4 m5 U w hLab
  obtain⟨a2,C⟩:=m3
  replace G:lS a1 a2 C=some e9:=G
  unfold lS at G
  try dsimp only at hLab
  obtain⟨H,I,S,J,X⟩:=hLab
  refine wp_seq_k fun s7 m6=>ws fun s8 m7=>xk 2 J rfl fun U J=>bC bM (X.rdl 1 ha1 rfl).2.1 J (fun U J=>?_) rfl
  refine nk 1 J rfl fun U J=>m7 _ _ (bH J G rfl (fun m8 G=>?_) fun m8 G=>?_)
  ·refine wp_skip (m6 _ _ ?_)
   refine aA fun s9 m9=>nz 1 J rfl fun U J=>wp_seq_k fun t0 n0=>aA fun g2 n3=>?_
   have hb5:∀f2,vC a1 a2 C f2=some e9→∀U w,FR 93 [] U [(1,.slice A1 n1 c1),(5,.slice H I S),(11,.int .i64 C),(12,.int .i64 f2)]→SH r (own (kI .u8) 5 H I S a2::L) w→g2 U w:=by
    intro f2 G U w J X
    unfold vC at G
    refine n3 _ _ (n0 _ _ ?_)
    refine ws fun t1 n4=>xk 3 J rfl fun U J=>?_
    obtain⟨t3,g3,G⟩:=bnd G
    refine fR bM sz2 (X.rdl 1 ha1 rfl) g3 J (fun U J=>?_) rfl
    obtain⟨cs,hV,n5⟩:=el (X.rdl 1 ha1 rfl) g3
    obtain rfl:=hV
    refine aK uu2 (n5 0 _ rfl) J (fun U J=>?_) rfl
    obtain⟨t4,n6,G⟩:=bnd G
    refine x_c aL3 J rfl (uY n6 X :) fun v U w hR J=>?_
    obtain⟨t5,t6,t7,rfl,X⟩:=hR
    refine x_m J rfl fun U J=>x_l G J rfl fun t8 _ U J G=>iQ G J (aX uu3 nH rfl (J.ev rfl)) rfl fun t9 _ U J G=>?_
    obtain⟨u0,n7,G⟩:=bnd G
    refine x_c aOv J rfl (qU n7 X :) fun v U w hR J=>?_
    obtain⟨n8,n9,o0,rfl,X⟩:=hR
    refine x_m J rfl fun U J=>wn (n4 _ _ ?_)
    refine aC (xk 2 J rfl fun U J=>?_)
    refine x_l G J rfl fun u1 _ U J G=>x_m J rfl fun U J=>wpList_nil ?_
    cases G
    exact m9 _ _ ⟨_,m4 _ rfl,n8,n9,o0,J.sub _ rfl,X⟩
   obtain⟨o1,o2,G⟩:=bnd G
   have o3:∀a8,(a8)=o1→∀U w,FR 93 [] U [(1,.slice A1 n1 c1),(5,.slice H I S),(11,.int .i64 C),(12,.int .i64 a8)]→SH r (own (kI .u8) 5 H I S a2::L) w→g2 U w:=by
    intro a8 ht U w J X
    subst ht
    replace G:sZ a1 a2 C a8=some e9:=G
    unfold sZ at G
    exact hb5 a8 G U w (J.sub _ rfl) X
   refine aE o2 (fun s U w=>FR 93 [] U [(1,.slice A1 n1 c1),(5,.slice H I S),(11,.int .i64 C),(12,.int .i64 s)]∧SH r (own (kI .u8) 5 H I S a2::L) w) ⟨J.sub _ rfl,X⟩ ?_
   intro u2 o4 g4 G o5 o6 U w hLab
   obtain⟨Y,rfl⟩:∃ q,q=o4:=⟨_,rfl⟩
   replace G:lY a1 C Y=some g4:=G
   unfold lY at G
   try dsimp only at hLab
   obtain⟨J,X⟩:=hLab
   refine wp_seq_k fun u3 o7=>wp_seq_k fun o8 o9=>?_
   have hj1:∀f3,nN Y f3=some g4→∀U w,FR 93 [] U [(1,.slice A1 n1 c1),(5,.slice H I S),(11,.int .i64 C),(12,.int .i64 Y),(71,.bool f3)]→SH r (own (kI .u8) 5 H I S a2::L) w→o8 U w:=by
    intro f3 G U w J X
    unfold nN at G
    refine o9 _ _ (bH J G rfl (fun p0 G=>?_) fun p0 G=>?_)
    ·refine wp_skip (o7 _ _ ?_)
     refine aA fun u4 p1=>aC (x_m J rfl fun U J=>?_)
     refine x_l G J rfl fun u5 _ U J G=>x_m J rfl fun U J=>wpList_nil ?_
     cases G
     exact p1 _ _ ⟨_,o5 _ rfl,J.sub _ rfl,X⟩
    cases G
    exact wp_exit (o3 Y (o6 _ rfl) U w (J.sub _ rfl) X)
   refine dE [0,0,3,0,8,31,63,127,127,127,895,2047,4095,127,127,24703,57471,131071,262143] [] rfl J X (by kernel_rfl) (by kernel_rfl) (by kernel_rfl) (by kernel_rfl) fun w X=>?_
   obtain⟨h,f4,G⟩:=nR G
   refine bcG G (fun z G=>?_) fun z G=>?_
   ·obtain⟨a3,g5,G⟩:=bnd G
    obtain⟨cs,hV,p2⟩:=el (X.rdl 1 ha1 rfl) g5
    obtain rfl:=hV
    obtain⟨a4,g6,G⟩:=bnd G
    obtain⟨cs,hV,p3⟩:=el (X.rdl 1 ha1 rfl) g6
    obtain rfl:=hV
    refine⟨[(0,.int .i64 C),(1,.int .i64 Y),(2,.int .i64 h),(3,.slice A1 n1 c1),(4,.int .i64 (a1.length:Int)),(5,.bool (decide (h<(a1.length:Int)))),(6,.bool (decide (h<(a1.length:Int)))),(7,.slice A1 n1 c1),(8,.int .i64 C),(9,.int .i64 Y),(10,.int .i64 h),(11,.pointer (some (ea A1 (h.toNat * 1)))),(12,.int .i64 a3),(13,.slice A1 n1 c1),(14,.int .i64 C),(15,.pointer (some (ea A1 (C.toNat * 1)))),(16,.int .i64 a4),(17,.bool (a3==a4)),(18,.bool (a3==a4))],?_⟩
    refine gW [0,1,2,3,4,5,6,7,8,9,10,11,12,13,14,15,16,17,18] (by kernel_rfl) ⟨pm rfl,pm rfl,pt [(53,.int .i64 C),(54,.int .i64 Y)] rfl fun U J=>kR f4 (iT rfl (J.ev rfl) (J.ev rfl)),pm rfl,pt [(56,.slice A1 n1 c1)] rfl (fun U J=>aDm bM (X.rdl 1 ha1 rfl).2.1 J rfl rfl),pt [(55,.int .i64 h),(57,.int .i64 (a1.length:Int))] rfl (fun U J=>rB rfl (J.ev rfl) (J.ev rfl)),pm rfl,jY rfl rfl rfl rfl [(1,.slice A1 n1 c1),(59,.bool (decide (h<(a1.length:Int))))] rfl z (fun U J=>pH J rfl rfl) rfl,jY rfl rfl rfl rfl [(11,.int .i64 C),(59,.bool (decide (h<(a1.length:Int))))] rfl z (fun U J=>pH J rfl rfl) rfl,jY rfl rfl rfl rfl [(12,.int .i64 Y),(59,.bool (decide (h<(a1.length:Int))))] rfl z (fun U J=>pH J rfl rfl) rfl,jY rfl rfl rfl rfl [(59,.bool (decide (h<(a1.length:Int)))),(61,.int .i64 C),(62,.int .i64 Y)] rfl z (fun U J=>(kR f4 (iT rfl (J.ev rfl) (J.ev rfl)):RunV _ _ _ _ (.int .i64 h))) rfl,jY rfl rfl rfl rfl [(59,.bool (decide (h<(a1.length:Int)))),(60,.slice A1 n1 c1),(63,.int .i64 h)] rfl z (fun U J=>fT bM sz2 (X.rdl 1 ha1 rfl) g5 J rfl rfl rfl) rfl,jY rfl rfl rfl rfl [(59,.bool (decide (h<(a1.length:Int)))),(64,.pointer (some (ea A1 (h.toNat * 1))))] rfl z (fun U J=>cM uu2 (p2 0 _ rfl) J rfl rfl rfl) rfl,jY rfl rfl rfl rfl [(1,.slice A1 n1 c1),(59,.bool (decide (h<(a1.length:Int))))] rfl z (fun U J=>pH J rfl rfl) rfl,jY rfl rfl rfl rfl [(11,.int .i64 C),(59,.bool (decide (h<(a1.length:Int))))] rfl z (fun U J=>pH J rfl rfl) rfl,jY rfl rfl rfl rfl [(59,.bool (decide (h<(a1.length:Int)))),(66,.slice A1 n1 c1),(67,.int .i64 C)] rfl z (fun U J=>fT bM sz2 (X.rdl 1 ha1 rfl) g6 J rfl rfl rfl) rfl,jY rfl rfl rfl rfl [(59,.bool (decide (h<(a1.length:Int)))),(68,.pointer (some (ea A1 (C.toNat * 1))))] rfl z (fun U J=>cM uu2 (p3 0 _ rfl) J rfl rfl rfl) rfl,jY rfl rfl rfl rfl [(59,.bool (decide (h<(a1.length:Int)))),(65,.int .i64 a3),(69,.int .i64 a4)] rfl z (fun U J=>aG1 rfl (J.ev rfl) (J.ev rfl)) rfl,pt [(59,.bool (decide (h<(a1.length:Int)))),(70,.bool (a3==a4))] rfl (fun U J=>aB5 z J rfl rfl rfl),trivial⟩ ⟨by kernel_rfl,by kernel_rfl⟩ [(1,_),(5,_),(11,_),(12,_),(60,_),(61,_),(62,_),(63,_),(65,_),(66,_),(67,_),(69,_),(70,_),(71,_)] rfl (fun U J=>?_)
    exact hj1 (a3==a4) G U w (J.sub _ rfl) X
   refine⟨[(0,.int .i64 C),(1,.int .i64 Y),(2,.int .i64 h),(3,.slice A1 n1 c1),(4,.int .i64 (a1.length:Int)),(5,.bool (decide (h<(a1.length:Int)))),(6,.bool (decide (h<(a1.length:Int)))),(7,undef),(8,undef),(9,undef),(10,undef),(11,undef),(12,undef),(13,undef),(14,undef),(15,undef),(16,undef),(17,undef),(18,.bool false)],?_⟩
   refine gW [0,1,2,3,4,5,6,7,8,9,10,11,12,13,14,15,16,17,18] (by kernel_rfl) ⟨pm rfl,pm rfl,pt [(53,.int .i64 C),(54,.int .i64 Y)] rfl fun U J=>kR f4 (iT rfl (J.ev rfl) (J.ev rfl)),pm rfl,pt [(56,.slice A1 n1 c1)] rfl (fun U J=>aDm bM (X.rdl 1 ha1 rfl).2.1 J rfl rfl),pt [(55,.int .i64 h),(57,.int .i64 (a1.length:Int))] rfl (fun U J=>rB rfl (J.ev rfl) (J.ev rfl)),pm rfl,fM rfl rfl rfl rfl [(1,.slice A1 n1 c1),(59,.bool (decide (h<(a1.length:Int))))] rfl z rfl,fM rfl rfl rfl rfl [(11,.int .i64 C),(59,.bool (decide (h<(a1.length:Int))))] rfl z rfl,fM rfl rfl rfl rfl [(12,.int .i64 Y),(59,.bool (decide (h<(a1.length:Int))))] rfl z rfl,fM rfl rfl rfl rfl [(59,.bool (decide (h<(a1.length:Int)))),(61,undef),(62,undef)] rfl z rfl,fM rfl rfl rfl rfl [(59,.bool (decide (h<(a1.length:Int)))),(60,undef),(63,undef)] rfl z rfl,fM rfl rfl rfl rfl [(59,.bool (decide (h<(a1.length:Int)))),(64,undef)] rfl z rfl,fM rfl rfl rfl rfl [(1,.slice A1 n1 c1),(59,.bool (decide (h<(a1.length:Int))))] rfl z rfl,fM rfl rfl rfl rfl [(11,.int .i64 C),(59,.bool (decide (h<(a1.length:Int))))] rfl z rfl,fM rfl rfl rfl rfl [(59,.bool (decide (h<(a1.length:Int)))),(66,undef),(67,undef)] rfl z rfl,fM rfl rfl rfl rfl [(59,.bool (decide (h<(a1.length:Int)))),(68,undef)] rfl z rfl,fM rfl rfl rfl rfl [(59,.bool (decide (h<(a1.length:Int)))),(65,undef),(69,undef)] rfl z rfl,pt [(59,.bool (decide (h<(a1.length:Int)))),(70,undef)] rfl (fun U J=>aAh z J rfl rfl rfl),trivial⟩ ⟨by kernel_rfl,by kernel_rfl⟩ [(1,_),(5,_),(11,_),(12,_),(71,_)] rfl (fun U J=>?_)
   exact hj1 false G U w (J.sub _ rfl) X
  cases G
  exact wp_exit (m2 a2 (m5 _ rfl) H I S U w (J.sub _ rfl) X)
 refine nz 2 J rfl fun U J=>bH J G rfl (fun p4 G=>?_) fun p4 G=>?_
 ·refine aC (xk 2 J rfl fun U J=>?_)
  obtain⟨p5,p6,G⟩:=bnd G
  refine x_c aYy J rfl (aGg p6 X (RdL.sfx 0 rfl ha1) :) fun v U w hR J=>?_
  obtain⟨p7,p8,p9,rfl,X⟩:=hR
  exact x_m J rfl fun U J=>wpList_nil (hb1 p5 G p7 p8 p9 U w (J.sub _ rfl) X)
 exact wp_skip (hb1 g8 G a9 b3 b4 U w (J.sub _ rfl) X)
theorem qY {a0 A0 n0 c0 y} (G:mH a0=some y) (X:SH r (L) w) (ha0:RdL L (kI .i64) A0 n0 c0 a0) :
  Ret Tryz.prog 66 #[.slice A0 n0 c0] w fun v w'=>∃ (B0:Option Addr) (m0:Nat) (d0:Nat),v=.slice B0 m0 d0∧SH r (own (kI .u8) 5 B0 m0 d0 y::L) w':=by
 refine enter Tryz.func66 rfl Tryz.ntmps66 [(0,_)] rfl (by simp) ?_
 intro U J Qf hQ hQn
 unfold mH at G
 refine nz 1 J rfl fun U J=>ws fun e6 b6=>xk 1 J rfl fun U J=>?_
 obtain⟨e7,b7,G⟩:=bnd G
 refine x_c aYb J rfl (aC5 b7 X (RdL.sfx 0 rfl ha0) :) fun v U w hR J=>?_
 obtain⟨b8,b9,c3,rfl,X⟩:=hR
 refine x_m J rfl fun U J=>wn (b6 _ _ ?_)
 refine wp_seq_k fun e8 c4=>nz 1 J rfl fun U J=>aA fun b4 c5=>?_
 have hb1:∀a7,wB a7=some y→∀I S Y U w,FR 22 [] U [(3,.slice I S Y)]→SH r (own (kI .u8) 5 I S Y a7::L) w→b4 U w:=by
  intro a7 G I S Y U w J X
  unfold wB at G
  refine c5 _ _ (c4 _ _ ?_)
  refine nz 2 J rfl fun U J=>?_
  cases G
  refine wp_ret (hQ _ _ ?_)
  exact lv Tryz.results66 J rfl ⟨I,S,Y,rfl,X⟩
 obtain⟨c6,c7,G⟩:=bnd G
 have c8:∀h,(h)=c6→∀a1 a2 a3 U w,FR 22 [] U [(3,.slice a1 a2 a3)]→SH r (own (kI .u8) 5 a1 a2 a3 h::L) w→b4 U w:=by
  intro h ht a1 a2 a3 U w J X
  subst ht
  replace G:tU h=some y:=G
  unfold tU at G
  exact hb1 h G a1 a2 a3 U w (J.sub _ rfl) X
 refine aE c7 (fun s U w=>∃z C H,FR 22 [] U [(0,.slice A0 n0 c0),(3,.slice z C H),(4,.int .u8 s.2)]∧SH r (own (kI .u8) 5 z C H s.1::L) w) ⟨b8,b9,c3,J.sub _ rfl,X⟩ ?_
 intro e9 c9 b5 G d1 d2 U w hLab
 obtain⟨a8,a9⟩:=c9
 replace G:fI a0 a8 a9=some b5:=G
 unfold fI at G
 try dsimp only at hLab
 obtain⟨z,C,H,J,X⟩:=hLab
 refine wp_seq_k fun f2 d3=>nz 2 J rfl fun U J=>bH J G rfl (fun d4 G=>?_) fun d4 G=>?_
 ·refine wp_skip (d3 _ _ ?_)
  refine wp_seq_k fun f3 d5=>aA fun d6 d7=>?_
  have hb2:∀b3,pE a9 b3=some b5→∀a4 a5 a6 U w,FR 22 [] U [(0,.slice A0 n0 c0),(3,.slice a4 a5 a6),(4,.int .u8 a9)]→SH r (own (kI .u8) 5 a4 a5 a6 b3::L) w→d6 U w:=by
   intro b3 G a4 a5 a6 U w J X
   unfold pE at G
   refine d7 _ _ (d5 _ _ ?_)
   refine aC (x_m J rfl fun U J=>?_)
   refine x_l G J rfl fun f4 _ U J G=>x_m J rfl fun U J=>wpList_nil ?_
   cases G
   exact⟨_,d1 _ rfl,a4,a5,a6,J.sub _ rfl,X⟩
  refine ws fun f5 d8=>xk 2 J rfl fun U J=>?_
  obtain⟨d9,e0,G⟩:=bnd G
  refine x_c aYb J rfl (aC5 e0 X (RdL.sfx 1 rfl ha0) :) fun v U w hR J=>?_
  obtain⟨e1,e2,e3,rfl,X⟩:=hR
  refine x_m J rfl fun U J=>wn (d8 _ _ ?_)
  refine ws fun f6 e4=>xk 1 J rfl fun U J=>bC fC (X.rd 0 rfl).2.1 J (fun U J=>?_) rfl
  refine x_m J rfl fun U J=>bC fC (X.rd 1 rfl).2.1 J (fun U J=>?_) rfl
  refine nk 1 J rfl fun U J=>e4 _ _ (bH J G rfl (fun e5 G=>?_) fun e5 G=>?_)
  ·refine aC (nk 2 J rfl fun U J=>?_)
   replace X:=X.drop 1
   exact hb2 d9 G e1 e2 e3 U w (J.sub _ rfl) X
  replace X:=X.drop 0
  exact wp_skip (hb2 a8 G z C H U w (J.sub _ rfl) X)
 cases G
 exact wp_exit (c8 a8 (d2 _ rfl) z C H U w (J.sub _ rfl) X)
end
theorem aNg {r:World} {L:List HP} {g:Nat} {b:Bool} {w:World} (hS:SH r (blk g 4 [.bool b]::L) w) :
    CallsD Tryz.prog 97 #[.pointer (some ⟨g,0,none⟩)] (.panicking aB1) w fun e u' w'=>e=.returned (.tuple #[])∧u'=.panicking [{ v:=.iface 154 (.agg #[]),recovered:=true }]∧SH r (blk g 4 [.bool false]::L) w':=by
  refine callsD_of_wpS Tryz.func97 rfl fun c₀ cs hu=>?_
  apply wpS_seq
  apply wpS_region
  simp only [List.size_toArray,List.length_cons,List.length_nil,Nat.zero_add]
  rw [show List.range (1+1)=[0,1] from rfl]
  simp [wpOpsS,go_sem,recoverD,hu,aB1,Tryz.ntmps97,Exit.thenS]
  generalize hac:({ tmps:=_,defers:=_ }:Act)=ac
  have hA:FR 15 [] ac [(0,.pointer (some ⟨g,0,none⟩)),(1,.iface 154 (.agg #[]))]:=by
    subst hac
    refine⟨by simp,rfl,fun t v hv=>?_⟩
    simp only [lk] at hv
    by_cases e0:t=0
    · subst e0; cases hv; rfl
    by_cases e1:t=1
    · subst e1; cases hv; rfl
    · exfalso
      rw [show Nat.beq 0 t=false by cases h:Nat.beq 0 t; rfl; exact absurd (Nat.eq_of_beq_eq_true h).symm e0,show Nat.beq 1 t=false by cases h:Nat.beq 1 t; rfl; exact absurd (Nat.eq_of_beq_eq_true h).symm e1] at hv
      cases hv
  clear hac
  refine wpS_of_wp ?_
  have fin:∀ (a:Act) (w:World),FR 15 [] a []→SH r (blk g 4 [.bool false]::L) w→bodyPostS Tryz.prog Tryz.f97 c₀ cs (fun e u' w'=>e=.returned (.tuple #[])∧u'=.panicking [{ v:=.iface 154 (.agg #[]),recovered:=true }]∧SH r (blk g 4 [.bool false]::L) w') .normal a ({ c₀ with mode:=.panicking [{ v:=.iface 154 (.agg #[]),recovered:=true }] }::cs) w:=by
    intro a w hA hS
    exact⟨hA.defers,_,rfl,_,results_none Tryz.results97 _ _ _,rfl,rfl,hS⟩
  refine wp_seq_k fun K1 h1=>?_
  refine aC ?_
  refine sF hA (fun ac hA=>?_)
  refine jC (v:=.bool true) hA (aN1 Tryz.underlying20 rfl (hA.ev rfl) (hA.ev rfl)) (fun ac hA=>?_)
  refine wpList_nil ?_
  refine h1 _ _ ?_
  refine c_t (b:=true) rfl hA ?_
  refine wp_seq_k fun K4 h4=>?_
  refine wp_seq_k fun K2 h2=>?_
  refine aC ?_
  refine sF hA (fun ac hA=>?_)
  refine jC (v:=.tuple #[.agg #[],.bool true]) hA (aI0 Tryz.underlying154 rfl rfl (hA.ev rfl)) (fun ac hA=>?_)
  refine sF hA (fun ac hA=>?_)
  refine jC hA (tJ rfl (hA.ev rfl) rfl) (fun ac hA=>?_)
  refine jC hA (tJ rfl (hA.ev rfl) rfl) (fun ac hA=>?_)
  refine aIh (cs:=[]) aYr hA hS (fun g2 ac w hS hA=>?_)
  refine aMs (vs:=[]) 0 aYk hA hS rfl (fun ac w hS hA=>?_)
  refine kX hA (fun ac hA=>?_)
  refine wpList_nil ?_
  refine h2 _ _ ?_
  refine wp_seq_k fun K3 h3=>?_
  refine aC ?_
  refine sF hA (fun ac hA=>?_)
  refine jC hA (aDp rfl (hA.ev rfl)) (fun ac hA=>?_)
  refine wpList_nil ?_
  refine h3 _ _ ?_
  refine c_f (b := !true) rfl hA ?_
  refine wp_skip ?_
  refine h4 _ _ ?_
  refine aC ?_
  refine aMs (vs:=[.bool false]) 1 sz4 hA hS rfl (fun ac w hS hA=>?_)
  refine wpList_nil ?_
  have hS':=hS.pk 1
  exact fin _ _ (hA.sub _ rfl) (hS'.tail)
theorem aLs {g:Nat} {w:World} :
    CallsD Tryz.prog 97 #[.pointer (some ⟨g,0,none⟩)] .returning w fun e u' w'=>e=.returned (.tuple #[])∧u'=.returning∧w'=w:=by
  refine callsD_of_wpS Tryz.func97 rfl fun c₀ cs hu=>?_
  apply wpS_seq
  apply wpS_region
  simp only [List.size_toArray,List.length_cons,List.length_nil,Nat.zero_add]
  rw [show List.range (1+1)=[0,1] from rfl]
  simp [wpOpsS,go_sem,recoverD,hu,Tryz.ntmps97,Exit.thenS]
  generalize hac:({ tmps:=_,defers:=_ }:Act)=ac
  have hA:FR 15 [] ac [(0,.pointer (some ⟨g,0,none⟩)),(1,.nilIface)]:=by
    subst hac
    refine⟨by simp,rfl,fun t v hv=>?_⟩
    simp only [lk] at hv
    by_cases e0:t=0
    · subst e0; cases hv; rfl
    by_cases e1:t=1
    · subst e1; cases hv; rfl
    · exfalso
      rw [show Nat.beq 0 t=false by cases h:Nat.beq 0 t; rfl; exact absurd (Nat.eq_of_beq_eq_true h).symm e0,show Nat.beq 1 t=false by cases h:Nat.beq 1 t; rfl; exact absurd (Nat.eq_of_beq_eq_true h).symm e1] at hv
      cases hv
  clear hac
  refine wpS_of_wp ?_
  refine wp_seq_k fun K1 h1=>?_
  refine aC ?_
  refine sF hA (fun ac hA=>?_)
  refine jC (v:=.bool false) hA (aOh Tryz.underlying20 rfl (hA.ev rfl)) (fun ac hA=>?_)
  refine wpList_nil ?_
  refine h1 _ _ ?_
  refine c_f (b:=false) rfl hA ?_
  refine wp_skip ?_
  refine⟨hA.defers,c₀.mode,rfl,_,results_none Tryz.results97 _ _ _,rfl,hu,rfl⟩
theorem aCd {r:World} {L:List HP} {w:World} {g:Nat} {b:Bool} {a:Act} {n:Nat} {D:List Deferred} {F:List (Nat×Value)} (hA:FR n D a F) (h1:lk F 4=some (.pointer (some ⟨g,0,none⟩))) (hS:SH r (blk g 4 [.bool b]::L) w) :
    (results Tryz.f75 a.tmps).run Tryz.prog w=.ok (.bool b) w:=by
  have e1:a.tmps.getD 4 undef=.pointer (some ⟨g,0,none⟩):=hA.ev (x:=.tmp 4) h1
  have e1':a.tmps[4]?.getD undef=.pointer (some ⟨g,0,none⟩):=by rw [← Array.getD_eq_getD_getElem?]; exact e1
  have hc:=hS.cell 0 rfl 0 (.bool b) rfl
  have hagg:(isAgg 4).run Tryz.prog w=.ok false w:=by rw [oW Tryz.underlying4]; rfl
  have hld:(loadVar 4 ⟨g,0,none⟩).run Tryz.prog w=.ok (.bool b) w:=by simp [loadVar,hagg,hc]
  simp [results,Tryz.results75,e1',asAddr,hld]
section
variable {r:World} {L:List HP} {w:World} {A:Option Addr} {n c f:Nat} {fs caps:Array Value}
theorem aFl {R:Value→World→Prop} (hf:EN Tryz.prog f) (hS:SH r L w)
    (hret:∀ g g4 w1,SH r (blk g 157 [.slice A n c]::blk g4 4 [.bool false]::L) w1 →
      (Ret Tryz.prog f (fs++#[.pointer (some ⟨g,0,none⟩)]++caps) w1 fun v w2=>∃ L1 A' n' c',SH r (blk g 157 [.slice A' n' c']::blk g4 4 [.bool false]::L1) w2∧∀ w3,SH r L1 w3→R (.bool ((n':Int)==0)) w3) ∨
      (Calls Tryz.prog f (fs++#[.pointer (some ⟨g,0,none⟩)]++caps) w1 fun e w2=>e=.panicked aB1∧∃ L1,SH r (blk g4 4 [.bool false]::L1) w2∧∀ w3,SH r L1 w3→R (.bool false) w3)) :
    Ret Tryz.prog 75 #[.slice A n c,.func (.func f) fs caps] w R:=by
  refine aVp Tryz.func75 rfl Tryz.ntmps75 [(0,.slice A n c),(1,.func (.func f) fs caps)] rfl (by simp) ?_
  intro ac hA
  refine wp_seq_k fun K0 h0=>?_
  refine aC ?_
  refine aIh (cs:=[.bool false]) zr4 hA hS (fun g4 ac w hS hA=>?_)
  refine wpList_nil ?_
  refine h0 _ _ ?_
  refine wp_seq_k fun K1 h1=>?_
  refine aC ?_
  refine jC hA (mL rfl (rR (vals:=#[]) hA rfl) (rR (vals:=#[.pointer (some ⟨g4,0,none⟩)]) hA rfl)) (fun ac hA=>?_)
  refine aSq (vs:=#[]) hA (fun ac hA=>?_)
  refine wpList_nil ?_
  refine h1 _ _ ?_
  refine wp_seq_k fun K2 h2=>?_
  refine aC ?_
  refine sF hA (fun ac hA=>?_)
  refine jC (v:=.agg #[.slice A n c]) hA (rG (ps:=#[(0,.slice A n c)]) rfl (tY hA rfl) (fun w=>by kernel_rfl)) (fun ac hA=>?_)
  refine aFs hA hS (fun g ac w hS hA=>?_)
  refine kX hA (fun ac hA=>?_)
  refine wpList_nil ?_
  refine h2 _ _ ?_
  refine wp_seq_k fun K3 h3=>?_
  refine aC ?_
  refine sF hA (fun ac hA=>?_)
  refine sF hA (fun ac hA=>?_)
  rcases hret g g4 w hS with hr | hp
  · refine aMc (vs:=#[.pointer (some ⟨g,0,none⟩)]) hf hA hr (fun v ac w hR hA=>?_)
    obtain⟨L1,A',n',c',hS,hR⟩:=hR
    refine wpList_nil ?_
    refine h3 _ _ ?_
    refine wp_seq_k fun K4 h4=>?_
    refine aC ?_
    refine sF hA (fun ac hA=>?_)
    refine jC hA (dC rfl (hA.ev rfl)) (fun ac hA=>?_)
    refine aU0 pN hA (fun ac hA=>?_)
    refine aKj Tryz.underlying32 (hS.cell 0 rfl 0 _ rfl) hA (fun ac hA=>?_)
    refine jC hA (aDg Tryz.underlying32 rfl (hA.ev rfl)) (fun ac hA=>?_)
    refine jC hA (aG1 rfl (hA.ev rfl) (hA.ev rfl)) (fun ac hA=>?_)
    refine aMs (vs:=[.bool ((n':Int)==0)]) 1 sz4 hA hS rfl (fun ac w hS hA=>?_)
    refine wpList_nil ?_
    refine h4 _ _ ?_
    refine wp_ret ?_
    show Leaves _ _ _ _ _ _ _
    rw [hA.defers]
    refine leaves_cons (f:=97) (args:=#[.pointer (some ⟨g4,0,none⟩)]) (by simp) (by simp [invoke,(aZc _ _:_=_)]) ?_
    refine CallsD.mono aLs ?_
    rintro e u' w' ⟨rfl,rfl,rfl⟩
    exact⟨_,aCd hA rfl hS,_,rfl,hR _ (hS.tail.tail)⟩
  · refine aMo (vs:=#[.pointer (some ⟨g,0,none⟩)]) hf hA hp (fun w hR=>?_)
    obtain⟨L1,hS,hR⟩:=hR
    show Leaves _ _ _ _ _ _ _
    rw [hA.defers]
    refine leaves_cons (f:=97) (args:=#[.pointer (some ⟨g4,0,none⟩)]) (by simp) (by simp [invoke,(aZc _ _:_=_)]) ?_
    refine CallsD.mono (aNg hS) ?_
    rintro e u' w' ⟨rfl,rfl,hS⟩
    exact⟨_,aCd hA rfl hS,_,rfl,hR _ hS.tail⟩
end
noncomputable section
set_option linter.unusedSimpArgs false
def aH (a0:S157) (a1:Bool):Option ((S157)⊕(S157)) :=
  if (!a1)=true then (some (.inr a0)) else (some (.inl a0))
def fH (a0:S157):Option ((Int×S157)⊕(S157)) :=
  (aH a0 (decide (0<(a0.f0.length:Int)))).bind fun h=>(mN h (fun h=>((at_ h.f0 0).bind fun z=>((pA h.f0 1 (h.f0.length:Int)).bind fun C=>(some (.inl (z,(⟨C⟩:S157))))))) (fun h=>(some (.inr h))))
def iS (h:Int) (z:(List Int)):Option (((List Int)×Int×Int)⊕(((Int×S157)⊕(S157)))) :=
  some (.inr (.inl (h,(⟨z⟩:S157))))
def eB (a1:Int) (U:Int) (I:Int) (J:(Int×S157)) (H:(List Int)):Option (((List Int)×Int×Int)⊕(((Int×S157)⊕(S157)))) :=
  ltt (yM .u8 J.1 127) fun X=>(ltt (IntKind.u64.wrap X) fun Y=>(ltt (IntKind.i64.wrap (7 * I)) fun S=>(chk (0≤S) (ltt (yP .u64 Y S) fun a0=>(ltt (ior .u64 U a0) fun h=>(if (decide (J.1<128))=true then (if (decide (h≤a1))=true then (if (I==0)=true then ((aH (⟨H⟩:S157) true).bind fun z=>(mN z (fun z=>(iS h z.f0)) (fun z=>(some (.inr (.inr z)))))) else ((aH (⟨H⟩:S157) (decide (0<J.1))).bind fun C=>(mN C (fun C=>(iS h C.f0)) (fun C=>(some (.inr (.inr C))))))) else ((aH (⟨H⟩:S157) false).bind fun G=>(mN G (fun G=>(iS h G.f0)) (fun G=>(some (.inr (.inr G))))))) else (ltt (IntKind.i64.wrap (I+1)) fun a2=>(some (.inl (H,h,a2))))))))))
def eA (a1:Int) (J:(List Int)) (I:Int) (z:Int):Option (((List Int)×Int×Int)⊕(((Int×S157)⊕(S157)))) :=
  (fH (⟨J⟩:S157)).bind fun h=>(mN h (fun h=>(if (decide (z<9))=true then ((aH h.2 true).bind fun C=>(mN C (fun C=>(eB a1 I z h C.f0)) (fun C=>(some (.inr (.inr C)))))) else (if (z==9)=true then ((aH h.2 (decide (h.1<2))).bind fun G=>(mN G (fun G=>(eB a1 I z h G.f0)) (fun G=>(some (.inr (.inr G)))))) else ((aH h.2 false).bind fun H=>(mN H (fun H=>(eB a1 I z h H.f0)) (fun H=>(some (.inr (.inr H))))))))) (fun h=>(some (.inr (.inr h)))))
def eS (a0:S157) (a1:Int):Option ((Int×S157)⊕(S157)) :=
  (loop (fun s=>eA a1 s.1 s.2.1 s.2.2) (a0.f0,0,0)).bind fun t=>some t
def fZ (a0:S157):Option ((Int×S157)⊕(S157)) :=
  (eS a0 18446744073709551615).bind fun h=>(mN h (fun h=>(ltt (bS .u64 h.1 1) fun z=>(ltt (IntKind.i64.wrap z) fun C=>(ltt (yM .u64 h.1 1) fun G=>(ltt (IntKind.i64.wrap G) fun H=>(ltt (xN .i64 C (IntKind.i64.wrap (0 - H))) fun I=>(some (.inl (I,h.2))))))))) (fun h=>(some (.inr h))))
def jB (a0:S157) (a1:Int):Option (((List UInt8)×S157)⊕(S157)) :=
  ltt (IntKind.u64.wrap a1) fun C=>((eS a0 C).bind fun h=>(mN h (fun h=>(ltt (IntKind.u64.wrap (h.2.f0.length:Int)) fun G=>((aH h.2 (decide (h.1≤G))).bind fun z=>(mN z (fun z=>((pA z.f0 0 h.1).bind fun H=>((pA z.f0 h.1 (z.f0.length:Int)).bind fun I=>(some (.inl (bts H,(⟨I⟩:S157))))))) (fun z=>(some (.inr z))))))) (fun h=>(some (.inr h)))))
def oX (h:(List Int)) (z:(List Int)):Option (((List Int)×S157)⊕(S157)) :=
  some (.inl (z,(⟨h⟩:S157)))
def nQ (h:(List Int)) (z:(List Int)):Option (((List Int)×S157)⊕(S157)) :=
  oX h z
def cY (a0:Int) (C:(List Int)) (z:(List Int)) (G:Int):Option (((List Int)×(List Int)×Int)⊕(((List Int)×(List Int))⊕(((List Int)×S157)⊕(S157)))) :=
  if (decide (G<a0))=true then ((fZ (⟨C⟩:S157)).bind fun h=>(mN h (fun h=>(chk (z.length+[h.1].length≤140737488355328 / 8) (ltt (IntKind.i64.wrap (G+1)) fun H=>(some (.inl (h.2.f0,z++[h.1],H)))))) (fun h=>(some (.inr (.inr (.inr h))))))) else (some (.inr (.inl (C,z))))
def mE (a0:Int) (h:S157):Option (((List Int)×S157)⊕(S157)) :=
  (loop (fun s=>cY a0 s.1 s.2.1 s.2.2) (h.f0,[],0)).bind fun t=>match t with | (.inl t)=>nQ t.1 t.2 | (.inr t)=>some t
def tV (h:(List Int)):Option (((List Int)×S157)⊕(S157)) :=
  some (.inl (h,(⟨[]⟩:S157)))
def rM (h:(List Int)):Option (((List Int)×S157)⊕(S157)) :=
  tV h
def fO (C:(Int×S157)) (G:(List Int)) (z:(List Int)) (h:Int):Option (((List Int)×Int)⊕(((List Int)))) :=
  if (decide (h<(G.length:Int)))=true then ((at_ z h).bind fun H=>(ltt (IntKind.i64.wrap (H+C.1)) fun I=>(ltt (IntKind.i64.wrap (h+1)) fun J=>(some (.inl (z.set h.toNat I,J)))))) else (some (.inr (z)))
def pZ (z:(Int×S157)) (C:(List Int)) (h:(List Int)):Option (((List Int)×S157)⊕(S157)) :=
  (loop (fun s=>fO z h s.1 s.2) (h,0)).bind fun t=>rM t
def nM (h:(Int×S157)) (z:(List Int)) (C:(List Int)):Option (((List Int)×S157)⊕(S157)) :=
  pZ h z C
def kV (h:Int) (z:(List Int)) (C:(List Int)):Option (((List Int)×(List Int)×Int)⊕(((List Int)×(List Int))⊕(((List Int)×S157)⊕(S157)))) :=
  ltt (IntKind.i64.wrap (h+1)) fun G=>(some (.inl (z,C,G)))
def gT (a1:Int) (z:Int) (X:Int) (G:(List Int)) (H:(List Int)) (h:Int):Option (((List Int)×(List Int)×Int)⊕(((List Int)×(List Int))⊕(((List Int)×S157)⊕(S157)))) :=
  if (decide (h<X))=true then (ltt (IntKind.i64.wrap (h.tdiv 8)) fun Y=>((at_ G Y).bind fun a0=>(ltt (h.tmod 8) fun I=>(chk (0≤I) (ltt (bS .u8 a0 I) fun a2=>(ltt (IntKind.u64.wrap a2) fun a3=>(ltt (yM .u64 a3 1) fun J=>(ltt (IntKind.i64.wrap (a1 * z)) fun a4=>(if (decide (a4≤h))=true then ((aH (⟨G⟩:S157) (J==0)).bind fun C=>(mN C (fun C=>(kV h C.f0 H)) (fun C=>(some (.inr (.inr (.inr C))))))) else (chk (z≠0) (ltt (IntKind.i64.wrap (h.tdiv z)) fun S=>((at_ H S).bind fun a5=>(chk (z≠0) (ltt (h.tmod z) fun U=>(chk (0≤U) (ltt (yP .u64 J U) fun a6=>(ltt (IntKind.i64.wrap a6) fun a7=>(ltt (ior .i64 a5 a7) fun a8=>(kV h G (H.set S.toNat a8)))))))))))))))))))) else (some (.inr (.inl (G,H))))
def nE (a1:Int) (z:(Int×S157)) (C:Int) (h:(List Int)):Option (((List Int)×S157)⊕(S157)) :=
  chk (0≤a1∧(8:Int) * a1≤140737488355328) (ltt (IntKind.i64.wrap (8 * (h.length:Int))) fun G=>((loop (fun s=>gT a1 C G s.1 s.2.1 s.2.2) (h,List.replicate a1.toNat (0:Int),0)).bind fun t=>match t with | (.inl t)=>nM z t.1 t.2 | (.inr t)=>some t))
def rC (a0:S157) (a1:Int):Option (((List Int)×S157)⊕(S157)) :=
  (fZ a0).bind fun z=>(mN z (fun z=>((fH z.2).bind fun h=>(mN h (fun h=>(ltt (IntKind.i64.wrap h.1) fun H=>(if (decide (H≤64))=true then (ltt (IntKind.i64.wrap (a1 * H)) fun I=>(ltt (IntKind.i64.wrap (I+7)) fun J=>(ltt (IntKind.i64.wrap (J.tdiv 8)) fun S=>((aH h.2 ((h.2.f0.length:Int)==S)).bind fun C=>(mN C (fun C=>(nE a1 z H C.f0)) (fun C=>(some (.inr C)))))))) else ((aH h.2 false).bind fun G=>(mN G (fun G=>(nE a1 z H G.f0)) (fun G=>(some (.inr G)))))))) (fun h=>(some (.inr h)))))) (fun z=>(some (.inr z))))
def jI (h:(List Int)) (z:(List Int)):Option (((List Int)×S157)⊕(S157)) :=
  some (.inl (z,(⟨h⟩:S157)))
def wF (h:(List Int)) (z:(List Int)):Option (((List Int)×S157)⊕(S157)) :=
  jI h z
def tK (h:(List Int)) (z:(List Int)):Option (((List Int)×S157)⊕(S157)) :=
  wF h z
def gJ (I:Int) (G:(List Int)) (z:(List Int)) (J:Int) (H:Int):Option (((List Int)×(List Int)×Int×Int)⊕(((List Int)×(List Int))⊕(((List Int)×S157)⊕(S157)))) :=
  if (decide (H<I))=true then ((fZ (⟨G⟩:S157)).bind fun h=>(mN h (fun h=>(ltt (IntKind.i64.wrap (J+h.1)) fun C=>(chk (z.length+[C].length≤140737488355328 / 8) (ltt (IntKind.i64.wrap (H+1)) fun S=>(some (.inl (h.2.f0,z++[C],C,S))))))) (fun h=>(some (.inr (.inr (.inr h))))))) else (some (.inr (.inl (G,z))))
def vX (h:(List Int)) (z:(List Int)):Option (((List Int)×S157)⊕(S157)) :=
  jI h z
def tZ (h:(List Int)) (z:(List Int)):Option (((List Int)×S157)⊕(S157)) :=
  vX h z
def wP (h:(Int×S157)) (z:(List Int)):Option (((List Int)×(List Int))⊕(((List Int)×(List Int))⊕(((List Int)×S157)⊕(S157)))) :=
  some (.inl (h.2.f0,z))
def tP (h:(Int×S157)) (z:(List Int)):Option (((List Int)×(List Int))⊕(((List Int)×(List Int))⊕(((List Int)×S157)⊕(S157)))) :=
  wP h z
def iB (z:(Int×S157)) (G:Int) (h:(List Int)) (C:Int):Option (((List Int)×Int)⊕(((List Int)))) :=
  if (decide (C<G))=true then (chk (h.length+[z.1].length≤140737488355328 / 8) (ltt (IntKind.u64.wrap (C+1)) fun H=>(some (.inl (h++[z.1],H))))) else (some (.inr (h)))
def dR (G:Int) (H:(List Int)) (C:(List Int)):Option (((List Int)×(List Int))⊕(((List Int)×(List Int))⊕(((List Int)×S157)⊕(S157)))) :=
  if (decide ((C.length:Int)<G))=true then ((fZ (⟨H⟩:S157)).bind fun h=>(mN h (fun h=>(ltt (IntKind.i64.wrap (G - (C.length:Int))) fun I=>(ltt (IntKind.i64.wrap (I - 1)) fun J=>(ltt (IntKind.u64.wrap J) fun S=>((eS h.2 S).bind fun z=>(mN z (fun z=>(ltt (IntKind.u64.wrap (1+z.1)) fun U=>((loop (fun s=>iB h U s.1 s.2) (C,0)).bind fun t=>tP z t))) (fun z=>(some (.inr (.inr (.inr z))))))))))) (fun h=>(some (.inr (.inr (.inr h))))))) else (some (.inr (.inl (H,C))))
def rX (a0:S157):Option (((List Int)×S157)⊕(S157)) :=
  (fH a0).bind fun z=>(mN z (fun z=>((aH z.2 (decide (z.1≤3))).bind fun H=>(mN H (fun H=>((eS H 4096).bind fun h=>(mN h (fun h=>(ltt (IntKind.i64.wrap h.1) fun I=>(if (z.1==0)=true then ((mE I h.2).bind fun C=>(mN C (fun C=>(jI C.2.f0 C.1)) (fun C=>(some (.inr C))))) else (if (z.1==1)=true then ((loop (fun s=>gJ I s.1 s.2.1 s.2.2.1 s.2.2.2) (h.2.f0,[],0,0)).bind fun t=>match t with | (.inl t)=>tK t.1 t.2 | (.inr t)=>some t) else (if (z.1==2)=true then ((loop (fun s=>dR I s.1 s.2) (h.2.f0,[])).bind fun t=>match t with | (.inl t)=>tZ t.1 t.2 | (.inr t)=>some t) else (if (z.1==3)=true then (if (decide (0<I))=true then ((rC h.2 I).bind fun G=>(mN G (fun G=>(jI G.2.f0 G.1)) (fun G=>(some (.inr G))))) else (jI h.2.f0 [])) else (jI h.2.f0 []))))))) (fun h=>(some (.inr h)))))) (fun H=>(some (.inr H)))))) (fun z=>(some (.inr z))))
def oQ (a0:S157) (a1:(List Int)):Option ((S157×(List Int))⊕(S157×(List Int))) :=
  (rX a0).bind fun h=>(mN h (fun h=>(some (.inl (h.2,h.1)))) (fun h=>(some (.inr (h,a1)))))
def oG (a0:(List Int)) (h:(List Int)):Option (Bool×(List Int)) :=
  (oQ (⟨a0⟩:S157) h).bind fun y=>(mN y (fun y=>some ((((y.1.f0.length:Int)==0),y.2))) (fun y=>some ((false,y.2))))
def iL (a0:(List Int)):Option ((List Int)×Int) :=
  (oG a0 []).bind fun h=>(if (!h.1)=true then (some ([],3)) else (some (h.2,0)))
end
end Go.Proofs.YtnefioccdkmegaaGreatDoor.M
