/- Texts of the claim, joined: what it uses of Gr, Op, Dpg, Mpg, Dpl, Mpl, Dce, Mce, Tr, Dcr. -/
import Derived.Test.YtnefioccdkmegaaGreatDoorZb
import Derived.Test.YtnefioccdkmegaaGreatDoorProg
namespace Go.Proofs.YtnefioccdkmegaaGreatDoor.M
open Go Go.RowKit Go.Proofs.YtnefioccdkmegaaGreatDoor.E
set_option linter.unusedVariables false
set_option linter.unusedSimpArgs false
def aCg:List PanicEntry:=[{ v:=.iface 154 (.agg #[]),recovered:=false }]
theorem bCe:Tryz.prog.bytesOf 47=48:=by kernel_rfl
theorem aZ4:Tryz.prog.cellsOf 146=1:=by kernel_rfl
theorem ce2:Tryz.prog.cellsOf 2=1:=by kernel_rfl
theorem ce3:Tryz.prog.cellsOf 3=1:=by kernel_rfl
theorem aXr:Tryz.prog.cellsOf 44=1:=by kernel_rfl
theorem bCd:Tryz.prog.cellsOf 45=1:=by kernel_rfl
theorem aZ3:Tryz.prog.cellsOf 47=5:=by kernel_rfl
theorem ce9:Tryz.prog.cellsOf 9=1:=by kernel_rfl
theorem bBf:EN Tryz.prog 10:=aX Tryz.func10 (by kernel_rfl) rfl
theorem aXw:EN Tryz.prog 100:=aX Tryz.func100 (by kernel_rfl) rfl
theorem aVs:EN Tryz.prog 101:=aX Tryz.func101 (by kernel_rfl) rfl
theorem aZ1:EN Tryz.prog 102:=aX Tryz.func102 (by kernel_rfl) rfl
theorem aZe:EN Tryz.prog 103:=aX Tryz.func103 (by kernel_rfl) rfl
theorem aZ8:EN Tryz.prog 104:=aX Tryz.func104 (by kernel_rfl) rfl
theorem aZr:EN Tryz.prog 105:=aX Tryz.func105 (by kernel_rfl) rfl
theorem aYa:EN Tryz.prog 11:=aX Tryz.func11 (by kernel_rfl) rfl
theorem aNu:EN Tryz.prog 110:=aX Tryz.func110 (by kernel_rfl) rfl
theorem aYe:EN Tryz.prog 111:=aX Tryz.func111 (by kernel_rfl) rfl
theorem aYx:EN Tryz.prog 115:=aX Tryz.func115 (by kernel_rfl) rfl
theorem aU0:EN Tryz.prog 116:=aX Tryz.func116 (by kernel_rfl) rfl
theorem aUi:EN Tryz.prog 117:=aX Tryz.func117 (by kernel_rfl) rfl
theorem bAd:EN Tryz.prog 118:=aX Tryz.func118 (by kernel_rfl) rfl
theorem aPa:EN Tryz.prog 119:=aX Tryz.func119 (by kernel_rfl) rfl
theorem bB9:EN Tryz.prog 12:=aX Tryz.func12 (by kernel_rfl) rfl
theorem aXf:EN Tryz.prog 120:=aX Tryz.func120 (by kernel_rfl) rfl
theorem aMw:EN Tryz.prog 121:=aX Tryz.func121 (by kernel_rfl) rfl
theorem aX9:EN Tryz.prog 122:=aX Tryz.func122 (by kernel_rfl) rfl
theorem bAa:EN Tryz.prog 123:=aX Tryz.func123 (by kernel_rfl) rfl
theorem aYd:EN Tryz.prog 126:=aX Tryz.func126 (by kernel_rfl) rfl
theorem aWv:EN Tryz.prog 13:=aX Tryz.func13 (by kernel_rfl) rfl
theorem aXh:EN Tryz.prog 130:=aX Tryz.func130 (by kernel_rfl) rfl
theorem aVh:EN Tryz.prog 134:=aX Tryz.func134 (by kernel_rfl) rfl
theorem aZb:EN Tryz.prog 135:=aX Tryz.func135 (by kernel_rfl) rfl
theorem aQg:EN Tryz.prog 136:=aX Tryz.func136 (by kernel_rfl) rfl
theorem bB6:EN Tryz.prog 14:=aX Tryz.func14 (by kernel_rfl) rfl
theorem bBh:EN Tryz.prog 17:=aX Tryz.func17 (by kernel_rfl) rfl
theorem bBd:EN Tryz.prog 18:=aX Tryz.func18 (by kernel_rfl) rfl
theorem bAy:EN Tryz.prog 19:=aX Tryz.func19 (by kernel_rfl) rfl
theorem bBt:EN Tryz.prog 20:=aX Tryz.func20 (by kernel_rfl) rfl
theorem aX4:EN Tryz.prog 21:=aX Tryz.func21 (by kernel_rfl) rfl
theorem aQl:EN Tryz.prog 24:=aX Tryz.func24 (by kernel_rfl) rfl
theorem aWq:EN Tryz.prog 25:=aX Tryz.func25 (by kernel_rfl) rfl
theorem aYc:EN Tryz.prog 26:=aX Tryz.func26 (by kernel_rfl) rfl
theorem bBp:EN Tryz.prog 27:=aX Tryz.func27 (by kernel_rfl) rfl
theorem aXn:EN Tryz.prog 28:=aX Tryz.func28 (by kernel_rfl) rfl
theorem bB3:EN Tryz.prog 29:=aX Tryz.func29 (by kernel_rfl) rfl
theorem bAq:EN Tryz.prog 30:=aX Tryz.func30 (by kernel_rfl) rfl
theorem bBo:EN Tryz.prog 32:=aX Tryz.func32 (by kernel_rfl) rfl
theorem aXq:EN Tryz.prog 33:=aX Tryz.func33 (by kernel_rfl) rfl
theorem aZ6:EN Tryz.prog 34:=aX Tryz.func34 (by kernel_rfl) rfl
theorem bA3:EN Tryz.prog 35:=aX Tryz.func35 (by kernel_rfl) rfl
theorem bBz:EN Tryz.prog 36:=aX Tryz.func36 (by kernel_rfl) rfl
theorem aXl:EN Tryz.prog 37:=aX Tryz.func37 (by kernel_rfl) rfl
theorem aZu:EN Tryz.prog 40:=aX Tryz.func40 (by kernel_rfl) rfl
theorem aX1:EN Tryz.prog 41:=aX Tryz.func41 (by kernel_rfl) rfl
theorem bBn:EN Tryz.prog 42:=aX Tryz.func42 (by kernel_rfl) rfl
theorem bBl:EN Tryz.prog 43:=aX Tryz.func43 (by kernel_rfl) rfl
theorem bB7:EN Tryz.prog 44:=aX Tryz.func44 (by kernel_rfl) rfl
theorem aYl:EN Tryz.prog 45:=aX Tryz.func45 (by kernel_rfl) rfl
theorem bB0:EN Tryz.prog 46:=aX Tryz.func46 (by kernel_rfl) rfl
theorem bBy:EN Tryz.prog 47:=aX Tryz.func47 (by kernel_rfl) rfl
theorem bA9:EN Tryz.prog 48:=aX Tryz.func48 (by kernel_rfl) rfl
theorem bA4:EN Tryz.prog 49:=aX Tryz.func49 (by kernel_rfl) rfl
theorem bB5:EN Tryz.prog 50:=aX Tryz.func50 (by kernel_rfl) rfl
theorem aX2:EN Tryz.prog 52:=aX Tryz.func52 (by kernel_rfl) rfl
theorem bBv:EN Tryz.prog 53:=aX Tryz.func53 (by kernel_rfl) rfl
theorem bA8:EN Tryz.prog 54:=aX Tryz.func54 (by kernel_rfl) rfl
theorem bCc:EN Tryz.prog 55:=aX Tryz.func55 (by kernel_rfl) rfl
theorem bBw:EN Tryz.prog 56:=aX Tryz.func56 (by kernel_rfl) rfl
theorem aR7:EN Tryz.prog 57:=aX Tryz.func57 (by kernel_rfl) rfl
theorem aRb:EN Tryz.prog 58:=aX Tryz.func58 (by kernel_rfl) rfl
theorem bBs:EN Tryz.prog 59:=aX Tryz.func59 (by kernel_rfl) rfl
theorem bAu:EN Tryz.prog 60:=aX Tryz.func60 (by kernel_rfl) rfl
theorem bAp:EN Tryz.prog 61:=aX Tryz.func61 (by kernel_rfl) rfl
theorem bA0:EN Tryz.prog 62:=aX Tryz.func62 (by kernel_rfl) rfl
theorem aZg:EN Tryz.prog 63:=aX Tryz.func63 (by kernel_rfl) rfl
theorem aRi:EN Tryz.prog 66:=aX Tryz.func66 (by kernel_rfl) rfl
theorem bA1:EN Tryz.prog 67:=aX Tryz.func67 (by kernel_rfl) rfl
theorem bBe:EN Tryz.prog 68:=aX Tryz.func68 (by kernel_rfl) rfl
theorem aYu:EN Tryz.prog 69:=aX Tryz.func69 (by kernel_rfl) rfl
theorem bB1:EN Tryz.prog 70:=aX Tryz.func70 (by kernel_rfl) rfl
theorem bAs:EN Tryz.prog 71:=aX Tryz.func71 (by kernel_rfl) rfl
theorem bB4:EN Tryz.prog 72:=aX Tryz.func72 (by kernel_rfl) rfl
theorem aYp:EN Tryz.prog 73:=aX Tryz.func73 (by kernel_rfl) rfl
theorem bBa:EN Tryz.prog 74:=aX Tryz.func74 (by kernel_rfl) rfl
theorem aW1:EN Tryz.prog 75:=aX Tryz.func75 (by kernel_rfl) rfl
theorem bAr:EN Tryz.prog 76:=aX Tryz.func76 (by kernel_rfl) rfl
theorem aYj:EN Tryz.prog 77:=aX Tryz.func77 (by kernel_rfl) rfl
theorem aS9:EN Tryz.prog 78:=aX Tryz.func78 (by kernel_rfl) rfl
theorem bA2:EN Tryz.prog 79:=aX Tryz.func79 (by kernel_rfl) rfl
theorem bAz:EN Tryz.prog 80:=aX Tryz.func80 (by kernel_rfl) rfl
theorem bA5:EN Tryz.prog 81:=aX Tryz.func81 (by kernel_rfl) rfl
theorem aXo:EN Tryz.prog 84:=aX Tryz.func84 (by kernel_rfl) rfl
theorem bA6:EN Tryz.prog 85:=aX Tryz.func85 (by kernel_rfl) rfl
theorem bBc:EN Tryz.prog 86:=aX Tryz.func86 (by kernel_rfl) rfl
theorem bB2:EN Tryz.prog 87:=aX Tryz.func87 (by kernel_rfl) rfl
theorem aP8:EN Tryz.prog 88:=aX Tryz.func88 (by kernel_rfl) rfl
theorem bBk:EN Tryz.prog 89:=aX Tryz.func89 (by kernel_rfl) rfl
theorem en9:EN Tryz.prog 9:=aX Tryz.func9 (by kernel_rfl) rfl
theorem aY2:EN Tryz.prog 90:=aX Tryz.func90 (by kernel_rfl) rfl
theorem aZw:EN Tryz.prog 91:=aX Tryz.func91 (by kernel_rfl) rfl
theorem aYg:EN Tryz.prog 92:=aX Tryz.func92 (by kernel_rfl) rfl
theorem aY9:EN Tryz.prog 93:=aX Tryz.func93 (by kernel_rfl) rfl
theorem aUf:EN Tryz.prog 94:=aX Tryz.func94 (by kernel_rfl) rfl
theorem aXp:EN Tryz.prog 95:=aX Tryz.func95 (by kernel_rfl) rfl
theorem aZz:EN Tryz.prog 96:=aX Tryz.func96 (by kernel_rfl) rfl
theorem aXm:EN Tryz.prog 97:=aX Tryz.func97 (by kernel_rfl) rfl
theorem aQ9:EN Tryz.prog 98:=aX Tryz.func98 (by kernel_rfl) rfl
theorem zE:EN Tryz.prog 99:=aX Tryz.func99 (by kernel_rfl) rfl
theorem aU4 (n:Int):EXT Tryz.prog 124 #[.int .u64 n] (.float .f64 n.toNat):=fun w=>by kernel_rfl
theorem aZa (b:Nat):EXT Tryz.prog 82 #[.float .f64 b] (.int .u64 b):=fun w=>by kernel_rfl
theorem vK:FA Tryz.prog 151 0 0:=fun ad w=>by kernel_rfl
theorem vG:FA Tryz.prog 151 1 1:=fun ad w=>by kernel_rfl
theorem pQ:FA Tryz.prog 157 0 0:=fun ad w=>by kernel_rfl
theorem aLu:FA Tryz.prog 26 0 0:=fun ad w=>by kernel_rfl
theorem aK7:FA Tryz.prog 26 1 1:=fun ad w=>by kernel_rfl
theorem wE:FA Tryz.prog 47 0 0:=fun ad w=>by kernel_rfl
theorem rK:FA Tryz.prog 47 1 1:=fun ad w=>by kernel_rfl
theorem kR:FA Tryz.prog 47 2 2:=fun ad w=>by kernel_rfl
theorem xH:FA Tryz.prog 47 3 3:=fun ad w=>by kernel_rfl
theorem aFl:FA Tryz.prog 47 4 4:=fun ad w=>by kernel_rfl
theorem uO:FA Tryz.prog 58 0 0:=fun ad w=>by kernel_rfl
theorem aH3:FA Tryz.prog 58 1 1:=fun ad w=>by kernel_rfl
theorem aH8:FA Tryz.prog 58 2 2:=fun ad w=>by kernel_rfl
theorem aMf:FA Tryz.prog 58 3 3:=fun ad w=>by kernel_rfl
theorem aPr:FA Tryz.prog 58 4 4:=fun ad w=>by kernel_rfl
theorem aL9:FA Tryz.prog 64 0 0:=fun ad w=>by kernel_rfl
theorem aJk:FA Tryz.prog 64 1 1:=fun ad w=>by kernel_rfl
theorem aIx:FA Tryz.prog 67 0 0:=fun ad w=>by kernel_rfl
theorem aQq:FA Tryz.prog 67 1 1:=fun ad w=>by kernel_rfl
theorem aWc:FA Tryz.prog 67 2 3:=fun ad w=>by kernel_rfl
theorem aLy:FA Tryz.prog 67 3 4:=fun ad w=>by kernel_rfl
theorem kN:(Tryz.prog.info? 2).map (fun i=>(i.zero,i.size,i.bytes))=some (some (.int .i64 0),1,8):=by kernel_rfl
theorem aUq:(Tryz.prog.info? 22).map (fun i=>(i.zero,i.size,i.bytes))=some (some (.slice none 0 0),1,24):=by kernel_rfl
theorem aYf:(Tryz.prog.info? 3).map (fun i=>(i.zero,i.size,i.bytes))=some (some (.int .i64 0),1,8):=by kernel_rfl
theorem bAo:(Tryz.prog.info? 4).map (fun i=>(i.zero,i.size,i.bytes))=some (some (.bool false),1,1):=by kernel_rfl
theorem aMu:(Tryz.prog.info? 45).map (fun i=>(i.zero,i.size,i.bytes))=some (some (.float .f64 0),1,8):=by kernel_rfl
theorem aHi:(Tryz.prog.info? 47).map (fun i=>(i.zero,i.size,i.bytes))=some (some (.agg #[(.int .u64 0),(.int .i64 0),(.int .i64 0),(str []),(.float .f64 0)]),5,48):=by kernel_rfl
theorem aCt:(Tryz.prog.info? 5).map (fun i=>(i.zero,i.size,i.bytes))=some (some (.int .u8 0),1,1):=by kernel_rfl
theorem aU5:(Tryz.prog.info? 64).map (fun i=>(i.zero,i.size,i.bytes))=some (some (.agg #[(str []),(.slice none 0 0),(.int .i64 0)]),3,48):=by kernel_rfl
theorem aJ3:(Tryz.prog.info? 9).map (fun i=>(i.zero,i.size,i.bytes))=some (some (str []),1,16):=by kernel_rfl
theorem aX8 {args:Array Value} {w:World} (h:(Extern.SlicesOverlaps.overlaps #[56,56] #[4] args).run Tryz.prog w=.ok (.bool false) w):(callFunc 38 args).run Tryz.prog w=.ok (.value (.bool false)) w:=by
  rw [run_callFunc_extern Tryz.func38 (by kernel_rfl) (by kernel_rfl) (by kernel_rfl) (e:=Extern.SlicesOverlaps.overlaps #[56,56] #[4]) (by kernel_rfl),h]
  rfl
theorem aZ0:(Tryz.prog.info? 100).map (·.size)=some 1:=by kernel_rfl
theorem aXt:(Tryz.prog.info? 108).map (·.size)=some 1:=by kernel_rfl
theorem aVp:(Tryz.prog.info? 146).map (·.size)=some 1:=by kernel_rfl
theorem aZj:(Tryz.prog.info? 154).map (·.size)=some 0:=by kernel_rfl
theorem sz2:(Tryz.prog.info? 2).map (·.size)=some 1:=by kernel_rfl
theorem aC4:(Tryz.prog.info? 22).map (·.size)=some 1:=by kernel_rfl
theorem aX0:(Tryz.prog.info? 26).map (·.size)=some 2:=by kernel_rfl
theorem aOu:(Tryz.prog.info? 28).map (·.size)=some 1:=by kernel_rfl
theorem sz3:(Tryz.prog.info? 3).map (·.size)=some 1:=by kernel_rfl
theorem aC0:(Tryz.prog.info? 32).map (·.size)=some 1:=by kernel_rfl
theorem aTz:(Tryz.prog.info? 37).map (·.size)=some 1:=by kernel_rfl
theorem sz4:(Tryz.prog.info? 4).map (·.size)=some 1:=by kernel_rfl
theorem aWo:(Tryz.prog.info? 45).map (·.size)=some 1:=by kernel_rfl
theorem cN:(Tryz.prog.info? 47).map (·.size)=some 5:=by kernel_rfl
theorem sz5:(Tryz.prog.info? 5).map (·.size)=some 1:=by kernel_rfl
theorem bBi:(Tryz.prog.info? 52).map (·.size)=some 1:=by kernel_rfl
theorem aX5:(Tryz.prog.info? 56).map (·.size)=some 1:=by kernel_rfl
theorem qP:(Tryz.prog.info? 64).map (·.size)=some 3:=by kernel_rfl
theorem sz9:(Tryz.prog.info? 9).map (·.size)=some 1:=by kernel_rfl
theorem aZk:(Tryz.prog.info? 108).bind (·.zero)=some (.slice none 0 0):=by kernel_rfl
theorem aZ7:(Tryz.prog.info? 124).bind (·.zero)=some (.agg #[(.slice none 0 0),(.slice none 0 0),(.slice none 0 0),(.slice none 0 0),(.slice none 0 0)]):=by kernel_rfl
theorem aYv:(Tryz.prog.info? 154).bind (·.zero)=some (.agg #[]):=by kernel_rfl
theorem bBm:(Tryz.prog.info? 22).bind (·.zero)=some (.slice none 0 0):=by kernel_rfl
theorem bAw:(Tryz.prog.info? 28).bind (·.zero)=some (.int .i64 0):=by kernel_rfl
theorem zr3:(Tryz.prog.info? 3).bind (·.zero)=some (.int .i64 0):=by kernel_rfl
theorem bCa:(Tryz.prog.info? 32).bind (·.zero)=some (.slice none 0 0):=by kernel_rfl
theorem aVu:(Tryz.prog.info? 37).bind (·.zero)=some (.slice none 0 0):=by kernel_rfl
theorem zr4:(Tryz.prog.info? 4).bind (·.zero)=some (.bool false):=by kernel_rfl
theorem aKg:(Tryz.prog.info? 47).bind (·.zero)=some (.agg #[(.int .u64 0),(.int .i64 0),(.int .i64 0),(str []),(.float .f64 0)]):=by kernel_rfl
theorem aVv:(Tryz.prog.info? 64).bind (·.zero)=some (.agg #[(str []),(.slice none 0 0),(.int .i64 0)]):=by kernel_rfl
abbrev pP (g:Nat):Value:=.pointer (some ⟨g,0,none⟩)
abbrev uu2:=Tryz.underlying2
abbrev uu3:=Tryz.underlying3
abbrev uu4:=Tryz.underlying4
abbrev uu5:=Tryz.underlying5
abbrev uu9:=Tryz.underlying9
abbrev fD:=Tryz.underlying22
abbrev aXi:=Tryz.underlying26
abbrev yO:=Tryz.underlying27
abbrev aOy:=Tryz.underlying28
abbrev fA:=Tryz.underlying32
abbrev lE:=Tryz.underlying37
abbrev mM:=Tryz.underlying44
abbrev aK3:=Tryz.underlying45
abbrev mL:=Tryz.underlying47
abbrev wH:=Tryz.underlying52
abbrev jP:=Tryz.underlying56
abbrev aSe:=Tryz.underlying64
abbrev aLx:=Tryz.underlying65
abbrev aD5:=Tryz.underlying93
abbrev qI:=Tryz.underlying100
abbrev bM:=Tryz.underlying108
abbrev aCq:=Tryz.underlying109
abbrev aUn:=Tryz.underlying113
abbrev aUz:=Tryz.underlying117
abbrev aGv:=Tryz.underlying124
abbrev aVa:=Tryz.underlying135
abbrev wC:=Tryz.underlying146
abbrev aZ5:=Tryz.underlying154
abbrev aNk:=Tryz.underlying161
abbrev aUj:=Tryz.underlying174
def g47 (x:S47):Prop:=(gI .u64) x.f0∧(gI .i64) x.f1∧(gI .i64) x.f2∧gS x.f3∧gF x.f4
set_option maxRecDepth 100000 in
theorem op47 {W:World}:Opens Tryz.prog W 47 k47 g47:=by
  intro H enc held fuel cs x h hw
  obtain⟨ys,n,_,rfl,hl,hyl,hf⟩:=DataW.trod_struct Tryz.underlying47 h
  rw [aZ3] at hl
  match cs,hl with
  | [c0,c1,c2,c3,c4],_ =>
    obtain⟨a0,h0,q0⟩:=fld Tryz.underlying47 hf hyl hw 0 rfl (o:=0) (c:=1) (t:=44) rfl rfl aXr (opI Tryz.underlying44)
    cases (show [c0]=[.int .u64 a0] from h0)
    obtain⟨a1,h1,q1⟩:=fld Tryz.underlying47 hf hyl hw 1 rfl (o:=1) (c:=1) (t:=3) rfl rfl ce3 (opI Tryz.underlying3)
    cases (show [c1]=[.int .i64 a1] from h1)
    obtain⟨a2,h2,q2⟩:=fld Tryz.underlying47 hf hyl hw 2 rfl (o:=2) (c:=1) (t:=2) rfl rfl ce2 (opI Tryz.underlying2)
    cases (show [c2]=[.int .i64 a2] from h2)
    obtain⟨a3,h3,q3⟩:=fld Tryz.underlying47 hf hyl hw 3 rfl (o:=3) (c:=1) (t:=9) rfl rfl ce9 (opS Tryz.underlying9)
    cases (show [c3]=[str a3] from h3)
    obtain⟨a4,h4,q4⟩:=fld Tryz.underlying47 hf hyl hw 4 rfl (o:=4) (c:=1) (t:=45) rfl rfl bCd (opF Tryz.underlying45)
    cases (show [c4]=[.float .f64 a4] from h4)
    exact⟨⟨a0,a1,a2,a3,a4⟩,rfl,q0,q1,q2,q3,q4⟩
noncomputable section
set_option linter.unusedSimpArgs false
def zB (h:Int):Option (Int) :=
  some (yF .u32 (IntKind.u32.max) h)
def xJ (h:Int):Option (Int) :=
  zB h
def mA (a0:(List Int)) (h:Int) (z:Int):Option ((Int×Int)⊕((Int))) :=
  if (decide (z<(a0.length:Int)))=true then ((at_ a0 z).bind fun H=>(ltt (IntKind.u32.wrap H) fun C=>(ltt (yF .u32 h C) fun I=>(ltt (yK .u32 I 15) fun J=>((at_ cQ J).bind fun S=>(ltt (bS .u32 h 4) fun U=>(ltt (yF .u32 S U) fun G=>(ltt (bS .u32 C 4) fun X=>(ltt (yF .u32 G X) fun Y=>(ltt (yK .u32 Y 15) fun a1=>((at_ cQ a1).bind fun a2=>(ltt (bS .u32 G 4) fun a3=>(ltt (yF .u32 a2 a3) fun a4=>(ltt (IntKind.i64.wrap (z+1)) fun a5=>(some (.inl (a4,a5))))))))))))))))) else (some (.inr (h)))
def xQ (a0:(List Int)):Option (Int) :=
  (loop (fun s=>mA a0 s.1 s.2) (4294967295,0)).bind fun t=>xJ t
def rS (a0:(List Int)):Option (Int) :=
  (at_ a0 0).bind fun h=>(ltt (IntKind.u32.wrap h) fun z=>((at_ a0 1).bind fun C=>(ltt (IntKind.u32.wrap C) fun G=>(ltt (yW .u32 G 8) fun H=>(ltt (ior .u32 z H) fun I=>((at_ a0 2).bind fun J=>(ltt (IntKind.u32.wrap J) fun S=>(ltt (yW .u32 S 16) fun U=>(ltt (ior .u32 I U) fun X=>((at_ a0 3).bind fun Y=>(ltt (IntKind.u32.wrap Y) fun a1=>(ltt (yW .u32 a1 24) fun a2=>(ltt (ior .u32 X a2) fun a3=>(some a3))))))))))))))
def dS (a0:(List Int)):Option ((List Int)) :=
  pL (a0).isEmpty (some []) (chk (([]:List Int).length+a0.length≤140737488355328 / 1) (some a0))
def sI (a1:Int) (h:(List Int)) (C:(Int)) (G:Bool):Option (Int×(List Int)×Int×Int) :=
  if G=true then (some (0,[],0,3)) else (ltt (IntKind.i64.wrap C) fun H=>(ltt (IntKind.i64.wrap (5+H)) fun z=>((pG h 0 z).bind fun I=>((pG h z (h.length:Int)).bind fun J=>((xQ I).bind fun S=>((rS J).bind fun U=>(if (S != U)=true then (some (0,[],0,4)) else ((at_ h 4).bind fun X=>((pG h 5 z).bind fun Y=>(ltt (IntKind.i64.wrap (a1+z)) fun a0=>(ltt (IntKind.i64.wrap (a0+4)) fun a2=>((dS Y).bind fun a3=>(some (X,a3,a2,0))))))))))))))
def sG (a0:(List Int)) (a1:Int) (C:Bool):Option (Int×(List Int)×Int×Int) :=
  if C=true then (some (0,[],0,1)) else ((pG a0 a1 (a0.length:Int)).bind fun h=>(if (decide ((h.length:Int)<9))=true then (some (0,[],0,3)) else ((rS h).bind fun z=>(if (decide (1048576<z))=true then (sI a1 h z true) else (ltt (IntKind.i64.wrap z) fun G=>(ltt (IntKind.i64.wrap ((h.length:Int) - 9)) fun H=>(sI a1 h z (decide (H<G)))))))))
def xR (a0:(List Int)) (a1:Int):Option (Int×(List Int)×Int×Int) :=
  if (decide (a1<0))=true then (sG a0 a1 true) else (sG a0 a1 (decide ((a0.length:Int)<a1)))
end
set_option maxRecDepth 100000
set_option maxHeartbeats 4000000
section
variable {r:World} {L:List HP} {w:World} {Z:Nat→Prop} {wz:World}
theorem aE9 {a0 A0 n0 c0 y} (G:xQ a0=some y) (X:SH r (L) w) (qz:Nat) (hZ:L[qz]?=some (zone Z wz)) (ha0:RdL L (kI .u8) A0 n0 c0 a0) (hG1:Imm Z wz (kI .u32) (some ⟨1,0,none⟩) 16 16 cQ) :
  Ret Tryz.prog 92 #[.slice A0 n0 c0] w fun v w'=>v=.int .u32 y∧SH r (L) w':=by
 refine enter Tryz.func92 rfl Tryz.ntmps92 [(0,_)] rfl (by simp) ?_
 intro U J Qf hQ hQn
 unfold xQ at G
 refine nz 1 J rfl fun U J=>nz 1 J rfl fun U J=>wp_seq_k fun d0 a1=>ws fun d1 a2=>xk 1 J rfl fun U J=>aY fA (X.rdl 0 ha0 rfl).2.1 J (fun U J=>?_) rfl
 refine x_m J rfl fun U J=>wn (a2 _ _ ?_)
 refine aA fun C a3=>?_
 have hb1:∀z,zB z=some y→∀U w,FR 36 [] U [(3,.int .u32 z)]→SH r (L) w→C U w:=by
  intro z G U w J X
  unfold zB at G
  refine a3 _ _ (a1 _ _ ?_)
  refine ws fun d2 a4=>xk 1 J rfl fun U J=>x_v J (aTc rfl (J.ev rfl)) rfl fun U J=>x_m J rfl fun U J=>wn (a4 _ _ ?_)
  cases G
  refine wp_ret (hQ _ _ ?_)
  exact lv Tryz.results92 J rfl ⟨rfl,X⟩
 obtain⟨a5,a6,G⟩:=bnd G
 have a7:∀h,(h)=a5→∀U w,FR 36 [] U [(3,.int .u32 h)]→SH r (L) w→C U w:=by
  intro h ht U w J X
  subst ht
  replace G:xJ h=some y:=G
  unfold xJ at G
  exact hb1 h G U w (J.sub _ rfl) X
 refine aE a6 (fun s U w=>FR 36 [] U [(3,.int .u32 s.1),(6,.slice A0 n0 c0),(7,.int .i64 (a0.length:Int)),(8,.int .i64 s.2)]∧SH r (L) w) ⟨J.sub _ rfl,X⟩ ?_
 intro d3 a8 a9 G b3 b4 U w hLab
 obtain⟨H,b5⟩:=a8
 replace G:mA a0 H b5=some a9:=G
 unfold mA at G
 try dsimp only at hLab
 obtain⟨J,X⟩:=hLab
 refine nz 1 J rfl fun U J=>wp_seq_k fun d4 b6=>bH J G rfl (fun b7 G=>?_) fun b7 G=>?_
 ·refine wp_skip (b6 _ _ ?_)
  refine wp_seq_k fun d5 b8=>aA fun d6 b9=>ws fun d7 c3=>?_
  obtain⟨d8,I,G⟩:=bnd G
  refine fE fA sz5 (X.rdl 0 ha0 rfl) I J (fun U J=>?_) rfl
  obtain⟨cs,hV,c4⟩:=el (X.rdl 0 ha0 rfl) I
  obtain rfl:=hV
  refine aK uu5 (c4 0 _ rfl) J (fun U J=>?_) rfl
  refine x_m J rfl fun U J=>wn (c3 _ _ ?_)
  refine ws fun d9 c5=>xk 2 J rfl fun U J=>fU G J (aU uu5 wC rfl (J.ev rfl)) rfl fun c6 c7 U J G=>x_l G J rfl fun e0 _ U J G=>x_l G J rfl fun e1 _ U J G=>?_
  obtain⟨e2,S,G⟩:=bnd G
  refine zP aUj aVp (X.rdl 0 (hG1.rdl qz hZ) rfl) S J (fun U J=>?_) rfl
  obtain⟨cs,hV,c8⟩:=el (X.rdl 0 (hG1.rdl qz hZ) rfl) S
  obtain rfl:=hV
  refine aK wC (c8 0 _ rfl) J (fun U J=>?_) rfl
  refine x_m J rfl fun U J=>fU G J (qX rfl (J.ev rfl) (J.ev rfl) (by decide)) rfl fun e3 _ U J G=>x_l G J rfl fun e4 _ U J G=>x_m J rfl fun U J=>wn (c5 _ _ ?_)
  refine aC (xk 2 J rfl fun U J=>?_)
  refine x_v (v:=.int .u32 c6) J (kC c7 (aU uu5 wC rfl (J.ev rfl))) rfl fun U J=>fU G J (qX rfl (J.ev rfl) (J.ev rfl) (by decide)) rfl fun e5 _ U J G=>x_l G J rfl fun e6 _ U J G=>x_l G J rfl fun e7 _ U J G=>?_
  obtain⟨e8,Y,G⟩:=bnd G
  refine zP aUj aVp (X.rdl 0 (hG1.rdl qz hZ) rfl) Y J (fun U J=>?_) rfl
  obtain⟨cs,hV,c9⟩:=el (X.rdl 0 (hG1.rdl qz hZ) rfl) Y
  obtain rfl:=hV
  refine aK wC (c9 0 _ rfl) J (fun U J=>?_) rfl
  refine x_m J rfl fun U J=>fU G J (qX rfl (J.ev rfl) (J.ev rfl) (by decide)) rfl fun e9 _ U J G=>x_l G J rfl fun f2 _ U J G=>x_m J rfl fun U J=>wpList_nil (b9 _ _ ?_)
  refine b8 _ _ (aC ?_)
  refine x_l G J rfl fun f3 _ U J G=>x_m J rfl fun U J=>wpList_nil ?_
  cases G
  exact⟨_,b3 _ rfl,J.sub _ rfl,X⟩
 cases G
 exact wp_exit (a7 H (b4 _ rfl) U w (J.sub _ rfl) X)
theorem aA5 {a0 A0 n0 c0 y} (G:rS a0=some y) (X:SH r (L) w) (ha0:RdL L (kI .u8) A0 n0 c0 a0) :
  Ret Tryz.prog 96 #[.slice A0 n0 c0] w fun v w'=>v=.int .u32 y∧SH r (L) w':=by
 refine enter Tryz.func96 rfl Tryz.ntmps96 [(0,_)] rfl (by simp) ?_
 intro U J Qf hQ hQn
 unfold rS at G
 refine nz 1 J rfl fun U J=>wp_seq_k fun d3 b5=>dA [0,1,3,7,0,16,48,112,240,511,0,1024,3072,7168,15360,32767,0,65536,196608,458752,983040,2097151,4194303] [] rfl J X (by kernel_rfl) (by kernel_rfl) (by kernel_rfl) (by kernel_rfl) fun w X=>?_
 obtain⟨h,z,G⟩:=bnd G
 obtain⟨cs,hV,b6⟩:=el (X.rdl 0 ha0 rfl) z
 obtain rfl:=hV
 obtain⟨C,b7,G⟩:=nQ G
 obtain⟨H,I,G⟩:=bnd G
 obtain⟨cs,hV,b8⟩:=el (X.rdl 0 ha0 rfl) I
 obtain rfl:=hV
 obtain⟨S,b9,G⟩:=nQ G
 obtain⟨Y,c3,G⟩:=nQ G
 obtain⟨a1,c4,G⟩:=nQ G
 obtain⟨a2,a3,G⟩:=bnd G
 obtain⟨cs,hV,c5⟩:=el (X.rdl 0 ha0 rfl) a3
 obtain rfl:=hV
 obtain⟨a4,c6,G⟩:=nQ G
 obtain⟨a5,c7,G⟩:=nQ G
 obtain⟨a6,c8,G⟩:=nQ G
 obtain⟨a7,a8,G⟩:=bnd G
 obtain⟨cs,hV,c9⟩:=el (X.rdl 0 ha0 rfl) a8
 obtain rfl:=hV
 obtain⟨a9,d0,G⟩:=nQ G
 obtain⟨b3,d1,G⟩:=nQ G
 obtain⟨b4,d2,G⟩:=nQ G
 refine⟨[(0,.slice A0 n0 c0),(1,.pointer (some (ea A0 ((0:Int).toNat * 1)))),(2,.int .u8 h),(3,.int .u32 C),(4,.slice A0 n0 c0),(5,.pointer (some (ea A0 ((1:Int).toNat * 1)))),(6,.int .u8 H),(7,.int .u32 S),(8,.int .u32 Y),(9,.int .u32 a1),(10,.slice A0 n0 c0),(11,.pointer (some (ea A0 ((2:Int).toNat * 1)))),(12,.int .u8 a2),(13,.int .u32 a4),(14,.int .u32 a5),(15,.int .u32 a6),(16,.slice A0 n0 c0),(17,.pointer (some (ea A0 ((3:Int).toNat * 1)))),(18,.int .u8 a7),(19,.int .u32 a9),(20,.int .u32 b3),(21,.int .u32 b4),(22,.int .u32 b4)],?_⟩
 refine gQ [0,1,2,3,4,5,6,7,8,9,10,11,12,13,14,15,16,17,18,19,20,21,22] (by kernel_rfl) ⟨pm rfl,pt [(3,.slice A0 n0 c0)] rfl (fun U J=>fM fA sz5 (X.rdl 0 ha0 rfl) z J rfl rfl rfl),pt [(4,.pointer (some (ea A0 ((0:Int).toNat * 1))))] rfl (fun U J=>cJ uu5 (b6 0 _ rfl) J rfl rfl rfl),pt [(5,.int .u8 h)] rfl fun U J=>kC b7 (aU uu5 wC rfl (J.ev rfl)),pm rfl,pt [(7,.slice A0 n0 c0)] rfl (fun U J=>fM fA sz5 (X.rdl 0 ha0 rfl) I J rfl rfl rfl),pt [(8,.pointer (some (ea A0 ((1:Int).toNat * 1))))] rfl (fun U J=>cJ uu5 (b8 0 _ rfl) J rfl rfl rfl),pt [(9,.int .u8 H)] rfl fun U J=>kC b9 (aU uu5 wC rfl (J.ev rfl)),pt [(10,.int .u32 S)] rfl fun U J=>kC c3 (aGe rfl (J.ev rfl) (J.ev rfl) (by decide)),pt [(6,.int .u32 C),(11,.int .u32 Y)] rfl fun U J=>kC c4 (aN3 rfl (J.ev rfl) (J.ev rfl)),pm rfl,pt [(13,.slice A0 n0 c0)] rfl (fun U J=>fM fA sz5 (X.rdl 0 ha0 rfl) a3 J rfl rfl rfl),pt [(14,.pointer (some (ea A0 ((2:Int).toNat * 1))))] rfl (fun U J=>cJ uu5 (c5 0 _ rfl) J rfl rfl rfl),pt [(15,.int .u8 a2)] rfl fun U J=>kC c6 (aU uu5 wC rfl (J.ev rfl)),pt [(16,.int .u32 a4)] rfl fun U J=>kC c7 (aGe rfl (J.ev rfl) (J.ev rfl) (by decide)),pt [(12,.int .u32 a1),(17,.int .u32 a5)] rfl fun U J=>kC c8 (aN3 rfl (J.ev rfl) (J.ev rfl)),pm rfl,pt [(19,.slice A0 n0 c0)] rfl (fun U J=>fM fA sz5 (X.rdl 0 ha0 rfl) a8 J rfl rfl rfl),pt [(20,.pointer (some (ea A0 ((3:Int).toNat * 1))))] rfl (fun U J=>cJ uu5 (c9 0 _ rfl) J rfl rfl rfl),pt [(21,.int .u8 a7)] rfl fun U J=>kC d0 (aU uu5 wC rfl (J.ev rfl)),pt [(22,.int .u32 a9)] rfl fun U J=>kC d1 (aGe rfl (J.ev rfl) (J.ev rfl) (by decide)),pt [(18,.int .u32 a6),(23,.int .u32 b3)] rfl fun U J=>kC d2 (aN3 rfl (J.ev rfl) (J.ev rfl)),pm rfl,trivial⟩ ⟨by kernel_rfl,by kernel_rfl⟩ [(2,_)] rfl (fun U J=>?_)
 cases G
 refine b5 _ _ (wp_ret ?_)
 refine hQ _ _ (lv Tryz.results96 J rfl ?_)
 exact⟨rfl,X⟩
theorem qY {a0 A0 n0 c0 y} (G:dS a0=some y) (X:SH r (L) w) (ha0:RdL L (kI .u8) A0 n0 c0 a0) :
  Ret Tryz.prog 34 #[.slice A0 n0 c0] w fun v w'=>∃ (B0:Option Addr) (m0:Nat) (d0:Nat),v=.slice B0 m0 d0∧SH r (own (kI .u8) 5 B0 m0 d0 y::L) w':=by
 refine enter Tryz.func34 rfl Tryz.ntmps34 [(0,_)] rfl (by simp) ?_
 intro U J Qf hQ hQn
 unfold dS at G
 refine nz 1 J rfl fun U J=>wp_seq_k fun a2 z=>ws fun a3 h=>xk 1 J rfl fun U J=>?_
 rcases A0 with _ | C
 ·replace G:=aVg (RdL.none_nil ha0 (X.sfx 0)) G
  refine x_v (v:=.bool true) J (aBp (p:=none) fA rfl (J.ev rfl) (J.ev rfl)) rfl fun U J=>wn (h _ _ ?_)
  refine c_t (b:=true) rfl J ?_ rfl
  refine nz 1 J rfl fun U J=>?_
  replace X:=SH.nil_own (d:=(kI .u8)) (e:=5) X
  cases G
  refine wp_ret (hQ _ _ ?_)
  exact lv Tryz.results34 J rfl ⟨none,0,0,rfl,X⟩
 replace G:=aUm G
 refine x_v (v:=.bool false) J (aBp (p:=some C) fA rfl (J.ev rfl) (J.ev rfl)) rfl fun U J=>wn (h _ _ ?_)
 refine c_f (b:=false) rfl J ?_ rfl
 refine wp_skip (z _ _ ?_)
 refine ws fun a4 H=>iS (d:=(kI .u8)) (e:=5) (ps:=#[]) (cells:=[]) (xs:=[]) (fun w=>by kernel_rfl) rfl rfl J X (fun a5 U w X J=>?_) rfl
 refine x_m J rfl fun U J=>?_
 obtain⟨I,G⟩:=aB G
 have hr:=X.rdl 1 ha0 rfl
 refine iD 0 aCt fA J X hr.1 hr.2.1 I rfl (fun S Y a1 U w X J=>?_) rfl
 rw [List.nil_append] at X
 refine x_m J rfl fun U J=>wn (H _ _ ?_)
 cases G
 refine wp_ret (hQ _ _ ?_)
 exact lv Tryz.results34 J rfl ⟨S,Y,a1,rfl,X⟩
theorem aKd {a0 a1 A0 n0 c0 y} (G:xR a0 a1=some y) (X:SH r (L) w) (qz:Nat) (hZ:L[qz]?=some (zone Z wz)) (ha0:Imm Z wz (kI .u8) A0 n0 c0 a0) (hG1:Imm Z wz (kI .u32) (some ⟨1,0,none⟩) 16 16 cQ) :
  Ret Tryz.prog 74 #[.slice A0 n0 c0,.int .i64 a1] w fun v w'=>∃ (B1:Option Addr) (m1:Nat) (d1:Nat),v=.tuple #[(.int .u8 y.1),(.slice B1 m1 d1),(.int .i64 y.2.2.1),(.int .i64 y.2.2.2)]∧SH r (own (kI .u8) 5 B1 m1 d1 y.2.1::L) w':=by
 refine enter Tryz.func74 rfl Tryz.ntmps74 [(0,_),(1,_)] rfl (by simp) ?_
 intro U J Qf hQ hQn
 unfold xR at G
 refine nz 4 J rfl fun U J=>wp_seq_k fun h2 c7=>wp_seq_k fun c8 c9=>?_
 have hj1:∀a5,sG a0 a1 a5=some y→∀U w,FR 60 [] U [(0,.slice A0 n0 c0),(1,.int .i64 a1),(18,.bool a5)]→SH r (L) w→c8 U w:=by
  intro a5 G U w J X
  unfold sG at G
  refine c9 _ _ (bH J G rfl (fun d0 G=>?_) fun d0 G=>?_)
  ·refine nz 4 J rfl fun U J=>?_
   replace X:=SH.nil_own (d:=(kI .u8)) (e:=5) X
   cases G
   refine wp_ret (hQ _ _ ?_)
   exact lv4 Tryz.results74 J rfl rfl rfl rfl ⟨none,0,0,rfl,X⟩
  refine wp_skip (c7 _ _ ?_)
  refine ws fun h3 d2=>xk 2 J rfl fun U J=>?_
  obtain⟨d3,a6,G⟩:=bnd G
  obtain⟨z,H,I,d4,h⟩:=aGi ha0 a6
  refine x_v (v:=.slice z H I) J (aFe d4 (lG fA sz5 rfl (J.ev rfl) (J.ev rfl) (uR (X.rdl 0 (ha0.rdl qz hZ) rfl) a6).1 (uR (X.rdl 0 (ha0.rdl qz hZ) rfl) a6).2.2.2.2.2)) rfl fun U J=>x_m J rfl fun U J=>wn (d2 _ _ ?_)
  refine wp_seq_k fun h4 d5=>ws fun h5 d6=>xk 1 J rfl fun U J=>aY fA (X.rdl 0 (h.rdl qz hZ) rfl).2.1 J (fun U J=>?_) rfl
  refine nk 1 J rfl fun U J=>d6 _ _ (bH J G rfl (fun d7 G=>?_) fun d7 G=>?_)
  ·refine nz 4 J rfl fun U J=>?_
   replace X:=SH.nil_own (d:=(kI .u8)) (e:=5) X
   cases G
   refine wp_ret (hQ _ _ ?_)
   exact lv4 Tryz.results74 J rfl rfl rfl rfl ⟨none,0,0,rfl,X⟩
  refine wp_skip (d5 _ _ ?_)
  refine ws fun h6 d8=>xk 1 J rfl fun U J=>?_
  obtain⟨a9,d9,G⟩:=bnd G
  refine x_c aZz J rfl (aA5 d9 X (RdL.sfx 0 rfl (h.rdl qz hZ)) :) fun v U w hR J=>?_
  obtain⟨rfl,X⟩:=hR
  refine x_m J rfl fun U J=>wn (d8 _ _ ?_)
  refine wp_seq_k fun h7 e0=>wp_seq_k fun e1 e2=>?_
  have hj2:∀a7,sI a1 d3 a9 a7=some y→∀U w,FR 60 [] U [(1,.int .i64 a1),(8,.slice z H I),(9,.int .u32 a9),(36,.bool a7)]→SH r (L) w→e1 U w:=by
   intro a7 G U w J X
   unfold sI at G
   refine e2 _ _ (bH J G rfl (fun e3 G=>?_) fun e3 G=>?_)
   ·refine nz 4 J rfl fun U J=>?_
    replace X:=SH.nil_own (d:=(kI .u8)) (e:=5) X
    cases G
    refine wp_ret (hQ _ _ ?_)
    exact lv4 Tryz.results74 J rfl rfl rfl rfl ⟨none,0,0,rfl,X⟩
   refine wp_skip (e0 _ _ ?_)
   refine ws fun h8 e4=>xk 1 J rfl fun U J=>fU G J (aU wC uu3 rfl (J.ev rfl)) rfl fun h9 _ U J G=>x_l G J rfl fun S _ U J G=>x_m J rfl fun U J=>wn (e4 _ _ ?_)
   refine wp_seq_k fun i0 e5=>wp_seq_k fun i1 e6=>dA [0,0,3,7,0,0,48,127,255] [3,7] rfl J X (by kernel_rfl) (by kernel_rfl) (by kernel_rfl) (by kernel_rfl) fun w X=>?_
   obtain⟨i2,a8,G⟩:=bnd G
   obtain⟨e7,e8,e9,f2,f3⟩:=aRm h a8
   obtain⟨i3,Y,G⟩:=bnd G
   obtain⟨f4,f5,f6,b3,f7⟩:=aGi h Y
   refine⟨[(0,.slice z H I),(1,.int .i64 S),(2,.slice e7 e8 e9),(4,.slice z H I),(5,.int .i64 S),(6,.slice f4 f5 f6)],?_⟩
   refine dF [0,1,2,4,5,6] [3] (by kernel_rfl) ⟨pm rfl,pm rfl,pt [(40,_),(41,_)] rfl fun U J=>aFe f2 (xL fA sz5 rfl (J.ev rfl) (J.ev rfl) (uR (X.rdl 0 (h.rdl qz hZ) rfl) a8).2.2.2.2.1 (uR (X.rdl 0 (h.rdl qz hZ) rfl) a8).2.2.1),pm rfl,pm rfl,pt [(44,_),(45,_)] rfl fun U J=>aFe b3 (lG fA sz5 rfl (J.ev rfl) (J.ev rfl) (uR (X.rdl 0 (h.rdl qz hZ) rfl) Y).1 (uR (X.rdl 0 (h.rdl qz hZ) rfl) Y).2.2.2.2.2),trivial⟩ ⟨et [(42,_)] rfl (fun U J K hK=>?_),trivial⟩
   obtain⟨b4,f8,G⟩:=bnd G
   refine oL aYg J (aE9 f8 X (qz+0) hZ (RdL.sfx 0 rfl (f3.rdl qz hZ)) hG1 :) (fun v w hR=>?_) rfl
   obtain⟨rfl,X⟩:=hR
   refine hK _ [] _ rfl (dF [4,5,6] [7] (by kernel_rfl) ⟨pm rfl,pm rfl,pt [(44,_),(45,_)] rfl fun U J=>aFe b3 (lG fA sz5 rfl (J.ev rfl) (J.ev rfl) (uR (X.rdl 0 (h.rdl qz hZ) rfl) Y).1 (uR (X.rdl 0 (h.rdl qz hZ) rfl) Y).2.2.2.2.2),trivial⟩ ⟨et [(46,_)] rfl (fun U J K hK=>?_),trivial⟩)
   obtain⟨b5,f9,G⟩:=bnd G
   refine oL aZz J (aA5 f9 X (RdL.sfx 0 rfl (f7.rdl qz hZ)) :) (fun v w hR=>?_) rfl
   obtain⟨rfl,X⟩:=hR
   refine hK _ [(8,.bool (b4 != b5))] _ rfl (gQ [8] (by kernel_rfl) ⟨pt [(43,.int .u32 b4),(47,.int .u32 b5)] rfl (fun U J=>aUv rfl (J.ev rfl) (J.ev rfl)),trivial⟩ ⟨by kernel_rfl,by kernel_rfl⟩ [(1,_),(8,_),(10,_),(48,_)] rfl (fun U J=>?_))
   refine e6 _ _ (bH J G rfl (fun g0 G=>?_) fun g0 G=>?_)
   ·refine nz 4 J rfl fun U J=>?_
    replace X:=SH.nil_own (d:=(kI .u8)) (e:=5) X
    cases G
    refine wp_ret (hQ _ _ ?_)
    exact lv4 Tryz.results74 J rfl rfl rfl rfl ⟨none,0,0,rfl,X⟩
   refine wp_skip (e5 _ _ ?_)
   refine wp_seq_k fun i4 g1=>dA [0,1,3,0,0,24,56,0,0,384,896,127,2175,8191,16383] [6] rfl J X (by kernel_rfl) (by kernel_rfl) (by kernel_rfl) (by kernel_rfl) fun w X=>?_
   obtain⟨b6,a3,G⟩:=bnd G
   obtain⟨cs,hV,g2⟩:=el (X.rdl 0 (h.rdl qz hZ) rfl) a3
   obtain rfl:=hV
   obtain⟨i5,a4,G⟩:=bnd G
   obtain⟨g3,g4,g5,g6,g7⟩:=aSc h a4
   obtain⟨b7,b8,G⟩:=nQ G
   obtain⟨b9,c3,G⟩:=nQ G
   refine⟨[(0,.slice z H I),(1,.pointer (some (ea z ((4:Int).toNat * 1)))),(2,.int .u8 b6),(3,.slice z H I),(4,.int .i64 S),(5,.slice g3 g4 g5),(7,.int .i64 a1),(8,.int .i64 S),(9,.int .i64 b7),(10,.int .i64 b9)],?_⟩
   refine dF [0,1,2,3,4,5,7,8,9,10] [6] (by kernel_rfl) ⟨pm rfl,pt [(49,_)] rfl (fun U J=>fM fA sz5 (X.rdl 0 (h.rdl qz hZ) rfl) a3 J rfl rfl rfl),pt [(50,_)] rfl (fun U J=>cJ uu5 (g2 0 _ rfl) J rfl rfl rfl),pm rfl,pm rfl,pt [(52,_),(53,_)] rfl fun U J=>aFe g6 (aE7 fA sz5 rfl (J.ev rfl) (J.ev rfl) (J.ev rfl) (uR (X.rdl 0 (h.rdl qz hZ) rfl) a4).1 (uR (X.rdl 0 (h.rdl qz hZ) rfl) a4).2.1 (uR (X.rdl 0 (h.rdl qz hZ) rfl) a4).2.2.1),pm rfl,pm rfl,pt [(56,_),(57,_)] rfl fun U J=>kC b8 (iL rfl (J.ev rfl) (J.ev rfl)),pt [(58,_)] rfl fun U J=>kC c3 (iL rfl (J.ev rfl) (J.ev rfl)),trivial⟩ ⟨et [(54,_)] rfl (fun U J K hK=>?_),trivial⟩
   obtain⟨i6,g8,G⟩:=bnd G
   refine oL aZ6 J (qY g8 X (RdL.sfx 0 rfl (g7.rdl qz hZ)) :) (fun v w hR=>?_) rfl
   obtain⟨c4,c5,c6,rfl,X⟩:=hR
   obtain⟨cs,hV,g9⟩:=el (X.rdl 1 (h.rdl qz hZ) rfl) a3
   obtain rfl:=hV
   refine hK _ [(11,.int .u8 b6),(12,.slice c4 c5 c6),(13,.int .i64 b9),(14,.int .i64 0)] _ rfl (gQ [0,1,2,7,8,9,10,11,12,13,14] (by kernel_rfl) ⟨pm rfl,pt [(49,.slice z H I)] rfl (fun U J=>fM fA sz5 (X.rdl 1 (h.rdl qz hZ) rfl) a3 J rfl rfl rfl),pt [(50,.pointer (some (ea z ((4:Int).toNat * 1))))] rfl (fun U J=>cJ uu5 (g9 0 _ rfl) J rfl rfl rfl),pm rfl,pm rfl,pt [(56,.int .i64 a1),(57,.int .i64 S)] rfl fun U J=>kC b8 (iL rfl (J.ev rfl) (J.ev rfl)),pt [(58,.int .i64 b7)] rfl fun U J=>kC c3 (iL rfl (J.ev rfl) (J.ev rfl)),pm rfl,pm rfl,pm rfl,pm rfl,trivial⟩ ⟨by kernel_rfl,by kernel_rfl⟩ [(4,_),(5,_),(6,_),(7,_)] rfl (fun U J=>?_))
   cases G
   refine g1 _ _ (wp_ret ?_)
   refine hQ _ _ (lv4 Tryz.results74 J rfl rfl rfl rfl ?_)
   exact⟨c4,c5,c6,rfl,X⟩
  refine aC (xk 3 J rfl fun U J=>?_)
  refine bcG G (fun C G=>?_) fun C G=>?_
  ·exact ng 7 C J rfl rfl fun U J=>hj2 true G U w (J.sub _ rfl) X
  refine xg 1 C J rfl rfl fun U J=>aJ C J ?_ rfl
  refine fU G J (aU wC uu3 rfl (J.ev rfl)) rfl fun h0 _ U J G=>xg 1 C J rfl rfl fun U J=>aJ C J ?_ rfl
  refine aY fA (X.rdl 0 (h.rdl qz hZ) rfl).2.1 J (fun U J=>?_) rfl
  refine aJ C J ?_ rfl
  exact x_l G J rfl fun h1 _ U J G=>ng 2 C J rfl rfl fun U J=>hj2 (decide (h1<h0)) G U w (J.sub _ rfl) X
 refine aC (xk 3 J rfl fun U J=>?_)
 refine bcG G (fun a2 G=>?_) fun a2 G=>?_
 ·exact ng 5 a2 J rfl rfl fun U J=>hj1 true G U w (J.sub _ rfl) X
 refine xg 2 a2 J rfl rfl fun U J=>aJ a2 J ?_ rfl
 refine aY fA (X.rdl 0 (ha0.rdl qz hZ) rfl).2.1 J (fun U J=>?_) rfl
 exact ng 2 a2 J rfl rfl fun U J=>hj1 (decide ((a0.length:Int)<a1)) G U w (J.sub _ rfl) X
end
noncomputable section
set_option linter.unusedSimpArgs false
def vS (a0:Int):Option ((List Int)) :=
  ltt (IntKind.u8.wrap a0) fun h=>(ltt (bS .u32 a0 8) fun z=>(ltt (IntKind.u8.wrap z) fun C=>(ltt (bS .u32 a0 16) fun G=>(ltt (IntKind.u8.wrap G) fun H=>(ltt (bS .u32 a0 24) fun I=>(ltt (IntKind.u8.wrap I) fun J=>(some [h,C,H,J])))))))
def yZ (a0:(List Int)) (a1:Int) (a2:(List Int)):Option ((List Int)) :=
  ltt (IntKind.u32.wrap (a2.length:Int)) fun C=>((vS C).bind fun h=>(chk (h.length+[a1].length≤140737488355328 / 1) (chk ((h++[a1]).length+a2.length≤140737488355328 / 1) (chk (a0.length+((h++[a1])++a2).length≤140737488355328 / 1) ((xQ ((h++[a1])++a2)).bind fun G=>((vS G).bind fun z=>(chk ((a0++((h++[a1])++a2)).length+z.length≤140737488355328 / 1) (some ((a0++((h++[a1])++a2))++z)))))))))
end
section
variable {r:World} {L:List HP} {w:World} {Z:Nat→Prop} {wz:World}
theorem aDu {a0 y} (G:vS a0=some y) (X:SH r (L) w) :
  Ret Tryz.prog 91 #[.int .u32 a0] w fun v w'=>∃ (B0:Option Addr) (m0:Nat) (d0:Nat),v=.slice B0 m0 d0∧SH r (own (kI .u8) 5 B0 m0 d0 y::L) w':=by
 refine enter Tryz.func91 rfl Tryz.ntmps91 [(0,_)] rfl (by simp) ?_
 intro U J Qf hQ hQn
 unfold vS at G
 refine nz 1 J rfl fun U J=>ws fun Y I=>xk 1 J rfl fun U J=>fU G J (aU wC uu5 rfl (J.ev rfl)) rfl fun h _ U J G=>x_m J rfl fun U J=>fU G J (qX rfl (J.ev rfl) (J.ev rfl) (by decide)) rfl fun a1 _ U J G=>fU G J (aU wC uu5 rfl (J.ev rfl)) rfl fun z _ U J G=>x_m J rfl fun U J=>fU G J (qX rfl (J.ev rfl) (J.ev rfl) (by decide)) rfl fun a2 _ U J G=>fU G J (aU wC uu5 rfl (J.ev rfl)) rfl fun C _ U J G=>x_m J rfl fun U J=>fU G J (qX rfl (J.ev rfl) (J.ev rfl) (by decide)) rfl fun a3 _ U J G=>fU G J (aU wC uu5 rfl (J.ev rfl)) rfl fun H _ U J G=>iS (d:=(kI .u8)) (e:=5) (ps:=#[(0,.int .u8 h),(1,.int .u8 z),(2,.int .u8 C),(3,.int .u8 H)]) (cells:=[.int .u8 h,.int .u8 z,.int .u8 C,.int .u8 H]) (xs:=[h,z,C,H]) (fun w=>by kernel_rfl) rfl ⟨[.int .u8 h],_,rfl,rfl,⟨[.int .u8 z],_,rfl,rfl,⟨[.int .u8 C],_,rfl,rfl,⟨[.int .u8 H],_,rfl,rfl,rfl⟩⟩⟩⟩ J X (fun S U w X J=>?_) rfl
 refine x_m J rfl fun U J=>wn (I _ _ ?_)
 cases G
 refine wp_ret (hQ _ _ ?_)
 exact lv Tryz.results91 J rfl ⟨some ⟨S,0,none⟩,4,4,rfl,X⟩
theorem aL2 {a0 a1 a2 A0 n0 c0 A2 n2 c2 y} (G:yZ a0 a1 a2=some y) (X:SH r (own (kI .u8) 5 A0 n0 c0 a0::L) w) (qz:Nat) (hZ:L[qz]?=some (zone Z wz)) (ha2:RdL L (kI .u8) A2 n2 c2 a2) (hG1:Imm Z wz (kI .u32) (some ⟨1,0,none⟩) 16 16 cQ) :
  Ret Tryz.prog 70 #[.slice A0 n0 c0,.int .u8 a1,.slice A2 n2 c2] w fun v w'=>∃ (B0:Option Addr) (m0:Nat) (d0:Nat),v=.slice B0 m0 d0∧SH r (own (kI .u8) 5 B0 m0 d0 y::L) w':=by
 refine enter Tryz.func70 rfl Tryz.ntmps70 [(0,_),(1,_),(2,_)] rfl (by simp) ?_
 intro U J Qf hQ hQn
 unfold yZ at G
 refine nz 1 J rfl fun U J=>ws fun a8 h=>xk 1 J rfl fun U J=>aY fA (X.rdl 1 ha2 rfl).2.1 J (fun U J=>?_) rfl
 refine fU G J (aU uu3 wC rfl (J.ev rfl)) rfl fun a9 _ U J G=>?_
 obtain⟨b3,z,G⟩:=bnd G
 refine x_c aZw J rfl (aDu z X :) fun v U w hR J=>?_
 obtain⟨b4,b5,b6,rfl,X⟩:=hR
 refine x_m J rfl fun U J=>iS (d:=(kI .u8)) (e:=5) (ps:=#[(0,.int .u8 a1)]) (cells:=[.int .u8 a1]) (xs:=[a1]) (fun w=>by kernel_rfl) rfl ⟨[.int .u8 a1],_,rfl,rfl,rfl⟩ J X (fun b7 U w X J=>?_) rfl
 obtain⟨C,G⟩:=aB G
 have hr:=X.rd 0 rfl
 refine iD 1 aCt fA J X hr.1 hr.2.1 C rfl (fun b8 b9 c3 U w X J=>?_) rfl
 refine x_m J rfl fun U J=>?_
 obtain⟨H,G⟩:=aB G
 have hr:=X.rdl 3 ha2 rfl
 refine iD 0 aCt fA J X hr.1 hr.2.1 H rfl (fun c4 c5 c6 U w X J=>?_) rfl
 refine x_m J rfl fun U J=>wn (h _ _ ?_)
 refine ws fun c7 I=>xk 2 J rfl fun U J=>?_
 obtain⟨S,G⟩:=aB G
 have hr:=X.rd 0 rfl
 refine iD 2 aCt fA J X hr.1 hr.2.1 S rfl (fun c8 c9 d1 U w X J=>?_) rfl
 refine x_m J rfl fun U J=>?_
 obtain⟨d2,Y,G⟩:=bnd G
 refine x_c aYg J rfl (aE9 Y X (qz+3) hZ (RdL.own 1 rfl (X.dropN 0)) hG1 :) fun v U w hR J=>?_
 obtain⟨rfl,X⟩:=hR
 obtain⟨d3,a3,G⟩:=bnd G
 refine x_c aZw J rfl (aDu a3 X :) fun v U w hR J=>?_
 obtain⟨d4,d5,d6,rfl,X⟩:=hR
 obtain⟨a4,G⟩:=aB G
 have hr:=X.rd 0 rfl
 refine iD 1 aCt fA J X hr.1 hr.2.1 a4 rfl (fun a5 a6 a7 U w X J=>?_) rfl
 refine x_m J rfl fun U J=>wn (I _ _ ?_)
 replace X:=X.drop 1 |>.drop 1 |>.drop 1
 cases G
 refine wp_ret (hQ _ _ ?_)
 exact lv Tryz.results70 J rfl ⟨a5,a6,a7,rfl,X⟩
end
noncomputable section
set_option linter.unusedSimpArgs false
def sX (h:(List Int)) (C:Int):Option ((List Int)) :=
  ltt (IntKind.u8.wrap C) fun z=>(chk (h.length+[z].length≤140737488355328 / 1) (some (h++[z])))
def pO (h:(List Int)) (z:Int):Option ((List Int)) :=
  sX h z
def kJ (z:(List Int)) (h:Int):Option (((List Int)×Int)⊕(((List Int)×Int))) :=
  if (decide (128≤h))=true then (ltt (IntKind.u8.wrap h) fun G=>(ltt (ior .u8 G 128) fun C=>(chk (z.length+[C].length≤140737488355328 / 1) (ltt (bS .u64 h 7) fun H=>(some (.inl (z++[C],H))))))) else (some (.inr (z,h)))
def jZ (a0:(List Int)) (a1:Int):Option ((List Int)) :=
  (loop (fun s=>kJ s.1 s.2) (a0,a1)).bind fun t=>pO t.1 t.2
def pA (a0:(List Int)) (a1:Int):Option ((List Int)) :=
  ltt (yW .i64 a1 1) fun h=>(ltt (IntKind.u64.wrap h) fun z=>(ltt (bS .i64 a1 63) fun C=>(ltt (IntKind.u64.wrap C) fun G=>(ltt (yF .u64 z G) fun H=>((jZ a0 H).bind fun I=>(some I))))))
def oY (a0:(List Int)) (a1:(List UInt8)):Option ((List Int)) :=
  ltt (IntKind.u64.wrap (a1.length:Int)) fun z=>((jZ a0 z).bind fun h=>(chk (h.length+a1.length≤140737488355328 / 1) (some (h++stb a1))))
def lC (h:Int):Option (Int) :=
  some h
def jU (h:Int):Option (Int) :=
  lC h
def cI (a0:(List Int)) (h:Int) (z:Int):Option ((Int×Int)⊕((Int))) :=
  if (decide (z<(a0.length:Int)))=true then ((at_ a0 z).bind fun C=>(ltt (IntKind.i64.wrap (z+1)) fun G=>(some (.inl (if C<h then C else h,G))))) else (some (.inr (h)))
def gV (a0:(List Int)):Option (Int) :=
  if (decide ((a0.length:Int)<1))=true then (none) else ((at_ a0 0).bind fun h=>((loop (fun s=>cI a0 s.1 s.2) (h,1)).bind fun t=>jU t))
def oC (h:Int) (z:Int):Option (Int) :=
  ltt (IntKind.u8.wrap h) fun C=>((at_ ([0,1,2,2,3,3,3,3,4,4,4,4,4,4,4,4,5,5,5,5,5,5,5,5,5,5,5,5,5,5,5,5,6,6,6,6,6,6,6,6,6,6,6,6,6,6,6,6,6,6,6,6,6,6,6,6,6,6,6,6,6,6,6,6,7,7,7,7,7,7,7,7,7,7,7,7,7,7,7,7,7,7,7,7,7,7,7,7,7,7,7,7,7,7,7,7,7,7,7,7,7,7,7,7,7,7,7,7,7,7,7,7,7,7,7,7,7,7,7,7,7,7,7,7,7,7,7,7,8,8,8,8,8,8,8,8,8,8,8,8,8,8,8,8,8,8,8,8,8,8,8,8,8,8,8,8,8,8,8,8,8,8,8,8,8,8,8,8,8,8,8,8,8,8,8,8,8,8,8,8,8,8,8,8,8,8,8,8,8,8,8,8,8,8,8,8,8,8,8,8,8,8,8,8,8,8,8,8,8,8,8,8,8,8,8,8,8,8,8,8,8,8,8,8,8,8,8,8,8,8,8,8,8,8,8,8,8,8,8,8,8,8,8,8,8,8,8,8,8,8,8,8,8,8,8,8]:List UInt8) C).bind fun G=>(ltt (IntKind.i64.wrap (G.toNat:Int)) fun H=>(ltt (IntKind.i64.wrap (z+H)) fun I=>(some I))))
def oB (h:Int) (z:Int):Option (Int) :=
  if (decide (256≤h))=true then (ltt (bS .u64 h 8) fun C=>(ltt (IntKind.i64.wrap (z+8)) fun G=>(oC C G))) else (oC h z)
def nY (h:Int) (z:Int):Option (Int) :=
  if (decide (65536≤h))=true then (ltt (bS .u64 h 16) fun C=>(ltt (IntKind.i64.wrap (z+16)) fun G=>(oB C G))) else (oB h z)
def vY (a0:Int):Option (Int) :=
  if (decide (4294967296≤a0))=true then (ltt (bS .u64 a0 32) fun h=>(nY h 32)) else (nY a0 0)
def sR (h:((List Int))) (z:Int) (C:(List Int)):Option ((List Int)) :=
  chk ((h++[z]).length+C.length≤140737488355328 / 1) (some ((h++[z])++C))
def qD (h:((List Int))) (z:Int) (C:(List Int)):Option ((List Int)) :=
  sR h z C
def rX (h:Int) (z:Int) (C:(List Int)):Option ((Int×(List Int)×Int)⊕(((List Int)))) :=
  ltt (IntKind.i64.wrap (h+1)) fun G=>(some (.inl (z,C,G)))
def qH (h:Int) (z:Int) (C:(List Int)):Option ((Int×(List Int)×Int)⊕(((List Int)))) :=
  rX h z C
def iB (I:(Int)) (J:Int) (S:Int) (h:Int) (C:(List Int)) (z:Int):Option ((Int×(List Int)×Int)⊕((Int×(List Int)))) :=
  if (decide (z<J))=true then (ltt (IntKind.i64.wrap (h.tdiv 8)) fun G=>((at_ C G).bind fun U=>(ltt (IntKind.i64.wrap (S - I)) fun X=>(ltt (IntKind.u64.wrap X) fun Y=>(chk (0≤z) (ltt (bS .u64 Y z) fun a0=>(ltt (yK .u64 a0 1) fun a1=>(ltt (IntKind.u8.wrap a1) fun a2=>(ltt (h.tmod 8) fun H=>(chk (0≤H) (ltt (yW .u8 a2 H) fun a3=>(ltt (ior .u8 U a3) fun a4=>(ltt (IntKind.i64.wrap (h+1)) fun a5=>(ltt (IntKind.i64.wrap (z+1)) fun a6=>(some (.inl (a5,C.set G.toNat a4,a6))))))))))))))))) else (some (.inr (h,C)))
def iE (a1:(List Int)) (C:(Int)) (G:Int) (H:Int) (z:(List Int)) (h:Int):Option ((Int×(List Int)×Int)⊕(((List Int)))) :=
  if (decide (h<(a1.length:Int)))=true then ((at_ a1 h).bind fun I=>((loop (fun s=>iB C G I s.1 s.2.1 s.2.2) (H,z,0)).bind fun t=>qH h t.1 t.2)) else (some (.inr (z)))
def sD (a0:(List Int)) (a1:(List Int)) (C:(Int)) (h:Int):Option ((List Int)) :=
  (pA a0 C).bind fun G=>(ltt (IntKind.u8.wrap h) fun H=>(chk (G.length+[H].length≤140737488355328 / 1) (ltt (IntKind.i64.wrap ((a1.length:Int) * h)) fun I=>(ltt (IntKind.i64.wrap (I+7)) fun J=>(ltt (IntKind.i64.wrap (J.tdiv 8)) fun z=>(chk (0≤z∧(1:Int) * z≤140737488355328) ((loop (fun s=>iE a1 C h s.1 s.2.1 s.2.2) (0,List.replicate z.toNat (0:Int),0)).bind fun t=>qD G H t)))))))
def qF (a0:(List Int)) (a1:(List Int)) (h:(Int)) (z:Int):Option ((List Int)) :=
  sD a0 a1 h z
def gY (a1:(List Int)) (G:(Int)) (h:Int) (z:Int):Option ((Int×Int)⊕((Int))) :=
  if (decide (z<(a1.length:Int)))=true then ((at_ a1 z).bind fun H=>(ltt (IntKind.i64.wrap (H - G)) fun I=>(ltt (IntKind.u64.wrap I) fun J=>((vY J).bind fun C=>(ltt (IntKind.i64.wrap (z+1)) fun S=>(some (.inl (if h<C then C else h,S)))))))) else (some (.inr (h)))
def rO (a0:(List Int)) (a1:(List Int)):Option ((List Int)) :=
  if ((a1.length:Int)==0)=true then (some a0) else ((gV a1).bind fun h=>((loop (fun s=>gY a1 h s.1 s.2) (0,0)).bind fun t=>qF a0 a1 h t))
def gZ (h:(List Int)):Option ((List Int)) :=
  some h
def vP (h:(List Int)):Option ((List Int)) :=
  gZ h
def sF (h:(List Int)):Option ((List Int)) :=
  vP h
def jV (a1:(List Int)) (z:(List Int)) (h:Int):Option (((List Int)×Int)⊕(((List Int)))) :=
  if (decide (h<(a1.length:Int)))=true then ((at_ a1 h).bind fun C=>((pA z C).bind fun G=>(ltt (IntKind.i64.wrap (h+1)) fun H=>(some (.inl (G,H)))))) else (some (.inr (z)))
def vE (h:(List Int)):Option ((List Int)) :=
  gZ h
def sB (h:(List Int)):Option ((List Int)) :=
  vE h
def jS (a1:(List Int)) (z:(List Int)) (G:Int) (h:Int):Option (((List Int)×Int×Int)⊕(((List Int)))) :=
  if (decide (h<(a1.length:Int)))=true then ((at_ a1 h).bind fun C=>(ltt (IntKind.i64.wrap (C - G)) fun H=>((pA z H).bind fun I=>(ltt (IntKind.i64.wrap (h+1)) fun J=>(some (.inl (I,C,J))))))) else (some (.inr (z)))
def vF (h:(List Int)):Option ((List Int)) :=
  gZ h
def sQ (h:(List Int)):Option ((List Int)) :=
  vF h
def uY (a1:(List Int)) (C:(List Int)) (h:Int) (z:Int):Option (((List Int)×Int)⊕(((List Int)))) :=
  (at_ a1 h).bind fun G=>((pA C G).bind fun H=>(ltt (IntKind.i64.wrap (z - 1)) fun I=>(ltt (IntKind.u64.wrap I) fun J=>((jZ H J).bind fun S=>(ltt (IntKind.i64.wrap (h+z)) fun U=>(some (.inl (S,U))))))))
def sE (a1:(List Int)) (h:(List Int)) (z:Int) (C:Int):Option (((List Int)×Int)⊕(((List Int)))) :=
  uY a1 h z C
def nL (h:Int) (z:Bool):Option ((Int)⊕((Int))) :=
  if z=true then (ltt (IntKind.i64.wrap (h+1)) fun C=>(some (.inl (C)))) else (some (.inr (h)))
def lK (a1:(List Int)) (z:Int) (h:Int):Option ((Int)⊕((Int))) :=
  ltt (IntKind.i64.wrap (z+h)) fun C=>(if (decide (C<(a1.length:Int)))=true then ((at_ a1 C).bind fun G=>((at_ a1 z).bind fun H=>(nL h (G==H)))) else (nL h false))
def lQ (a1:(List Int)) (z:(List Int)) (h:Int):Option (((List Int)×Int)⊕(((List Int)))) :=
  if (decide (h<(a1.length:Int)))=true then ((loop (fun s=>lK a1 h s) (1)).bind fun t=>sE a1 z h t) else (some (.inr (z)))
def tT (a0:Int) (a1:(List Int)):Option ((List Int)) :=
  ltt (IntKind.u64.wrap (a1.length:Int)) fun z=>((jZ [a0] z).bind fun h=>(if (a0==0)=true then ((loop (fun s=>jV a1 s.1 s.2) (h,0)).bind fun t=>sF t) else (if (a0==1)=true then ((loop (fun s=>jS a1 s.1 s.2.1 s.2.2) (h,0,0)).bind fun t=>sB t) else (if (a0==2)=true then ((loop (fun s=>lQ a1 s.1 s.2) (h,0)).bind fun t=>sQ t) else (if (a0==3)=true then ((rO h a1).bind fun C=>(gZ C)) else (gZ h))))))
def wF (h:(List Int)):Option ((List Int)) :=
  some h
def tW (h:(List Int)):Option ((List Int)) :=
  wF h
def pH (h:Int) (z:(List Int)):Option (((List Int)×Int)⊕(((List Int)))) :=
  ltt (IntKind.u8.wrap (h+1)) fun C=>(some (.inl (z,C)))
def fF (a0:(List Int)) (z:(List Int)) (h:Int):Option (((List Int)×Int)⊕(((List Int)))) :=
  if (decide (h≤3))=true then ((tT h a0).bind fun C=>(if (decide ((C.length:Int)<(z.length:Int)))=true then (pH h C) else (pH h z))) else (some (.inr (z)))
def mC (a0:(List Int)):Option ((List Int)) :=
  (tT 0 a0).bind fun h=>((loop (fun s=>fF a0 s.1 s.2) (h,1)).bind fun t=>tW t)
end
section
variable {r:World} {L:List HP} {w:World} {Z:Nat→Prop} {wz:World}
theorem qZ {a0 a1 A0 n0 c0 y} (G:jZ a0 a1=some y) (X:SH r (own (kI .u8) 5 A0 n0 c0 a0::L) w) :
  Ret Tryz.prog 88 #[.slice A0 n0 c0,.int .u64 a1] w fun v w'=>∃ (B0:Option Addr) (m0:Nat) (d0:Nat),v=.slice B0 m0 d0∧SH r (own (kI .u8) 5 B0 m0 d0 y::L) w':=by
 refine enter Tryz.func88 rfl Tryz.ntmps88 [(0,_),(1,_)] rfl (by simp) ?_
 intro U J Qf hQ hQn
 unfold jZ at G
 refine nz 1 J rfl fun U J=>wp_seq_k fun e2 b6=>aA fun b3 b7=>?_
 have hb1:∀a5 a6,sX a5 a6=some y→∀a7 a8 a9 U w,FR 20 [] U [(0,.slice a7 a8 a9),(1,.int .u64 a6)]→SH r (own (kI .u8) 5 a7 a8 a9 a5::L) w→b3 U w:=by
  intro a5 a6 G a7 a8 a9 U w J X
  unfold sX at G
  refine b7 _ _ (b6 _ _ ?_)
  refine ws fun e3 b8=>xk 2 J rfl fun U J=>fU G J (aU mM uu5 rfl (J.ev rfl)) rfl fun C _ U J G=>iS (d:=(kI .u8)) (e:=5) (ps:=#[(0,.int .u8 C)]) (cells:=[.int .u8 C]) (xs:=[C]) (fun w=>by kernel_rfl) rfl ⟨[.int .u8 C],_,rfl,rfl,rfl⟩ J X (fun e4 U w X J=>?_) rfl
  obtain⟨b9,G⟩:=aB G
  have hr:=X.rd 0 rfl
  refine iD 1 aCt fA J X hr.1 hr.2.1 b9 rfl (fun c3 c4 c5 U w X J=>?_) rfl
  refine x_m J rfl fun U J=>wn (b8 _ _ ?_)
  replace X:=X.drop 1
  cases G
  refine wp_ret (hQ _ _ ?_)
  exact lv Tryz.results88 J rfl ⟨c3,c4,c5,rfl,X⟩
 obtain⟨c6,c7,G⟩:=bnd G
 have c8:∀h z,(h,z)=c6→∀H I S U w,FR 20 [] U [(0,.slice H I S),(1,.int .u64 z)]→SH r (own (kI .u8) 5 H I S h::L) w→b3 U w:=by
  intro h z ht H I S U w J X
  subst ht
  replace G:pO h z=some y:=G
  unfold pO at G
  exact hb1 h z G H I S U w (J.sub _ rfl) X
 refine aE c7 (fun s U w=>∃Y a2 a3,FR 20 [] U [(0,.slice Y a2 a3),(1,.int .u64 s.2)]∧SH r (own (kI .u8) 5 Y a2 a3 s.1::L) w) ⟨A0,n0,c0,J.sub _ rfl,X⟩ ?_
 intro e5 c9 d1 G d2 d3 U w hLab
 obtain⟨b4,b5⟩:=c9
 replace G:kJ b4 b5=some d1:=G
 unfold kJ at G
 try dsimp only at hLab
 obtain⟨Y,a2,a3,J,X⟩:=hLab
 refine wp_seq_k fun e6 d4=>nz 2 J rfl fun U J=>bH J G rfl (fun d5 G=>?_) fun d5 G=>?_
 ·refine wp_skip (d4 _ _ ?_)
  refine wp_seq_k fun e7 d6=>aA fun e8 d7=>aC (xk 2 J rfl fun U J=>?_)
  refine fU G J (aU mM uu5 rfl (J.ev rfl)) rfl fun e9 _ U J G=>x_l G J rfl fun a4 _ U J G=>iS (d:=(kI .u8)) (e:=5) (ps:=#[(0,.int .u8 a4)]) (cells:=[.int .u8 a4]) (xs:=[a4]) (fun w=>by kernel_rfl) rfl ⟨[.int .u8 a4],_,rfl,rfl,rfl⟩ J X (fun f2 U w X J=>?_) rfl
  obtain⟨d8,G⟩:=aB G
  have hr:=X.rd 0 rfl
  refine iD 1 aCt fA J X hr.1 hr.2.1 d8 rfl (fun d9 e0 e1 U w X J=>?_) rfl
  refine x_m J rfl fun U J=>wpList_nil (d7 _ _ ?_)
  refine d6 _ _ (aC ?_)
  refine x_m J rfl fun U J=>fU G J (qX rfl (J.ev rfl) (J.ev rfl) (by decide)) rfl fun f3 _ U J G=>x_m J rfl fun U J=>wpList_nil ?_
  replace X:=X.drop 1
  cases G
  exact⟨_,d2 _ rfl,d9,e0,e1,J.sub _ rfl,X⟩
 cases G
 exact wp_exit (c8 b4 b5 (d3 _ rfl) Y a2 a3 U w (J.sub _ rfl) X)
theorem vI {a0 a1 A0 n0 c0 y} (G:pA a0 a1=some y) (X:SH r (own (kI .u8) 5 A0 n0 c0 a0::L) w) :
  Ret Tryz.prog 110 #[.slice A0 n0 c0,.int .i64 a1] w fun v w'=>∃ (B0:Option Addr) (m0:Nat) (d0:Nat),v=.slice B0 m0 d0∧SH r (own (kI .u8) 5 B0 m0 d0 y::L) w':=by
 refine enter Tryz.func110 rfl Tryz.ntmps110 [(0,_),(1,_)] rfl (by simp) ?_
 intro U J Qf hQ hQn
 unfold pA at G
 refine nz 1 J rfl fun U J=>ws fun S h=>xk 2 J rfl fun U J=>fU G J (aGe rfl (J.ev rfl) (J.ev rfl) (by decide)) rfl fun Y _ U J G=>fU G J (aU uu2 mM rfl (J.ev rfl)) rfl fun a2 _ U J G=>x_m J rfl fun U J=>fU G J (qX rfl (J.ev rfl) (J.ev rfl) (by decide)) rfl fun a3 _ U J G=>fU G J (aU uu2 mM rfl (J.ev rfl)) rfl fun a4 _ U J G=>x_l G J rfl fun a5 _ U J G=>?_
 obtain⟨a6,z,G⟩:=bnd G
 refine x_c aP8 J rfl (qZ z X :) fun v U w hR J=>?_
 obtain⟨C,H,I,rfl,X⟩:=hR
 refine x_m J rfl fun U J=>wn (h _ _ ?_)
 cases G
 refine wp_ret (hQ _ _ ?_)
 exact lv Tryz.results110 J rfl ⟨C,H,I,rfl,X⟩
theorem aA2 {a0 a1 A0 n0 c0 y} (G:oY a0 a1=some y) (X:SH r (own (kI .u8) 5 A0 n0 c0 a0::L) w) :
  Ret Tryz.prog 69 #[.slice A0 n0 c0,str a1] w fun v w'=>∃ (B0:Option Addr) (m0:Nat) (d0:Nat),v=.slice B0 m0 d0∧SH r (own (kI .u8) 5 B0 m0 d0 y::L) w':=by
 refine enter Tryz.func69 rfl Tryz.ntmps69 [(0,_),(1,_)] rfl (by simp) ?_
 intro U J Qf hQ hQn
 unfold oY at G
 refine nz 1 J rfl fun U J=>ws fun Y h=>xk 2 J rfl fun U J=>x_v J (zD uu9 rfl (J.ev rfl)) rfl fun U J=>fU G J (aU uu3 mM rfl (J.ev rfl)) rfl fun a2 _ U J G=>?_
 obtain⟨a3,z,G⟩:=bnd G
 refine x_c aP8 J rfl (qZ z X :) fun v U w hR J=>?_
 obtain⟨a4,a5,a6,rfl,X⟩:=hR
 refine x_m J rfl fun U J=>?_
 obtain⟨C,G⟩:=aB G
 refine aTw 0 aCt fA uu9 J X C rfl (fun H I S U w X J=>?_) rfl
 refine x_m J rfl fun U J=>wn (h _ _ ?_)
 cases G
 refine wp_ret (hQ _ _ ?_)
 exact lv Tryz.results69 J rfl ⟨H,I,S,rfl,X⟩
theorem wZ {a0 A0 n0 c0 y} (G:gV a0=some y) (X:SH r (L) w) (ha0:RdL L (kI .i64) A0 n0 c0 a0) :
  Ret Tryz.prog 130 #[.slice A0 n0 c0] w fun v w'=>v=.int .i64 y∧SH r (L) w':=by
 refine enter Tryz.func130 rfl Tryz.ntmps130 [(0,_)] rfl (by simp) ?_
 intro U J Qf hQ hQn
 unfold gV at G
 refine nz 1 J rfl fun U J=>wp_seq_k fun c7 Y=>ws fun c8 a1=>xk 1 J rfl fun U J=>aY bM (X.rdl 0 ha0 rfl).2.1 J (fun U J=>?_) rfl
 refine nk 1 J rfl fun U J=>a1 _ _ (bH J G rfl (fun a2 G=>?_) fun a2 G=>?_)
 ·refine aC (x_v J (aM8 uu9 rfl rfl (J.ev rfl)) rfl fun U J=>?_)
  cases G
 refine wp_skip (Y _ _ ?_)
 refine ws fun c9 a3=>xk 1 J rfl fun U J=>?_
 obtain⟨d0,C,G⟩:=bnd G
 refine fE bM sz2 (X.rdl 0 ha0 rfl) C J (fun U J=>?_) rfl
 obtain⟨cs,hV,a4⟩:=el (X.rdl 0 ha0 rfl) C
 obtain rfl:=hV
 refine aK uu2 (a4 0 _ rfl) J (fun U J=>?_) rfl
 refine x_m J rfl fun U J=>wn (a3 _ _ ?_)
 refine wp_seq_k fun d1 a5=>nz 1 J rfl fun U J=>aA fun H a6=>?_
 have hb1:∀z,lC z=some y→∀U w,FR 25 [] U [(3,.int .i64 z)]→SH r (L) w→H U w:=by
  intro z G U w J X
  unfold lC at G
  refine a6 _ _ (a5 _ _ ?_)
  refine nz 2 J rfl fun U J=>?_
  cases G
  refine wp_ret (hQ _ _ ?_)
  exact lv Tryz.results130 J rfl ⟨rfl,X⟩
 obtain⟨a7,a8,G⟩:=bnd G
 have a9:∀h,(h)=a7→∀U w,FR 25 [] U [(3,.int .i64 h)]→SH r (L) w→H U w:=by
  intro h ht U w J X
  subst ht
  replace G:jU h=some y:=G
  unfold jU at G
  exact hb1 h G U w (J.sub _ rfl) X
 refine aE a8 (fun s U w=>FR 25 [] U [(0,.slice A0 n0 c0),(3,.int .i64 s.1),(4,.int .i64 s.2)]∧SH r (L) w) ⟨J.sub _ rfl,X⟩ ?_
 intro d2 b3 b4 G b5 b6 U w hLab
 obtain⟨I,b7⟩:=b3
 replace G:cI a0 I b7=some b4:=G
 unfold cI at G
 try dsimp only at hLab
 obtain⟨J,X⟩:=hLab
 refine wp_seq_k fun d3 b8=>ws fun d4 b9=>xk 2 J rfl fun U J=>aY bM (X.rdl 0 ha0 rfl).2.1 J (fun U J=>?_) rfl
 refine nk 1 J rfl fun U J=>b9 _ _ (bH J G rfl (fun c3 G=>?_) fun c3 G=>?_)
 ·refine wp_skip (b8 _ _ ?_)
  refine wp_seq_k fun d5 c4=>aA fun d6 c5=>aC (xk 3 J rfl fun U J=>?_)
  obtain⟨d7,S,G⟩:=bnd G
  refine fE bM sz2 (X.rdl 0 ha0 rfl) S J (fun U J=>?_) rfl
  obtain⟨cs,hV,c6⟩:=el (X.rdl 0 ha0 rfl) S
  obtain rfl:=hV
  refine aK uu2 (c6 0 _ rfl) J (fun U J=>?_) rfl
  refine x_v J (aH7 rfl (J.ev rfl) (J.ev rfl)) rfl fun U J=>x_m J rfl fun U J=>wpList_nil (c5 _ _ ?_)
  refine c4 _ _ (aC ?_)
  refine x_m J rfl fun U J=>x_l G J rfl fun d8 _ U J G=>x_m J rfl fun U J=>wpList_nil ?_
  cases G
  exact⟨_,b5 _ rfl,J.sub _ rfl,X⟩
 cases G
 exact wp_exit (a9 I (b6 _ rfl) U w (J.sub _ rfl) X)
theorem aIy {a0 y} (G:vY a0=some y) (X:SH r (L) w) :
  Ret Tryz.prog 126 #[.int .u64 a0] w fun v w'=>v=.int .i64 y∧SH r (L) w':=by
 refine enter Tryz.func126 rfl Tryz.ntmps126 [(0,_)] rfl (by simp) ?_
 intro U J Qf hQ hQn
 unfold vY at G
 refine nz 1 J rfl fun U J=>wp_seq_k fun a1 a2=>?_
 have hj1:∀h z,nY h z=some y→∀U w,FR 25 [] U [(0,.int .u64 h),(2,.int .i64 z)]→SH r (L) w→a1 U w:=by
  intro h z G U w J X
  unfold nY at G
  refine a2 _ _ (wp_seq_k fun a3 a4=>?_)
  have hj2:∀C H,oB C H=some y→∀U w,FR 25 [] U [(0,.int .u64 C),(2,.int .i64 H)]→SH r (L) w→a3 U w:=by
   intro C H G U w J X
   unfold oB at G
   refine a4 _ _ (wp_seq_k fun a5 a6=>?_)
   have hj3:∀I S,oC I S=some y→∀U w,FR 25 [] U [(0,.int .u64 I),(2,.int .i64 S)]→SH r (L) w→a5 U w:=by
    intro I S G U w J X
    unfold oC at G
    refine a6 _ _ (ws fun c4 a7=>?_)
    refine xk 2 J rfl fun U J=>fU G J (aU mM uu5 rfl (J.ev rfl)) rfl fun c5 _ U J G=>?_
    obtain⟨c6,Y,G⟩:=bnd G
    refine x_v J (aJs uu9 rfl (J.ev rfl) (J.ev rfl) (dT Y).1 (dT Y).2.2) rfl fun U J=>fU G J (aU uu5 uu3 rfl (J.ev rfl)) rfl fun c7 _ U J G=>x_l G J rfl fun c8 _ U J G=>x_m J rfl fun U J=>wn (a7 _ _ ?_)
    cases G
    refine wp_ret (hQ _ _ ?_)
    exact lv Tryz.results126 J rfl ⟨rfl,X⟩
   refine nz 2 J rfl fun U J=>bH J G rfl (fun a8 G=>?_) fun a8 G=>?_
   ·refine ws fun c9 a9=>xk 1 J rfl fun U J=>fU G J (qX rfl (J.ev rfl) (J.ev rfl) (by decide)) rfl fun b3 _ U J G=>x_m J rfl fun U J=>wn (a9 _ _ ?_)
    refine aC (x_m J rfl fun U J=>?_)
    exact x_l G J rfl fun b4 _ U J G=>x_m J rfl fun U J=>wpList_nil (hj3 b3 b4 G U w (J.sub _ rfl) X)
   exact wp_skip (hj3 C H G U w (J.sub _ rfl) X)
  refine nz 2 J rfl fun U J=>bH J G rfl (fun b5 G=>?_) fun b5 G=>?_
  ·refine ws fun d0 b6=>xk 1 J rfl fun U J=>fU G J (qX rfl (J.ev rfl) (J.ev rfl) (by decide)) rfl fun b7 _ U J G=>x_m J rfl fun U J=>wn (b6 _ _ ?_)
   refine aC (x_m J rfl fun U J=>?_)
   exact x_l G J rfl fun b8 _ U J G=>x_m J rfl fun U J=>wpList_nil (hj2 b7 b8 G U w (J.sub _ rfl) X)
  exact wp_skip (hj2 h z G U w (J.sub _ rfl) X)
 refine nz 2 J rfl fun U J=>bH J G rfl (fun b9 G=>?_) fun b9 G=>?_
 ·refine ws fun d1 c0=>xk 1 J rfl fun U J=>fU G J (qX rfl (J.ev rfl) (J.ev rfl) (by decide)) rfl fun c3 _ U J G=>x_m J rfl fun U J=>wn (c0 _ _ ?_)
  refine aC (x_m J rfl fun U J=>?_)
  exact wpList_nil (hj1 c3 32 G U w (J.sub _ rfl) X)
 exact wp_skip (hj1 a0 0 G U w (J.sub _ rfl) X)
theorem aGn {a0 a1 A0 n0 c0 A1 n1 c1 y} (G:rO a0 a1=some y) (X:SH r (own (kI .u8) 5 A0 n0 c0 a0::L) w) (ha1:RdL L (kI .i64) A1 n1 c1 a1) :
  Ret Tryz.prog 111 #[.slice A0 n0 c0,.slice A1 n1 c1] w fun v w'=>∃ (B0:Option Addr) (m0:Nat) (d0:Nat),v=.slice B0 m0 d0∧SH r (own (kI .u8) 5 B0 m0 d0 y::L) w':=by
 refine enter Tryz.func111 rfl Tryz.ntmps111 [(0,_),(1,_)] rfl (by simp) ?_
 intro U J Qf hQ hQn
 unfold rO at G
 refine nz 1 J rfl fun U J=>wp_seq_k fun l9 d5=>ws fun m1 d6=>xk 1 J rfl fun U J=>aY bM (X.rdl 1 ha1 rfl).2.1 J (fun U J=>?_) rfl
 refine nk 1 J rfl fun U J=>d6 _ _ (bH J G rfl (fun d7 G=>?_) fun d7 G=>?_)
 ·refine nz 2 J rfl fun U J=>?_
  cases G
  refine wp_ret (hQ _ _ ?_)
  exact lv Tryz.results111 J rfl ⟨A0,n0,c0,rfl,X⟩
 refine wp_skip (d5 _ _ ?_)
 refine ws fun m2 d8=>xk 1 J rfl fun U J=>?_
 obtain⟨H,d9,G⟩:=bnd G
 refine x_c aXh J rfl (wZ d9 X (RdL.sfx 1 rfl ha1) :) fun v U w hR J=>?_
 obtain⟨rfl,X⟩:=hR
 refine x_m J rfl fun U J=>wn (d8 _ _ ?_)
 refine nz 1 J rfl fun U J=>wp_seq_k fun m3 e0=>ws fun m4 e1=>xk 1 J rfl fun U J=>aY bM (X.rdl 1 ha1 rfl).2.1 J (fun U J=>?_) rfl
 refine x_m J rfl fun U J=>wn (e1 _ _ ?_)
 refine aA fun c5 e2=>?_
 have hb1:∀a3,sD a0 a1 H a3=some y→∀U w,FR 83 [] U [(0,.slice A0 n0 c0),(1,.slice A1 n1 c1),(5,.int .i64 H),(6,.int .i64 a3)]→SH r (own (kI .u8) 5 A0 n0 c0 a0::L) w→c5 U w:=by
  intro a3 G U w J X
  unfold sD at G
  refine e2 _ _ (e0 _ _ ?_)
  refine ws fun m5 e3=>xk 2 J rfl fun U J=>?_
  obtain⟨a4,e4,G⟩:=bnd G
  refine x_c aNu J rfl (vI e4 X :) fun v U w hR J=>?_
  obtain⟨m6,m7,m8,rfl,X⟩:=hR
  refine x_m J rfl fun U J=>fU G J (aU uu3 uu5 rfl (J.ev rfl)) rfl fun I _ U J G=>iS (d:=(kI .u8)) (e:=5) (ps:=#[(0,.int .u8 I)]) (cells:=[.int .u8 I]) (xs:=[I]) (fun w=>by kernel_rfl) rfl ⟨[.int .u8 I],_,rfl,rfl,rfl⟩ J X (fun m9 U w X J=>?_) rfl
  obtain⟨e5,G⟩:=aB G
  have hr:=X.rd 0 rfl
  refine iD 1 aCt fA J X hr.1 hr.2.1 e5 rfl (fun S Y a2 U w X J=>?_) rfl
  refine x_m J rfl fun U J=>wn (e3 _ _ ?_)
  refine nz 1 J rfl fun U J=>ws fun n3 e6=>xk 1 J rfl fun U J=>aY bM (X.rdl 2 ha1 rfl).2.1 J (fun U J=>?_) rfl
  refine x_m J rfl fun U J=>x_l G J rfl fun n4 _ U J G=>x_l G J rfl fun n5 _ U J G=>fU G J (aFj rfl (J.ev rfl) (J.ev rfl) (by decide)) rfl fun z _ U J G=>?_
  obtain⟨e7,G⟩:=aB G
  refine aF2 (d:=(kI .u8)) (bytes:=1) 0 aCt rfl fA e7 J X (fun C U w X J=>?_) rfl
  refine x_m J rfl fun U J=>wn (e6 _ _ ?_)
  refine wp_seq_k fun n6 e8=>ws fun n7 e9=>xk 1 J rfl fun U J=>aY bM (X.rdl 3 ha1 rfl).2.1 J (fun U J=>?_) rfl
  refine x_m J rfl fun U J=>wn (e9 _ _ ?_)
  refine aA fun c6 f2=>?_
  have hb2:∀b5,sR a4 I b5=some y→∀U w,FR 83 [] U [(0,.slice S Y a2),(10,.slice (some ⟨C,0,none⟩) z.toNat z.toNat)]→SH r (own (kI .u8) 5 S Y a2 (a4++[I])::own (kI .u8) 5 (some ⟨C,0,none⟩) z.toNat z.toNat b5::L) w→c6 U w:=by
   intro b5 G U w J X
   unfold sR at G
   refine f2 _ _ (e8 _ _ ?_)
   refine ws fun n8 f3=>xk 2 J rfl fun U J=>?_
   obtain⟨f4,G⟩:=aB G
   have hr:=X.rd 1 rfl
   refine iD 0 aCt fA J X hr.1 hr.2.1 f4 rfl (fun f5 f6 f7 U w X J=>?_) rfl
   refine x_m J rfl fun U J=>wn (f3 _ _ ?_)
   replace X:=X.drop 1
   cases G
   refine wp_ret (hQ _ _ ?_)
   exact lv Tryz.results111 J rfl ⟨f5,f6,f7,rfl,X⟩
  obtain⟨f8,f9,G⟩:=bnd G
  have g0:∀a6,(a6)=f8→∀U w,FR 83 [] U [(0,.slice S Y a2),(10,.slice (some ⟨C,0,none⟩) z.toNat z.toNat)]→SH r (own (kI .u8) 5 S Y a2 (a4++[I])::own (kI .u8) 5 (some ⟨C,0,none⟩) z.toNat z.toNat a6::L) w→c6 U w:=by
   intro a6 ht U w J X
   subst ht
   replace G:qD a4 I a6=some y:=G
   unfold qD at G
   exact hb2 a6 G U w (J.sub _ rfl) X
  replace X:=X.drop 2 |>.pk 1
  refine aE f9 (fun s U w=>FR 83 [] U [(0,.slice S Y a2),(5,.int .i64 H),(6,.int .i64 a3),(9,.int .i64 s.1),(10,.slice (some ⟨C,0,none⟩) z.toNat z.toNat),(48,.slice A1 n1 c1),(49,.int .i64 (a1.length:Int)),(50,.int .i64 s.2.2)]∧SH r (own (kI .u8) 5 S Y a2 (a4++[I])::own (kI .u8) 5 (some ⟨C,0,none⟩) z.toNat z.toNat s.2.1::L) w) ⟨J.sub _ rfl,X⟩ ?_
  intro n9 g1 b6 G g2 g3 U w hLab
  obtain⟨g4,c7,a5⟩:=g1
  replace G:iE a1 H a3 g4 c7 a5=some b6:=G
  unfold iE at G
  try dsimp only at hLab
  obtain⟨J,X⟩:=hLab
  refine nz 1 J rfl fun U J=>wp_seq_k fun o0 g5=>bH J G rfl (fun g6 G=>?_) fun g6 G=>?_
  ·refine wp_skip (g5 _ _ ?_)
   refine wp_seq_k fun o1 g7=>aA fun o2 g8=>ws fun o3 g9=>?_
   obtain⟨b7,c8,G⟩:=bnd G
   refine fE bM sz2 (X.rdl 2 ha1 rfl) c8 J (fun U J=>?_) rfl
   obtain⟨cs,hV,h0⟩:=el (X.rdl 2 ha1 rfl) c8
   obtain rfl:=hV
   refine aK uu2 (h0 0 _ rfl) J (fun U J=>?_) rfl
   refine x_m J rfl fun U J=>wn (g9 _ _ ?_)
   refine nz 2 J rfl fun U J=>aA fun c9 h1=>?_
   have hb3:∀b8 b9,rX a5 b8 b9=some b6→∀U w,FR 83 [] U [(0,.slice S Y a2),(5,.int .i64 H),(6,.int .i64 a3),(9,.int .i64 b8),(10,.slice (some ⟨C,0,none⟩) z.toNat z.toNat),(48,.slice A1 n1 c1),(49,.int .i64 (a1.length:Int)),(50,.int .i64 a5)]→SH r (own (kI .u8) 5 S Y a2 (a4++[I])::own (kI .u8) 5 (some ⟨C,0,none⟩) z.toNat z.toNat b9::L) w→c9 U w:=by
    intro b8 b9 G U w J X
    unfold rX at G
    refine h1 _ _ (g8 _ _ ?_)
    refine g7 _ _ (aC ?_)
    refine x_l G J rfl fun o4 _ U J G=>x_m J rfl fun U J=>wpList_nil ?_
    cases G
    exact⟨_,g2 _ rfl,J.sub _ rfl,X⟩
   obtain⟨h2,h3,G⟩:=bnd G
   have h4:∀a7 a8,(a7,a8)=h2→∀U w,FR 83 [] U [(0,.slice S Y a2),(5,.int .i64 H),(6,.int .i64 a3),(9,.int .i64 a7),(10,.slice (some ⟨C,0,none⟩) z.toNat z.toNat),(48,.slice A1 n1 c1),(49,.int .i64 (a1.length:Int)),(50,.int .i64 a5)]→SH r (own (kI .u8) 5 S Y a2 (a4++[I])::own (kI .u8) 5 (some ⟨C,0,none⟩) z.toNat z.toNat a8::L) w→c9 U w:=by
    intro a7 a8 ht U w J X
    subst ht
    replace G:qH a5 a7 a8=some b6:=G
    unfold qH at G
    exact hb3 a7 a8 G U w (J.sub _ rfl) X
   refine aE h3 (fun s U w=>FR 83 [] U [(0,.slice S Y a2),(5,.int .i64 H),(6,.int .i64 a3),(9,.int .i64 s.1),(10,.slice (some ⟨C,0,none⟩) z.toNat z.toNat),(12,.int .i64 b7),(48,.slice A1 n1 c1),(49,.int .i64 (a1.length:Int)),(50,.int .i64 a5),(54,.int .i64 a3),(55,.int .i64 s.2.2)]∧SH r (own (kI .u8) 5 S Y a2 (a4++[I])::own (kI .u8) 5 (some ⟨C,0,none⟩) z.toNat z.toNat s.2.1::L) w) ⟨J.sub _ rfl,X⟩ ?_
   intro o5 h5 h6 G h7 h8 U w hLab
   obtain⟨b3,d1,d2⟩:=h5
   replace G:iB H a3 b7 b3 d1 d2=some h6:=G
   unfold iB at G
   try dsimp only at hLab
   obtain⟨J,X⟩:=hLab
   refine nz 1 J rfl fun U J=>wp_seq_k fun o6 h9=>bH J G rfl (fun i0 G=>?_) fun i0 G=>?_
   ·refine wp_skip (h9 _ _ ?_)
    refine wp_seq_k fun o7 i1=>aA fun o8 i2=>nz 2 J rfl fun U J=>wp_seq_k fun o9 i3=>dA [0,0,2,7,15,0,0,96,224,0,992,2016,4064,0,8192,32736,65535,131071,262143] [18] rfl J X (by kernel_rfl) (by kernel_rfl) (by kernel_rfl) (by kernel_rfl) fun w X=>?_
    obtain⟨c3,i4,G⟩:=nQ G
    obtain⟨i5,b4,G⟩:=bnd G
    obtain⟨cs,hV,i6⟩:=el (X.rd 1 rfl) b4
    obtain rfl:=hV
    obtain⟨i7,i8,G⟩:=nQ G
    obtain⟨i9,j0,G⟩:=nQ G
    obtain⟨j1,G⟩:=aB G
    obtain⟨j2,j3,G⟩:=nQ G
    obtain⟨j4,j5,G⟩:=nQ G
    obtain⟨j6,j7,G⟩:=nQ G
    obtain⟨j8,j9,G⟩:=nQ G
    obtain⟨k0,G⟩:=aB G
    obtain⟨k1,k2,G⟩:=nQ G
    obtain⟨c4,k3,G⟩:=nQ G
    refine⟨[(0,.slice (some ⟨C,0,none⟩) z.toNat z.toNat),(1,.int .i64 b3),(2,.int .i64 c3),(3,.pointer (some (ea (some ⟨C,0,none⟩) (c3.toNat * 1)))),(4,.int .u8 i5),(5,.int .i64 b7),(6,.int .i64 H),(7,.int .i64 i7),(8,.int .u64 i9),(9,.int .i64 d2),(10,.int .u64 j2),(11,.int .u64 j4),(12,.int .u8 j6),(13,.int .i64 b3),(14,.int .i64 j8),(15,.int .u8 k1),(16,.int .u8 c4),(17,.pointer (some (ea (some ⟨C,0,none⟩) (c3.toNat * 1))))],?_⟩
    refine dF [0,1,2,3,4,5,6,7,8,9,10,11,12,13,14,15,16,17] [18] (by kernel_rfl) ⟨pm rfl,pm rfl,pt [(59,_)] rfl fun U J=>kC i4 (aFj rfl (J.ev rfl) (J.ev rfl) (by decide)),pt [(58,_),(60,_)] rfl (fun U J=>fM fA sz5 (X.rd 1 rfl) b4 J rfl rfl rfl),pt [(61,_)] rfl (fun U J=>cJ uu5 (i6 0 _ rfl) J rfl rfl rfl),pm rfl,pm rfl,pt [(63,_),(64,_)] rfl fun U J=>kC i8 (qJ rfl (J.ev rfl) (J.ev rfl)),pt [(65,_)] rfl fun U J=>kC j0 (aU uu2 mM rfl (J.ev rfl)),pm rfl,pt [(66,_),(67,_)] rfl fun U J=>kC j3 (qX rfl (J.ev rfl) (J.ev rfl) j1),pt [(68,_)] rfl fun U J=>kC j5 (aUo rfl (J.ev rfl) (J.ev rfl)),pt [(69,_)] rfl fun U J=>kC j7 (aU mM uu5 rfl (J.ev rfl)),pm rfl,pt [(71,_)] rfl fun U J=>kC j9 (aBu rfl (J.ev rfl) (J.ev rfl) (by decide)),pt [(70,_),(72,_)] rfl fun U J=>kC k2 (aGe rfl (J.ev rfl) (J.ev rfl) k0),pt [(62,_),(73,_)] rfl fun U J=>kC k3 (aN3 rfl (J.ev rfl) (J.ev rfl)),pt [(58,_),(60,_)] rfl (fun U J=>fM fA sz5 (X.rd 1 rfl) b4 J rfl rfl rfl),trivial⟩ ⟨et [(74,_),(75,_)] rfl (fun U J K hK=>?_),trivial⟩
    refine wV (z':=c4) (off:=0) (vs:=[.int .u8 c4]) 1 sz5 J X rfl (dT b4).2.2 (fun c h=>by cases h; rfl) (fun  w X=>?_) rfl rfl rfl rfl rfl rfl
    refine hK _ [] _ rfl (gQ [] (by kernel_rfl) trivial ⟨by kernel_rfl,by kernel_rfl⟩ [(0,_),(5,_),(6,_),(9,_),(10,_),(12,_),(48,_),(49,_),(50,_),(54,_),(55,_)] rfl (fun U J=>?_))
    refine i3 _ _ (aC ?_)
    refine x_m J rfl fun U J=>x_l G J rfl fun p0 _ U J G=>x_m J rfl fun U J=>wpList_nil (i2 _ _ ?_)
    refine i1 _ _ (aC ?_)
    refine x_l G J rfl fun p1 _ U J G=>x_m J rfl fun U J=>wpList_nil ?_
    replace X:=X.pk 1
    cases G
    exact⟨_,h7 _ rfl,J.sub _ rfl,X⟩
   cases G
   exact wp_exit (h4 b3 d1 (h8 _ rfl) U w (J.sub _ rfl) X)
  cases G
  exact wp_exit (g0 c7 (g3 _ rfl) U w (J.sub _ rfl) X)
 obtain⟨k4,k5,G⟩:=bnd G
 have k6:∀a9,(a9)=k4→∀U w,FR 83 [] U [(0,.slice A0 n0 c0),(1,.slice A1 n1 c1),(5,.int .i64 H),(6,.int .i64 a9)]→SH r (own (kI .u8) 5 A0 n0 c0 a0::L) w→c5 U w:=by
  intro a9 ht U w J X
  subst ht
  replace G:qF a0 a1 H a9=some y:=G
  unfold qF at G
  exact hb1 a9 G U w (J.sub _ rfl) X
 refine aE k5 (fun s U w=>FR 83 [] U [(0,.slice A0 n0 c0),(1,.slice A1 n1 c1),(5,.int .i64 H),(6,.int .i64 s.1),(20,.slice A1 n1 c1),(21,.int .i64 (a1.length:Int)),(22,.int .i64 s.2)]∧SH r (own (kI .u8) 5 A0 n0 c0 a0::L) w) ⟨J.sub _ rfl,X⟩ ?_
 intro p2 k7 k8 G k9 l0 U w hLab
 obtain⟨d3,l1⟩:=k7
 replace G:gY a1 H d3 l1=some k8:=G
 unfold gY at G
 try dsimp only at hLab
 obtain⟨J,X⟩:=hLab
 refine nz 1 J rfl fun U J=>wp_seq_k fun p3 l2=>bH J G rfl (fun l3 G=>?_) fun l3 G=>?_
 ·refine wp_skip (l2 _ _ ?_)
  refine wp_seq_k fun p4 l4=>aA fun p5 l5=>ws fun p6 l6=>?_
  obtain⟨p7,d4,G⟩:=bnd G
  refine fE bM sz2 (X.rdl 1 ha1 rfl) d4 J (fun U J=>?_) rfl
  obtain⟨cs,hV,l7⟩:=el (X.rdl 1 ha1 rfl) d4
  obtain rfl:=hV
  refine aK uu2 (l7 0 _ rfl) J (fun U J=>?_) rfl
  refine x_m J rfl fun U J=>wn (l6 _ _ ?_)
  refine aC (xk 3 J rfl fun U J=>?_)
  refine x_l G J rfl fun p8 _ U J G=>fU G J (aU uu2 mM rfl (J.ev rfl)) rfl fun p9 _ U J G=>?_
  obtain⟨q0,l8,G⟩:=bnd G
  refine x_c aYd J rfl (aIy l8 X :) fun v U w hR J=>?_
  obtain⟨rfl,X⟩:=hR
  refine x_v J (aXb rfl (J.ev rfl) (J.ev rfl)) rfl fun U J=>x_m J rfl fun U J=>wpList_nil (l5 _ _ ?_)
  refine l4 _ _ (aC ?_)
  refine x_l G J rfl fun q1 _ U J G=>x_m J rfl fun U J=>wpList_nil ?_
  cases G
  exact⟨_,k9 _ rfl,J.sub _ rfl,X⟩
 cases G
 exact wp_exit (k6 d3 (l0 _ rfl) U w (J.sub _ rfl) X)
theorem aDj {a0 a1 A1 n1 c1 y} (G:tT a0 a1=some y) (X:SH r (L) w) (ha1:RdL L (kI .i64) A1 n1 c1 a1) :
  Ret Tryz.prog 84 #[.int .u8 a0,.slice A1 n1 c1] w fun v w'=>∃ (B0:Option Addr) (m0:Nat) (d0:Nat),v=.slice B0 m0 d0∧SH r (own (kI .u8) 5 B0 m0 d0 y::L) w':=by
 refine enter Tryz.func84 rfl Tryz.ntmps84 [(0,_),(1,_)] rfl (by simp) ?_
 intro U J Qf hQ hQn
 unfold tT at G
 refine nz 1 J rfl fun U J=>ws fun q0 g7=>xk 1 J rfl fun U J=>iS (d:=(kI .u8)) (e:=5) (ps:=#[(0,.int .u8 a0)]) (cells:=[.int .u8 a0]) (xs:=[a0]) (fun w=>by kernel_rfl) rfl ⟨[.int .u8 a0],_,rfl,rfl,rfl⟩ J X (fun q1 U w X J=>?_) rfl
 refine x_m J rfl fun U J=>aY bM (X.rdl 1 ha1 rfl).2.1 J (fun U J=>?_) rfl
 refine fU G J (aU uu3 mM rfl (J.ev rfl)) rfl fun q2 _ U J G=>?_
 obtain⟨g8,g9,G⟩:=bnd G
 refine x_c aP8 J rfl (qZ g9 X :) fun v U w hR J=>?_
 obtain⟨a9,b3,b4,rfl,X⟩:=hR
 refine x_m J rfl fun U J=>wn (g7 _ _ ?_)
 refine wp_seq_k fun q3 h0=>nz 1 J rfl fun U J=>aA fun h1 h2=>?_
 have hb1:∀e8,gZ e8=some y→∀b5 b6 b7 U w,FR 93 [] U [(5,.slice b5 b6 b7)]→SH r (own (kI .u8) 5 b5 b6 b7 e8::L) w→h1 U w:=by
  intro e8 G b5 b6 b7 U w J X
  unfold gZ at G
  refine h2 _ _ (h0 _ _ ?_)
  refine nz 2 J rfl fun U J=>?_
  cases G
  refine wp_ret (hQ _ _ ?_)
  exact lv Tryz.results84 J rfl ⟨b5,b6,b7,rfl,X⟩
 refine nz 2 J rfl fun U J=>bH J G rfl (fun h3 G=>?_) fun h3 G=>?_
 ·refine ws fun q4 h4=>xk 1 J rfl fun U J=>aY bM (X.rdl 1 ha1 rfl).2.1 J (fun U J=>?_) rfl
  refine x_m J rfl fun U J=>wn (h4 _ _ ?_)
  refine aA fun f5 h5=>?_
  have hb2:∀b8,vP b8=some y→∀b9 c0 c3 U w,FR 93 [] U [(5,.slice b9 c0 c3)]→SH r (own (kI .u8) 5 b9 c0 c3 b8::L) w→f5 U w:=by
   intro b8 G b9 c0 c3 U w J X
   unfold vP at G
   exact h5 _ _ (hb1 b8 G b9 c0 c3 U w (J.sub _ rfl) X)
  obtain⟨h6,h7,G⟩:=bnd G
  have h8:∀a5,(a5)=h6→∀c4 c5 c6 U w,FR 93 [] U [(5,.slice c4 c5 c6)]→SH r (own (kI .u8) 5 c4 c5 c6 a5::L) w→f5 U w:=by
   intro a5 ht c4 c5 c6 U w J X
   subst ht
   replace G:sF a5=some y:=G
   unfold sF at G
   exact hb2 a5 G c4 c5 c6 U w (J.sub _ rfl) X
  refine aE h7 (fun s U w=>∃c7 c8 c9,FR 93 [] U [(5,.slice c7 c8 c9),(22,.slice A1 n1 c1),(23,.int .i64 (a1.length:Int)),(24,.int .i64 s.2)]∧SH r (own (kI .u8) 5 c7 c8 c9 s.1::L) w) ⟨a9,b3,b4,J.sub _ rfl,X⟩ ?_
  intro q5 h9 i0 G i1 i2 U w hLab
  obtain⟨f6,i3⟩:=h9
  replace G:jV a1 f6 i3=some i0:=G
  unfold jV at G
  try dsimp only at hLab
  obtain⟨c7,c8,c9,J,X⟩:=hLab
  refine nz 1 J rfl fun U J=>wp_seq_k fun q6 i4=>bH J G rfl (fun i5 G=>?_) fun i5 G=>?_
  ·refine wp_skip (i4 _ _ ?_)
   refine wp_seq_k fun q7 i6=>aA fun q8 i7=>ws fun q9 i8=>?_
   obtain⟨r0,f7,G⟩:=bnd G
   refine fE bM sz2 (X.rdl 1 ha1 rfl) f7 J (fun U J=>?_) rfl
   obtain⟨cs,hV,i9⟩:=el (X.rdl 1 ha1 rfl) f7
   obtain rfl:=hV
   refine aK uu2 (i9 0 _ rfl) J (fun U J=>?_) rfl
   refine x_m J rfl fun U J=>wn (i8 _ _ ?_)
   refine aC (xk 2 J rfl fun U J=>?_)
   obtain⟨r1,j0,G⟩:=bnd G
   refine x_c aNu J rfl (vI j0 X :) fun v U w hR J=>?_
   obtain⟨j1,j2,j3,rfl,X⟩:=hR
   refine x_m J rfl fun U J=>wpList_nil (i7 _ _ ?_)
   refine i6 _ _ (aC ?_)
   refine x_l G J rfl fun r2 _ U J G=>x_m J rfl fun U J=>wpList_nil ?_
   cases G
   exact⟨_,i1 _ rfl,j1,j2,j3,J.sub _ rfl,X⟩
  cases G
  exact wp_exit (h8 f6 (i2 _ rfl) c7 c8 c9 U w (J.sub _ rfl) X)
 refine nz 2 J rfl fun U J=>bH J G rfl (fun j4 G=>?_) fun j4 G=>?_
 ·refine nz 1 J rfl fun U J=>ws fun r3 j5=>xk 1 J rfl fun U J=>aY bM (X.rdl 1 ha1 rfl).2.1 J (fun U J=>?_) rfl
  refine x_m J rfl fun U J=>wn (j5 _ _ ?_)
  refine aA fun f8 j6=>?_
  have hb3:∀d1,vE d1=some y→∀d2 d3 d4 U w,FR 93 [] U [(5,.slice d2 d3 d4)]→SH r (own (kI .u8) 5 d2 d3 d4 d1::L) w→f8 U w:=by
   intro d1 G d2 d3 d4 U w J X
   unfold vE at G
   exact j6 _ _ (hb1 d1 G d2 d3 d4 U w (J.sub _ rfl) X)
  obtain⟨j7,j8,G⟩:=bnd G
  have j9:∀a6,(a6)=j7→∀d5 d6 d7 U w,FR 93 [] U [(5,.slice d5 d6 d7)]→SH r (own (kI .u8) 5 d5 d6 d7 a6::L) w→f8 U w:=by
   intro a6 ht d5 d6 d7 U w J X
   subst ht
   replace G:sB a6=some y:=G
   unfold sB at G
   exact hb3 a6 G d5 d6 d7 U w (J.sub _ rfl) X
  refine aE j8 (fun s U w=>∃d8 d9 e0,FR 93 [] U [(5,.slice d8 d9 e0),(8,.int .i64 s.2.1),(34,.slice A1 n1 c1),(35,.int .i64 (a1.length:Int)),(36,.int .i64 s.2.2)]∧SH r (own (kI .u8) 5 d8 d9 e0 s.1::L) w) ⟨a9,b3,b4,J.sub _ rfl,X⟩ ?_
  intro r4 k0 k1 G k2 k3 U w hLab
  obtain⟨f9,k4,k5⟩:=k0
  replace G:jS a1 f9 k4 k5=some k1:=G
  unfold jS at G
  try dsimp only at hLab
  obtain⟨d8,d9,e0,J,X⟩:=hLab
  refine nz 1 J rfl fun U J=>wp_seq_k fun r5 k6=>bH J G rfl (fun k7 G=>?_) fun k7 G=>?_
  ·refine wp_skip (k6 _ _ ?_)
   refine wp_seq_k fun r6 k8=>aA fun r7 k9=>ws fun r8 l0=>?_
   obtain⟨r9,g0,G⟩:=bnd G
   refine fE bM sz2 (X.rdl 1 ha1 rfl) g0 J (fun U J=>?_) rfl
   obtain⟨cs,hV,l1⟩:=el (X.rdl 1 ha1 rfl) g0
   obtain rfl:=hV
   refine aK uu2 (l1 0 _ rfl) J (fun U J=>?_) rfl
   refine x_m J rfl fun U J=>wn (l0 _ _ ?_)
   refine ws fun s2 l2=>xk 3 J rfl fun U J=>x_l G J rfl fun s3 _ U J G=>?_
   obtain⟨s4,l3,G⟩:=bnd G
   refine x_c aNu J rfl (vI l3 X :) fun v U w hR J=>?_
   obtain⟨l4,l5,l6,rfl,X⟩:=hR
   refine x_m J rfl fun U J=>wn (l2 _ _ ?_)
   refine aC (nk 2 J rfl fun U J=>?_)
   refine k9 _ _ (k8 _ _ ?_)
   refine aC (x_l G J rfl fun s5 _ U J G=>?_)
   refine x_m J rfl fun U J=>wpList_nil ?_
   cases G
   exact⟨_,k2 _ rfl,l4,l5,l6,J.sub _ rfl,X⟩
  cases G
  exact wp_exit (j9 f9 (k3 _ rfl) d8 d9 e0 U w (J.sub _ rfl) X)
 refine nz 2 J rfl fun U J=>bH J G rfl (fun l7 G=>?_) fun l7 G=>?_
 ·refine nz 1 J rfl fun U J=>aA fun g1 l8=>?_
  have hb4:∀e1,vF e1=some y→∀e2 e3 e4 U w,FR 93 [] U [(5,.slice e2 e3 e4)]→SH r (own (kI .u8) 5 e2 e3 e4 e1::L) w→g1 U w:=by
   intro e1 G e2 e3 e4 U w J X
   unfold vF at G
   exact l8 _ _ (hb1 e1 G e2 e3 e4 U w (J.sub _ rfl) X)
  obtain⟨l9,m1,G⟩:=bnd G
  have m2:∀a7,(a7)=l9→∀e5 e6 e7 U w,FR 93 [] U [(5,.slice e5 e6 e7)]→SH r (own (kI .u8) 5 e5 e6 e7 a7::L) w→g1 U w:=by
   intro a7 ht e5 e6 e7 U w J X
   subst ht
   replace G:sQ a7=some y:=G
   unfold sQ at G
   exact hb4 a7 G e5 e6 e7 U w (J.sub _ rfl) X
  refine aE m1 (fun s U w=>∃H I S,FR 93 [] U [(1,.slice A1 n1 c1),(5,.slice H I S),(11,.int .i64 s.2)]∧SH r (own (kI .u8) 5 H I S s.1::L) w) ⟨a9,b3,b4,J.sub _ rfl,X⟩ ?_
  intro s6 m3 e9 G m4 m5 U w hLab
  obtain⟨a2,C⟩:=m3
  replace G:lQ a1 a2 C=some e9:=G
  unfold lQ at G
  try dsimp only at hLab
  obtain⟨H,I,S,J,X⟩:=hLab
  refine wp_seq_k fun s7 m6=>ws fun s8 m7=>xk 2 J rfl fun U J=>aY bM (X.rdl 1 ha1 rfl).2.1 J (fun U J=>?_) rfl
  refine nk 1 J rfl fun U J=>m7 _ _ (bH J G rfl (fun m8 G=>?_) fun m8 G=>?_)
  ·refine wp_skip (m6 _ _ ?_)
   refine aA fun s9 m9=>nz 1 J rfl fun U J=>wp_seq_k fun t0 n0=>aA fun g2 n3=>?_
   have hb5:∀f2,uY a1 a2 C f2=some e9→∀U w,FR 93 [] U [(1,.slice A1 n1 c1),(5,.slice H I S),(11,.int .i64 C),(12,.int .i64 f2)]→SH r (own (kI .u8) 5 H I S a2::L) w→g2 U w:=by
    intro f2 G U w J X
    unfold uY at G
    refine n3 _ _ (n0 _ _ ?_)
    refine ws fun t1 n4=>xk 3 J rfl fun U J=>?_
    obtain⟨t3,g3,G⟩:=bnd G
    refine fE bM sz2 (X.rdl 1 ha1 rfl) g3 J (fun U J=>?_) rfl
    obtain⟨cs,hV,n5⟩:=el (X.rdl 1 ha1 rfl) g3
    obtain rfl:=hV
    refine aK uu2 (n5 0 _ rfl) J (fun U J=>?_) rfl
    obtain⟨t4,n6,G⟩:=bnd G
    refine x_c aNu J rfl (vI n6 X :) fun v U w hR J=>?_
    obtain⟨t5,t6,t7,rfl,X⟩:=hR
    refine x_m J rfl fun U J=>x_l G J rfl fun t8 _ U J G=>fU G J (aU uu3 mM rfl (J.ev rfl)) rfl fun t9 _ U J G=>?_
    obtain⟨u0,n7,G⟩:=bnd G
    refine x_c aP8 J rfl (qZ n7 X :) fun v U w hR J=>?_
    obtain⟨n8,n9,o0,rfl,X⟩:=hR
    refine x_m J rfl fun U J=>wn (n4 _ _ ?_)
    refine aC (xk 2 J rfl fun U J=>?_)
    refine x_l G J rfl fun u1 _ U J G=>x_m J rfl fun U J=>wpList_nil ?_
    cases G
    exact m9 _ _ ⟨_,m4 _ rfl,n8,n9,o0,J.sub _ rfl,X⟩
   obtain⟨o1,o2,G⟩:=bnd G
   have o3:∀a8,(a8)=o1→∀U w,FR 93 [] U [(1,.slice A1 n1 c1),(5,.slice H I S),(11,.int .i64 C),(12,.int .i64 a8)]→SH r (own (kI .u8) 5 H I S a2::L) w→g2 U w:=by
    intro a8 ht U w J X
    subst ht
    replace G:sE a1 a2 C a8=some e9:=G
    unfold sE at G
    exact hb5 a8 G U w (J.sub _ rfl) X
   refine aE o2 (fun s U w=>FR 93 [] U [(1,.slice A1 n1 c1),(5,.slice H I S),(11,.int .i64 C),(12,.int .i64 s)]∧SH r (own (kI .u8) 5 H I S a2::L) w) ⟨J.sub _ rfl,X⟩ ?_
   intro u2 o4 g4 G o5 o6 U w hLab
   obtain⟨Y,rfl⟩:∃ q,q=o4:=⟨_,rfl⟩
   replace G:lK a1 C Y=some g4:=G
   unfold lK at G
   try dsimp only at hLab
   obtain⟨J,X⟩:=hLab
   refine wp_seq_k fun u3 o7=>wp_seq_k fun o8 o9=>?_
   have hj1:∀f3,nL Y f3=some g4→∀U w,FR 93 [] U [(1,.slice A1 n1 c1),(5,.slice H I S),(11,.int .i64 C),(12,.int .i64 Y),(71,.bool f3)]→SH r (own (kI .u8) 5 H I S a2::L) w→o8 U w:=by
    intro f3 G U w J X
    unfold nL at G
    refine o9 _ _ (bH J G rfl (fun p0 G=>?_) fun p0 G=>?_)
    ·refine wp_skip (o7 _ _ ?_)
     refine aA fun u4 p1=>aC (x_m J rfl fun U J=>?_)
     refine x_l G J rfl fun u5 _ U J G=>x_m J rfl fun U J=>wpList_nil ?_
     cases G
     exact p1 _ _ ⟨_,o5 _ rfl,J.sub _ rfl,X⟩
    cases G
    exact wp_exit (o3 Y (o6 _ rfl) U w (J.sub _ rfl) X)
   refine dA [0,0,3,0,8,31,63,127,127,127,895,2047,4095,127,127,24703,57471,131071,262143] [] rfl J X (by kernel_rfl) (by kernel_rfl) (by kernel_rfl) (by kernel_rfl) fun w X=>?_
   obtain⟨h,f4,G⟩:=nQ G
   refine bcG G (fun z G=>?_) fun z G=>?_
   ·obtain⟨a3,g5,G⟩:=bnd G
    obtain⟨cs,hV,p2⟩:=el (X.rdl 1 ha1 rfl) g5
    obtain rfl:=hV
    obtain⟨a4,g6,G⟩:=bnd G
    obtain⟨cs,hV,p3⟩:=el (X.rdl 1 ha1 rfl) g6
    obtain rfl:=hV
    refine⟨[(0,.int .i64 C),(1,.int .i64 Y),(2,.int .i64 h),(3,.slice A1 n1 c1),(4,.int .i64 (a1.length:Int)),(5,.bool (decide (h<(a1.length:Int)))),(6,.bool (decide (h<(a1.length:Int)))),(7,.slice A1 n1 c1),(8,.int .i64 C),(9,.int .i64 Y),(10,.int .i64 h),(11,.pointer (some (ea A1 (h.toNat * 1)))),(12,.int .i64 a3),(13,.slice A1 n1 c1),(14,.int .i64 C),(15,.pointer (some (ea A1 (C.toNat * 1)))),(16,.int .i64 a4),(17,.bool (a3==a4)),(18,.bool (a3==a4))],?_⟩
    refine gQ [0,1,2,3,4,5,6,7,8,9,10,11,12,13,14,15,16,17,18] (by kernel_rfl) ⟨pm rfl,pm rfl,pt [(53,.int .i64 C),(54,.int .i64 Y)] rfl fun U J=>kC f4 (iL rfl (J.ev rfl) (J.ev rfl)),pm rfl,pt [(56,.slice A1 n1 c1)] rfl (fun U J=>aDy bM (X.rdl 1 ha1 rfl).2.1 J rfl rfl),pt [(55,.int .i64 h),(57,.int .i64 (a1.length:Int))] rfl (fun U J=>qS rfl (J.ev rfl) (J.ev rfl)),pm rfl,jR rfl rfl rfl rfl [(1,.slice A1 n1 c1),(59,.bool (decide (h<(a1.length:Int))))] rfl z (fun U J=>oZ J rfl rfl) rfl,jR rfl rfl rfl rfl [(11,.int .i64 C),(59,.bool (decide (h<(a1.length:Int))))] rfl z (fun U J=>oZ J rfl rfl) rfl,jR rfl rfl rfl rfl [(12,.int .i64 Y),(59,.bool (decide (h<(a1.length:Int))))] rfl z (fun U J=>oZ J rfl rfl) rfl,jR rfl rfl rfl rfl [(59,.bool (decide (h<(a1.length:Int)))),(61,.int .i64 C),(62,.int .i64 Y)] rfl z (fun U J=>(kC f4 (iL rfl (J.ev rfl) (J.ev rfl)):RunV _ _ _ _ (.int .i64 h))) rfl,jR rfl rfl rfl rfl [(59,.bool (decide (h<(a1.length:Int)))),(60,.slice A1 n1 c1),(63,.int .i64 h)] rfl z (fun U J=>fM bM sz2 (X.rdl 1 ha1 rfl) g5 J rfl rfl rfl) rfl,jR rfl rfl rfl rfl [(59,.bool (decide (h<(a1.length:Int)))),(64,.pointer (some (ea A1 (h.toNat * 1))))] rfl z (fun U J=>cJ uu2 (p2 0 _ rfl) J rfl rfl rfl) rfl,jR rfl rfl rfl rfl [(1,.slice A1 n1 c1),(59,.bool (decide (h<(a1.length:Int))))] rfl z (fun U J=>oZ J rfl rfl) rfl,jR rfl rfl rfl rfl [(11,.int .i64 C),(59,.bool (decide (h<(a1.length:Int))))] rfl z (fun U J=>oZ J rfl rfl) rfl,jR rfl rfl rfl rfl [(59,.bool (decide (h<(a1.length:Int)))),(66,.slice A1 n1 c1),(67,.int .i64 C)] rfl z (fun U J=>fM bM sz2 (X.rdl 1 ha1 rfl) g6 J rfl rfl rfl) rfl,jR rfl rfl rfl rfl [(59,.bool (decide (h<(a1.length:Int)))),(68,.pointer (some (ea A1 (C.toNat * 1))))] rfl z (fun U J=>cJ uu2 (p3 0 _ rfl) J rfl rfl rfl) rfl,jR rfl rfl rfl rfl [(59,.bool (decide (h<(a1.length:Int)))),(65,.int .i64 a3),(69,.int .i64 a4)] rfl z (fun U J=>aHl rfl (J.ev rfl) (J.ev rfl)) rfl,pt [(59,.bool (decide (h<(a1.length:Int)))),(70,.bool (a3==a4))] rfl (fun U J=>aBo z J rfl rfl rfl),trivial⟩ ⟨by kernel_rfl,by kernel_rfl⟩ [(1,_),(5,_),(11,_),(12,_),(60,_),(61,_),(62,_),(63,_),(65,_),(66,_),(67,_),(69,_),(70,_),(71,_)] rfl (fun U J=>?_)
    exact hj1 (a3==a4) G U w (J.sub _ rfl) X
   refine⟨[(0,.int .i64 C),(1,.int .i64 Y),(2,.int .i64 h),(3,.slice A1 n1 c1),(4,.int .i64 (a1.length:Int)),(5,.bool (decide (h<(a1.length:Int)))),(6,.bool (decide (h<(a1.length:Int)))),(7,undef),(8,undef),(9,undef),(10,undef),(11,undef),(12,undef),(13,undef),(14,undef),(15,undef),(16,undef),(17,undef),(18,.bool false)],?_⟩
   refine gQ [0,1,2,3,4,5,6,7,8,9,10,11,12,13,14,15,16,17,18] (by kernel_rfl) ⟨pm rfl,pm rfl,pt [(53,.int .i64 C),(54,.int .i64 Y)] rfl fun U J=>kC f4 (iL rfl (J.ev rfl) (J.ev rfl)),pm rfl,pt [(56,.slice A1 n1 c1)] rfl (fun U J=>aDy bM (X.rdl 1 ha1 rfl).2.1 J rfl rfl),pt [(55,.int .i64 h),(57,.int .i64 (a1.length:Int))] rfl (fun U J=>qS rfl (J.ev rfl) (J.ev rfl)),pm rfl,fN rfl rfl rfl rfl [(1,.slice A1 n1 c1),(59,.bool (decide (h<(a1.length:Int))))] rfl z rfl,fN rfl rfl rfl rfl [(11,.int .i64 C),(59,.bool (decide (h<(a1.length:Int))))] rfl z rfl,fN rfl rfl rfl rfl [(12,.int .i64 Y),(59,.bool (decide (h<(a1.length:Int))))] rfl z rfl,fN rfl rfl rfl rfl [(59,.bool (decide (h<(a1.length:Int)))),(61,undef),(62,undef)] rfl z rfl,fN rfl rfl rfl rfl [(59,.bool (decide (h<(a1.length:Int)))),(60,undef),(63,undef)] rfl z rfl,fN rfl rfl rfl rfl [(59,.bool (decide (h<(a1.length:Int)))),(64,undef)] rfl z rfl,fN rfl rfl rfl rfl [(1,.slice A1 n1 c1),(59,.bool (decide (h<(a1.length:Int))))] rfl z rfl,fN rfl rfl rfl rfl [(11,.int .i64 C),(59,.bool (decide (h<(a1.length:Int))))] rfl z rfl,fN rfl rfl rfl rfl [(59,.bool (decide (h<(a1.length:Int)))),(66,undef),(67,undef)] rfl z rfl,fN rfl rfl rfl rfl [(59,.bool (decide (h<(a1.length:Int)))),(68,undef)] rfl z rfl,fN rfl rfl rfl rfl [(59,.bool (decide (h<(a1.length:Int)))),(65,undef),(69,undef)] rfl z rfl,pt [(59,.bool (decide (h<(a1.length:Int)))),(70,undef)] rfl (fun U J=>aAs z J rfl rfl rfl),trivial⟩ ⟨by kernel_rfl,by kernel_rfl⟩ [(1,_),(5,_),(11,_),(12,_),(71,_)] rfl (fun U J=>?_)
   exact hj1 false G U w (J.sub _ rfl) X
  cases G
  exact wp_exit (m2 a2 (m5 _ rfl) H I S U w (J.sub _ rfl) X)
 refine nz 2 J rfl fun U J=>bH J G rfl (fun p4 G=>?_) fun p4 G=>?_
 ·refine aC (xk 2 J rfl fun U J=>?_)
  obtain⟨p5,p6,G⟩:=bnd G
  refine x_c aYe J rfl (aGn p6 X (RdL.sfx 0 rfl ha1) :) fun v U w hR J=>?_
  obtain⟨p7,p8,p9,rfl,X⟩:=hR
  exact x_m J rfl fun U J=>wpList_nil (hb1 p5 G p7 p8 p9 U w (J.sub _ rfl) X)
 exact wp_skip (hb1 g8 G a9 b3 b4 U w (J.sub _ rfl) X)
theorem rB {a0 A0 n0 c0 y} (G:mC a0=some y) (X:SH r (L) w) (ha0:RdL L (kI .i64) A0 n0 c0 a0) :
  Ret Tryz.prog 66 #[.slice A0 n0 c0] w fun v w'=>∃ (B0:Option Addr) (m0:Nat) (d0:Nat),v=.slice B0 m0 d0∧SH r (own (kI .u8) 5 B0 m0 d0 y::L) w':=by
 refine enter Tryz.func66 rfl Tryz.ntmps66 [(0,_)] rfl (by simp) ?_
 intro U J Qf hQ hQn
 unfold mC at G
 refine nz 1 J rfl fun U J=>ws fun e6 b6=>xk 1 J rfl fun U J=>?_
 obtain⟨e7,b7,G⟩:=bnd G
 refine x_c aXo J rfl (aDj b7 X (RdL.sfx 0 rfl ha0) :) fun v U w hR J=>?_
 obtain⟨b8,b9,c3,rfl,X⟩:=hR
 refine x_m J rfl fun U J=>wn (b6 _ _ ?_)
 refine wp_seq_k fun e8 c4=>nz 1 J rfl fun U J=>aA fun b4 c5=>?_
 have hb1:∀a7,wF a7=some y→∀I S Y U w,FR 22 [] U [(3,.slice I S Y)]→SH r (own (kI .u8) 5 I S Y a7::L) w→b4 U w:=by
  intro a7 G I S Y U w J X
  unfold wF at G
  refine c5 _ _ (c4 _ _ ?_)
  refine nz 2 J rfl fun U J=>?_
  cases G
  refine wp_ret (hQ _ _ ?_)
  exact lv Tryz.results66 J rfl ⟨I,S,Y,rfl,X⟩
 obtain⟨c6,c7,G⟩:=bnd G
 have c8:∀h,(h)=c6→∀a1 a2 a3 U w,FR 22 [] U [(3,.slice a1 a2 a3)]→SH r (own (kI .u8) 5 a1 a2 a3 h::L) w→b4 U w:=by
  intro h ht a1 a2 a3 U w J X
  subst ht
  replace G:tW h=some y:=G
  unfold tW at G
  exact hb1 h G a1 a2 a3 U w (J.sub _ rfl) X
 refine aE c7 (fun s U w=>∃z C H,FR 22 [] U [(0,.slice A0 n0 c0),(3,.slice z C H),(4,.int .u8 s.2)]∧SH r (own (kI .u8) 5 z C H s.1::L) w) ⟨b8,b9,c3,J.sub _ rfl,X⟩ ?_
 intro e9 c9 b5 G d1 d2 U w hLab
 obtain⟨a8,a9⟩:=c9
 replace G:fF a0 a8 a9=some b5:=G
 unfold fF at G
 try dsimp only at hLab
 obtain⟨z,C,H,J,X⟩:=hLab
 refine wp_seq_k fun f2 d3=>nz 2 J rfl fun U J=>bH J G rfl (fun d4 G=>?_) fun d4 G=>?_
 ·refine wp_skip (d3 _ _ ?_)
  refine wp_seq_k fun f3 d5=>aA fun d6 d7=>?_
  have hb2:∀b3,pH a9 b3=some b5→∀a4 a5 a6 U w,FR 22 [] U [(0,.slice A0 n0 c0),(3,.slice a4 a5 a6),(4,.int .u8 a9)]→SH r (own (kI .u8) 5 a4 a5 a6 b3::L) w→d6 U w:=by
   intro b3 G a4 a5 a6 U w J X
   unfold pH at G
   refine d7 _ _ (d5 _ _ ?_)
   refine aC (x_m J rfl fun U J=>?_)
   refine x_l G J rfl fun f4 _ U J G=>x_m J rfl fun U J=>wpList_nil ?_
   cases G
   exact⟨_,d1 _ rfl,a4,a5,a6,J.sub _ rfl,X⟩
  refine ws fun f5 d8=>xk 2 J rfl fun U J=>?_
  obtain⟨d9,e0,G⟩:=bnd G
  refine x_c aXo J rfl (aDj e0 X (RdL.sfx 1 rfl ha0) :) fun v U w hR J=>?_
  obtain⟨e1,e2,e3,rfl,X⟩:=hR
  refine x_m J rfl fun U J=>wn (d8 _ _ ?_)
  refine ws fun f6 e4=>xk 1 J rfl fun U J=>aY fA (X.rd 0 rfl).2.1 J (fun U J=>?_) rfl
  refine x_m J rfl fun U J=>aY fA (X.rd 1 rfl).2.1 J (fun U J=>?_) rfl
  refine nk 1 J rfl fun U J=>e4 _ _ (bH J G rfl (fun e5 G=>?_) fun e5 G=>?_)
  ·refine aC (nk 2 J rfl fun U J=>?_)
   replace X:=X.drop 1
   exact hb2 d9 G e1 e2 e3 U w (J.sub _ rfl) X
  replace X:=X.drop 0
  exact wp_skip (hb2 a8 G z C H U w (J.sub _ rfl) X)
 cases G
 exact wp_exit (c8 a8 (d2 _ rfl) z C H U w (J.sub _ rfl) X)
end
theorem aNx {r:World} {L:List HP} {g:Nat} {b:Bool} {w:World} (hS:SH r (blk g 4 [.bool b]::L) w) :
    CallsD Tryz.prog 97 #[.pointer (some ⟨g,0,none⟩)] (.panicking aCg) w fun e u' w'=>e=.returned (.tuple #[])∧u'=.panicking [{ v:=.iface 154 (.agg #[]),recovered:=true }]∧SH r (blk g 4 [.bool false]::L) w':=by
  refine callsD_of_wpS Tryz.func97 rfl fun c₀ cs hu=>?_
  apply wpS_seq
  apply wpS_region
  simp only [List.size_toArray,List.length_cons,List.length_nil,Nat.zero_add]
  rw [show List.range (1+1)=[0,1] from rfl]
  simp [wpOpsS,go_sem,recoverD,hu,aCg,Tryz.ntmps97,Exit.thenS]
  generalize hac:({ tmps:=_,defers:=_ }:Act)=ac
  have hA:FR 15 [] ac [(0,.pointer (some ⟨g,0,none⟩)),(1,.iface 154 (.agg #[]))]:=by
    subst hac
    refine⟨by simp,rfl,fun t v hv=>?_⟩
    simp only [lk] at hv
    by_cases e0:t=0
    · subst e0; cases hv; rfl
    by_cases e1:t=1
    · subst e1; cases hv; rfl
    · exfalso
      rw [show Nat.beq 0 t=false by cases h:Nat.beq 0 t; rfl; exact absurd (Nat.eq_of_beq_eq_true h).symm e0,show Nat.beq 1 t=false by cases h:Nat.beq 1 t; rfl; exact absurd (Nat.eq_of_beq_eq_true h).symm e1] at hv
      cases hv
  clear hac
  refine wpS_of_wp ?_
  have fin:∀ (a:Act) (w:World),FR 15 [] a []→SH r (blk g 4 [.bool false]::L) w→bodyPostS Tryz.prog Tryz.f97 c₀ cs (fun e u' w'=>e=.returned (.tuple #[])∧u'=.panicking [{ v:=.iface 154 (.agg #[]),recovered:=true }]∧SH r (blk g 4 [.bool false]::L) w') .normal a ({ c₀ with mode:=.panicking [{ v:=.iface 154 (.agg #[]),recovered:=true }] }::cs) w:=by
    intro a w hA hS
    exact⟨hA.defers,_,rfl,_,results_none Tryz.results97 _ _ _,rfl,rfl,hS⟩
  refine wp_seq_k fun K1 h1=>?_
  refine aC ?_
  refine sS hA (fun ac hA=>?_)
  refine iV (v:=.bool true) hA (aN6 Tryz.underlying20 rfl (hA.ev rfl) (hA.ev rfl)) (fun ac hA=>?_)
  refine wpList_nil ?_
  refine h1 _ _ ?_
  refine c_t (b:=true) rfl hA ?_
  refine wp_seq_k fun K4 h4=>?_
  refine wp_seq_k fun K2 h2=>?_
  refine aC ?_
  refine sS hA (fun ac hA=>?_)
  refine iV (v:=.tuple #[.agg #[],.bool true]) hA (aI2 Tryz.underlying154 rfl rfl (hA.ev rfl)) (fun ac hA=>?_)
  refine sS hA (fun ac hA=>?_)
  refine iV hA (tO rfl (hA.ev rfl) rfl) (fun ac hA=>?_)
  refine iV hA (tO rfl (hA.ev rfl) rfl) (fun ac hA=>?_)
  refine aI3 (cs:=[]) aYv hA hS (fun g2 ac w hS hA=>?_)
  refine aNc (vs:=[]) 0 aZj hA hS rfl (fun ac w hS hA=>?_)
  refine kK hA (fun ac hA=>?_)
  refine wpList_nil ?_
  refine h2 _ _ ?_
  refine wp_seq_k fun K3 h3=>?_
  refine aC ?_
  refine sS hA (fun ac hA=>?_)
  refine iV hA (aCn rfl (hA.ev rfl)) (fun ac hA=>?_)
  refine wpList_nil ?_
  refine h3 _ _ ?_
  refine c_f (b := !true) rfl hA ?_
  refine wp_skip ?_
  refine h4 _ _ ?_
  refine aC ?_
  refine aNc (vs:=[.bool false]) 1 sz4 hA hS rfl (fun ac w hS hA=>?_)
  refine wpList_nil ?_
  have hS':=hS.pk 1
  exact fin _ _ (hA.sub _ rfl) (hS'.tail)
theorem aMc {g:Nat} {w:World} :
    CallsD Tryz.prog 97 #[.pointer (some ⟨g,0,none⟩)] .returning w fun e u' w'=>e=.returned (.tuple #[])∧u'=.returning∧w'=w:=by
  refine callsD_of_wpS Tryz.func97 rfl fun c₀ cs hu=>?_
  apply wpS_seq
  apply wpS_region
  simp only [List.size_toArray,List.length_cons,List.length_nil,Nat.zero_add]
  rw [show List.range (1+1)=[0,1] from rfl]
  simp [wpOpsS,go_sem,recoverD,hu,Tryz.ntmps97,Exit.thenS]
  generalize hac:({ tmps:=_,defers:=_ }:Act)=ac
  have hA:FR 15 [] ac [(0,.pointer (some ⟨g,0,none⟩)),(1,.nilIface)]:=by
    subst hac
    refine⟨by simp,rfl,fun t v hv=>?_⟩
    simp only [lk] at hv
    by_cases e0:t=0
    · subst e0; cases hv; rfl
    by_cases e1:t=1
    · subst e1; cases hv; rfl
    · exfalso
      rw [show Nat.beq 0 t=false by cases h:Nat.beq 0 t; rfl; exact absurd (Nat.eq_of_beq_eq_true h).symm e0,show Nat.beq 1 t=false by cases h:Nat.beq 1 t; rfl; exact absurd (Nat.eq_of_beq_eq_true h).symm e1] at hv
      cases hv
  clear hac
  refine wpS_of_wp ?_
  refine wp_seq_k fun K1 h1=>?_
  refine aC ?_
  refine sS hA (fun ac hA=>?_)
  refine iV (v:=.bool false) hA (aOq Tryz.underlying20 rfl (hA.ev rfl)) (fun ac hA=>?_)
  refine wpList_nil ?_
  refine h1 _ _ ?_
  refine c_f (b:=false) rfl hA ?_
  refine wp_skip ?_
  refine⟨hA.defers,c₀.mode,rfl,_,results_none Tryz.results97 _ _ _,rfl,hu,rfl⟩
theorem aBq {r:World} {L:List HP} {w:World} {g:Nat} {b:Bool} {a:Act} {n:Nat} {D:List Deferred} {F:List (Nat×Value)} (hA:FR n D a F) (h1:lk F 4=some (.pointer (some ⟨g,0,none⟩))) (hS:SH r (blk g 4 [.bool b]::L) w) :
    (results Tryz.f75 a.tmps).run Tryz.prog w=.ok (.bool b) w:=by
  have e1:a.tmps.getD 4 undef=.pointer (some ⟨g,0,none⟩):=hA.ev (x:=.tmp 4) h1
  have e1':a.tmps[4]?.getD undef=.pointer (some ⟨g,0,none⟩):=by rw [← Array.getD_eq_getD_getElem?]; exact e1
  have hc:=hS.cell 0 rfl 0 (.bool b) rfl
  have hagg:(isAgg 4).run Tryz.prog w=.ok false w:=by rw [pJ Tryz.underlying4]; rfl
  have hld:(loadVar 4 ⟨g,0,none⟩).run Tryz.prog w=.ok (.bool b) w:=by simp [loadVar,hagg,hc]
  simp [results,Tryz.results75,e1',asAddr,hld]
section
variable {r:World} {L:List HP} {w:World} {A:Option Addr} {n c f:Nat} {fs caps:Array Value}
theorem aGg {R:Value→World→Prop} (hf:EN Tryz.prog f) (hS:SH r L w)
    (hret:∀ g g4 w1,SH r (blk g 157 [.slice A n c]::blk g4 4 [.bool false]::L) w1 →
      (Ret Tryz.prog f (fs++#[.pointer (some ⟨g,0,none⟩)]++caps) w1 fun v w2=>∃ L1 A' n' c',SH r (blk g 157 [.slice A' n' c']::blk g4 4 [.bool false]::L1) w2∧∀ w3,SH r L1 w3→R (.bool ((n':Int)==0)) w3) ∨
      (Calls Tryz.prog f (fs++#[.pointer (some ⟨g,0,none⟩)]++caps) w1 fun e w2=>e=.panicked aCg∧∃ L1,SH r (blk g4 4 [.bool false]::L1) w2∧∀ w3,SH r L1 w3→R (.bool false) w3)) :
    Ret Tryz.prog 75 #[.slice A n c,.func (.func f) fs caps] w R:=by
  refine aV4 Tryz.func75 rfl Tryz.ntmps75 [(0,.slice A n c),(1,.func (.func f) fs caps)] rfl (by simp) ?_
  intro ac hA
  refine wp_seq_k fun K0 h0=>?_
  refine aC ?_
  refine aI3 (cs:=[.bool false]) zr4 hA hS (fun g4 ac w hS hA=>?_)
  refine wpList_nil ?_
  refine h0 _ _ ?_
  refine wp_seq_k fun K1 h1=>?_
  refine aC ?_
  refine iV hA (mI rfl (rV (vals:=#[]) hA rfl) (rV (vals:=#[.pointer (some ⟨g4,0,none⟩)]) hA rfl)) (fun ac hA=>?_)
  refine aR6 (vs:=#[]) hA (fun ac hA=>?_)
  refine wpList_nil ?_
  refine h1 _ _ ?_
  refine wp_seq_k fun K2 h2=>?_
  refine aC ?_
  refine sS hA (fun ac hA=>?_)
  refine iV (v:=.agg #[.slice A n c]) hA (oR (ps:=#[(0,.slice A n c)]) rfl (rM hA rfl) (fun w=>by kernel_rfl)) (fun ac hA=>?_)
  refine aEw hA hS (fun g ac w hS hA=>?_)
  refine kK hA (fun ac hA=>?_)
  refine wpList_nil ?_
  refine h2 _ _ ?_
  refine wp_seq_k fun K3 h3=>?_
  refine aC ?_
  refine sS hA (fun ac hA=>?_)
  refine sS hA (fun ac hA=>?_)
  rcases hret g g4 w hS with hr | hp
  · refine aMy (vs:=#[.pointer (some ⟨g,0,none⟩)]) hf hA hr (fun v ac w hR hA=>?_)
    obtain⟨L1,A',n',c',hS,hR⟩:=hR
    refine wpList_nil ?_
    refine h3 _ _ ?_
    refine wp_seq_k fun K4 h4=>?_
    refine aC ?_
    refine sS hA (fun ac hA=>?_)
    refine iV hA (dC rfl (hA.ev rfl)) (fun ac hA=>?_)
    refine aU6 pQ hA (fun ac hA=>?_)
    refine aKl Tryz.underlying32 (hS.cell 0 rfl 0 _ rfl) hA (fun ac hA=>?_)
    refine iV hA (aDd Tryz.underlying32 rfl (hA.ev rfl)) (fun ac hA=>?_)
    refine iV hA (aHl rfl (hA.ev rfl) (hA.ev rfl)) (fun ac hA=>?_)
    refine aNc (vs:=[.bool ((n':Int)==0)]) 1 sz4 hA hS rfl (fun ac w hS hA=>?_)
    refine wpList_nil ?_
    refine h4 _ _ ?_
    refine wp_ret ?_
    show Leaves _ _ _ _ _ _ _
    rw [hA.defers]
    refine leaves_cons (f:=97) (args:=#[.pointer (some ⟨g4,0,none⟩)]) (by simp) (by simp [invoke,(aXm _ _:_=_)]) ?_
    refine CallsD.mono aMc ?_
    rintro e u' w' ⟨rfl,rfl,rfl⟩
    exact⟨_,aBq hA rfl hS,_,rfl,hR _ (hS.tail.tail)⟩
  · refine aMv (vs:=#[.pointer (some ⟨g,0,none⟩)]) hf hA hp (fun w hR=>?_)
    obtain⟨L1,hS,hR⟩:=hR
    show Leaves _ _ _ _ _ _ _
    rw [hA.defers]
    refine leaves_cons (f:=97) (args:=#[.pointer (some ⟨g4,0,none⟩)]) (by simp) (by simp [invoke,(aXm _ _:_=_)]) ?_
    refine CallsD.mono (aNx hS) ?_
    rintro e u' w' ⟨rfl,rfl,hS⟩
    exact⟨_,aBq hA rfl hS,_,rfl,hR _ hS.tail⟩
end
noncomputable section
set_option linter.unusedSimpArgs false
def aH (a0:S157) (a1:Bool):Option ((S157)⊕(S157)) :=
  if (!a1)=true then (some (.inr a0)) else (some (.inl a0))
def fG (a0:S157):Option ((Int×S157)⊕(S157)) :=
  (aH a0 (decide (0<(a0.f0.length:Int)))).bind fun h=>(mG h (fun h=>((at_ h.f0 0).bind fun z=>((pG h.f0 1 (h.f0.length:Int)).bind fun C=>(some (.inl (z,(⟨C⟩:S157))))))) (fun h=>(some (.inr h))))
def iN (h:Int) (z:(List Int)):Option (((List Int)×Int×Int)⊕(((Int×S157)⊕(S157)))) :=
  some (.inr (.inl (h,(⟨z⟩:S157))))
def dZ (a1:Int) (U:Int) (I:Int) (J:(Int×S157)) (H:(List Int)):Option (((List Int)×Int×Int)⊕(((Int×S157)⊕(S157)))) :=
  ltt (yK .u8 J.1 127) fun X=>(ltt (IntKind.u64.wrap X) fun Y=>(ltt (IntKind.i64.wrap (7 * I)) fun S=>(chk (0≤S) (ltt (yW .u64 Y S) fun a0=>(ltt (ior .u64 U a0) fun h=>(if (decide (J.1<128))=true then (if (decide (h≤a1))=true then (if (I==0)=true then ((aH (⟨H⟩:S157) true).bind fun z=>(mG z (fun z=>(iN h z.f0)) (fun z=>(some (.inr (.inr z)))))) else ((aH (⟨H⟩:S157) (decide (0<J.1))).bind fun C=>(mG C (fun C=>(iN h C.f0)) (fun C=>(some (.inr (.inr C))))))) else ((aH (⟨H⟩:S157) false).bind fun G=>(mG G (fun G=>(iN h G.f0)) (fun G=>(some (.inr (.inr G))))))) else (ltt (IntKind.i64.wrap (I+1)) fun a2=>(some (.inl (H,h,a2))))))))))
def eA (a1:Int) (J:(List Int)) (I:Int) (z:Int):Option (((List Int)×Int×Int)⊕(((Int×S157)⊕(S157)))) :=
  (fG (⟨J⟩:S157)).bind fun h=>(mG h (fun h=>(if (decide (z<9))=true then ((aH h.2 true).bind fun C=>(mG C (fun C=>(dZ a1 I z h C.f0)) (fun C=>(some (.inr (.inr C)))))) else (if (z==9)=true then ((aH h.2 (decide (h.1<2))).bind fun G=>(mG G (fun G=>(dZ a1 I z h G.f0)) (fun G=>(some (.inr (.inr G)))))) else ((aH h.2 false).bind fun H=>(mG H (fun H=>(dZ a1 I z h H.f0)) (fun H=>(some (.inr (.inr H))))))))) (fun h=>(some (.inr (.inr h)))))
def eR (a0:S157) (a1:Int):Option ((Int×S157)⊕(S157)) :=
  (loop (fun s=>eA a1 s.1 s.2.1 s.2.2) (a0.f0,0,0)).bind fun t=>some t
def fW (a0:S157):Option ((Int×S157)⊕(S157)) :=
  (eR a0 18446744073709551615).bind fun h=>(mG h (fun h=>(ltt (bS .u64 h.1 1) fun z=>(ltt (IntKind.i64.wrap z) fun C=>(ltt (yK .u64 h.1 1) fun G=>(ltt (IntKind.i64.wrap G) fun H=>(ltt (yF .i64 C (IntKind.i64.wrap (0 - H))) fun I=>(some (.inl (I,h.2))))))))) (fun h=>(some (.inr h))))
def iR (a0:S157) (a1:Int):Option (((List UInt8)×S157)⊕(S157)) :=
  ltt (IntKind.u64.wrap a1) fun C=>((eR a0 C).bind fun h=>(mG h (fun h=>(ltt (IntKind.u64.wrap (h.2.f0.length:Int)) fun G=>((aH h.2 (decide (h.1≤G))).bind fun z=>(mG z (fun z=>((pG z.f0 0 h.1).bind fun H=>((pG z.f0 h.1 (z.f0.length:Int)).bind fun I=>(some (.inl (bts H,(⟨I⟩:S157))))))) (fun z=>(some (.inr z))))))) (fun h=>(some (.inr h)))))
def oW (h:(List Int)) (z:(List Int)):Option (((List Int)×S157)⊕(S157)) :=
  some (.inl (z,(⟨h⟩:S157)))
def nN (h:(List Int)) (z:(List Int)):Option (((List Int)×S157)⊕(S157)) :=
  oW h z
def cW (a0:Int) (C:(List Int)) (z:(List Int)) (G:Int):Option (((List Int)×(List Int)×Int)⊕(((List Int)×(List Int))⊕(((List Int)×S157)⊕(S157)))) :=
  if (decide (G<a0))=true then ((fW (⟨C⟩:S157)).bind fun h=>(mG h (fun h=>(chk (z.length+[h.1].length≤140737488355328 / 8) (ltt (IntKind.i64.wrap (G+1)) fun H=>(some (.inl (h.2.f0,z++[h.1],H)))))) (fun h=>(some (.inr (.inr (.inr h))))))) else (some (.inr (.inl (C,z))))
def lS (a0:Int) (h:S157):Option (((List Int)×S157)⊕(S157)) :=
  (loop (fun s=>cW a0 s.1 s.2.1 s.2.2) (h.f0,[],0)).bind fun t=>match t with | (.inl t)=>nN t.1 t.2 | (.inr t)=>some t
def tP (h:(List Int)):Option (((List Int)×S157)⊕(S157)) :=
  some (.inl (h,(⟨[]⟩:S157)))
def rG (h:(List Int)):Option (((List Int)×S157)⊕(S157)) :=
  tP h
def fO (C:(Int×S157)) (G:(List Int)) (z:(List Int)) (h:Int):Option (((List Int)×Int)⊕(((List Int)))) :=
  if (decide (h<(G.length:Int)))=true then ((at_ z h).bind fun H=>(ltt (IntKind.i64.wrap (H+C.1)) fun I=>(ltt (IntKind.i64.wrap (h+1)) fun J=>(some (.inl (z.set h.toNat I,J)))))) else (some (.inr (z)))
def pX (z:(Int×S157)) (C:(List Int)) (h:(List Int)):Option (((List Int)×S157)⊕(S157)) :=
  (loop (fun s=>fO z h s.1 s.2) (h,0)).bind fun t=>rG t
def nR (h:(Int×S157)) (z:(List Int)) (C:(List Int)):Option (((List Int)×S157)⊕(S157)) :=
  pX h z C
def kH (h:Int) (z:(List Int)) (C:(List Int)):Option (((List Int)×(List Int)×Int)⊕(((List Int)×(List Int))⊕(((List Int)×S157)⊕(S157)))) :=
  ltt (IntKind.i64.wrap (h+1)) fun G=>(some (.inl (z,C,G)))
def gN (a1:Int) (z:Int) (X:Int) (G:(List Int)) (H:(List Int)) (h:Int):Option (((List Int)×(List Int)×Int)⊕(((List Int)×(List Int))⊕(((List Int)×S157)⊕(S157)))) :=
  if (decide (h<X))=true then (ltt (IntKind.i64.wrap (h.tdiv 8)) fun Y=>((at_ G Y).bind fun a0=>(ltt (h.tmod 8) fun I=>(chk (0≤I) (ltt (bS .u8 a0 I) fun a2=>(ltt (IntKind.u64.wrap a2) fun a3=>(ltt (yK .u64 a3 1) fun J=>(ltt (IntKind.i64.wrap (a1 * z)) fun a4=>(if (decide (a4≤h))=true then ((aH (⟨G⟩:S157) (J==0)).bind fun C=>(mG C (fun C=>(kH h C.f0 H)) (fun C=>(some (.inr (.inr (.inr C))))))) else (chk (z≠0) (ltt (IntKind.i64.wrap (h.tdiv z)) fun S=>((at_ H S).bind fun a5=>(chk (z≠0) (ltt (h.tmod z) fun U=>(chk (0≤U) (ltt (yW .u64 J U) fun a6=>(ltt (IntKind.i64.wrap a6) fun a7=>(ltt (ior .i64 a5 a7) fun a8=>(kH h G (H.set S.toNat a8)))))))))))))))))))) else (some (.inr (.inl (G,H))))
def mX (a1:Int) (z:(Int×S157)) (C:Int) (h:(List Int)):Option (((List Int)×S157)⊕(S157)) :=
  chk (0≤a1∧(8:Int) * a1≤140737488355328) (ltt (IntKind.i64.wrap (8 * (h.length:Int))) fun G=>((loop (fun s=>gN a1 C G s.1 s.2.1 s.2.2) (h,List.replicate a1.toNat (0:Int),0)).bind fun t=>match t with | (.inl t)=>nR z t.1 t.2 | (.inr t)=>some t))
def qU (a0:S157) (a1:Int):Option (((List Int)×S157)⊕(S157)) :=
  (fW a0).bind fun z=>(mG z (fun z=>((fG z.2).bind fun h=>(mG h (fun h=>(ltt (IntKind.i64.wrap h.1) fun H=>(if (decide (H≤64))=true then (ltt (IntKind.i64.wrap (a1 * H)) fun I=>(ltt (IntKind.i64.wrap (I+7)) fun J=>(ltt (IntKind.i64.wrap (J.tdiv 8)) fun S=>((aH h.2 ((h.2.f0.length:Int)==S)).bind fun C=>(mG C (fun C=>(mX a1 z H C.f0)) (fun C=>(some (.inr C)))))))) else ((aH h.2 false).bind fun G=>(mG G (fun G=>(mX a1 z H G.f0)) (fun G=>(some (.inr G)))))))) (fun h=>(some (.inr h)))))) (fun z=>(some (.inr z))))
def iX (h:(List Int)) (z:(List Int)):Option (((List Int)×S157)⊕(S157)) :=
  some (.inl (z,(⟨h⟩:S157)))
def wL (h:(List Int)) (z:(List Int)):Option (((List Int)×S157)⊕(S157)) :=
  iX h z
def tU (h:(List Int)) (z:(List Int)):Option (((List Int)×S157)⊕(S157)) :=
  wL h z
def gH (I:Int) (G:(List Int)) (z:(List Int)) (J:Int) (H:Int):Option (((List Int)×(List Int)×Int×Int)⊕(((List Int)×(List Int))⊕(((List Int)×S157)⊕(S157)))) :=
  if (decide (H<I))=true then ((fW (⟨G⟩:S157)).bind fun h=>(mG h (fun h=>(ltt (IntKind.i64.wrap (J+h.1)) fun C=>(chk (z.length+[C].length≤140737488355328 / 8) (ltt (IntKind.i64.wrap (H+1)) fun S=>(some (.inl (h.2.f0,z++[C],C,S))))))) (fun h=>(some (.inr (.inr (.inr h))))))) else (some (.inr (.inl (G,z))))
def wG (h:(List Int)) (z:(List Int)):Option (((List Int)×S157)⊕(S157)) :=
  iX h z
def tV (h:(List Int)) (z:(List Int)):Option (((List Int)×S157)⊕(S157)) :=
  wG h z
def wJ (h:(Int×S157)) (z:(List Int)):Option (((List Int)×(List Int))⊕(((List Int)×(List Int))⊕(((List Int)×S157)⊕(S157)))) :=
  some (.inl (h.2.f0,z))
def tK (h:(Int×S157)) (z:(List Int)):Option (((List Int)×(List Int))⊕(((List Int)×(List Int))⊕(((List Int)×S157)⊕(S157)))) :=
  wJ h z
def gU (z:(Int×S157)) (G:Int) (h:(List Int)) (C:Int):Option (((List Int)×Int)⊕(((List Int)))) :=
  if (decide (C<G))=true then (chk (h.length+[z.1].length≤140737488355328 / 8) (ltt (IntKind.u64.wrap (C+1)) fun H=>(some (.inl (h++[z.1],H))))) else (some (.inr (h)))
def dP (G:Int) (H:(List Int)) (C:(List Int)):Option (((List Int)×(List Int))⊕(((List Int)×(List Int))⊕(((List Int)×S157)⊕(S157)))) :=
  if (decide ((C.length:Int)<G))=true then ((fW (⟨H⟩:S157)).bind fun h=>(mG h (fun h=>(ltt (IntKind.i64.wrap (G - (C.length:Int))) fun I=>(ltt (IntKind.i64.wrap (I - 1)) fun J=>(ltt (IntKind.u64.wrap J) fun S=>((eR h.2 S).bind fun z=>(mG z (fun z=>(ltt (IntKind.u64.wrap (1+z.1)) fun U=>((loop (fun s=>gU h U s.1 s.2) (C,0)).bind fun t=>tK z t))) (fun z=>(some (.inr (.inr (.inr z))))))))))) (fun h=>(some (.inr (.inr (.inr h))))))) else (some (.inr (.inl (H,C))))
def rT (a0:S157):Option (((List Int)×S157)⊕(S157)) :=
  (fG a0).bind fun z=>(mG z (fun z=>((aH z.2 (decide (z.1≤3))).bind fun H=>(mG H (fun H=>((eR H 4096).bind fun h=>(mG h (fun h=>(ltt (IntKind.i64.wrap h.1) fun I=>(if (z.1==0)=true then ((lS I h.2).bind fun C=>(mG C (fun C=>(iX C.2.f0 C.1)) (fun C=>(some (.inr C))))) else (if (z.1==1)=true then ((loop (fun s=>gH I s.1 s.2.1 s.2.2.1 s.2.2.2) (h.2.f0,[],0,0)).bind fun t=>match t with | (.inl t)=>tU t.1 t.2 | (.inr t)=>some t) else (if (z.1==2)=true then ((loop (fun s=>dP I s.1 s.2) (h.2.f0,[])).bind fun t=>match t with | (.inl t)=>tV t.1 t.2 | (.inr t)=>some t) else (if (z.1==3)=true then (if (decide (0<I))=true then ((qU h.2 I).bind fun G=>(mG G (fun G=>(iX G.2.f0 G.1)) (fun G=>(some (.inr G))))) else (iX h.2.f0 [])) else (iX h.2.f0 []))))))) (fun h=>(some (.inr h)))))) (fun H=>(some (.inr H)))))) (fun z=>(some (.inr z))))
def oQ (a0:S157) (a1:(List Int)):Option ((S157×(List Int))⊕(S157×(List Int))) :=
  (rT a0).bind fun h=>(mG h (fun h=>(some (.inl (h.2,h.1)))) (fun h=>(some (.inr (h,a1)))))
def oH (a0:(List Int)) (h:(List Int)):Option (Bool×(List Int)) :=
  (oQ (⟨a0⟩:S157) h).bind fun y=>(mG y (fun y=>some ((((y.1.f0.length:Int)==0),y.2))) (fun y=>some ((false,y.2))))
def iJ (a0:(List Int)):Option ((List Int)×Int) :=
  (oH a0 []).bind fun h=>(if (!h.1)=true then (some ([],3)) else (some (h.2,0)))
end
end Go.Proofs.YtnefioccdkmegaaGreatDoor.M
