/- Texts of the claim, joined: what it uses of Gr, Op, Dpg, Mpg, Dpl, Mpl, Dce, Mce, Tr, Dcr. -/
import Derived.Test.YtnefioccdkmegaaGreatDoorZb
import Derived.Test.YtnefioccdkmegaaGreatDoorProg
namespace Go.Proofs.YtnefioccdkmegaaGreatDoor.M
open Go Go.RowKit Go.Proofs.YtnefioccdkmegaaGreatDoor.E
set_option linter.unusedVariables false
set_option linter.unusedSimpArgs false
def aCh:List PanicEntry:=[{ v:=.iface 154 (.agg #[]),recovered:=false }]
theorem bBz:Tryz.prog.bytesOf 47=48:=by kernel_rfl
theorem aY2:Tryz.prog.cellsOf 146=1:=by kernel_rfl
theorem ce2:Tryz.prog.cellsOf 2=1:=by kernel_rfl
theorem ce3:Tryz.prog.cellsOf 3=1:=by kernel_rfl
theorem aYq:Tryz.prog.cellsOf 44=1:=by kernel_rfl
theorem bBk:Tryz.prog.cellsOf 45=1:=by kernel_rfl
theorem bAj:Tryz.prog.cellsOf 47=5:=by kernel_rfl
theorem ce9:Tryz.prog.cellsOf 9=1:=by kernel_rfl
theorem bBs:EN Tryz.prog 10:=aW Tryz.func10 (by kernel_rfl) rfl
theorem aXz:EN Tryz.prog 100:=aW Tryz.func100 (by kernel_rfl) rfl
theorem aUx:EN Tryz.prog 101:=aW Tryz.func101 (by kernel_rfl) rfl
theorem aZw:EN Tryz.prog 102:=aW Tryz.func102 (by kernel_rfl) rfl
theorem aZk:EN Tryz.prog 103:=aW Tryz.func103 (by kernel_rfl) rfl
theorem bAx:EN Tryz.prog 104:=aW Tryz.func104 (by kernel_rfl) rfl
theorem aYu:EN Tryz.prog 105:=aW Tryz.func105 (by kernel_rfl) rfl
theorem aZv:EN Tryz.prog 11:=aW Tryz.func11 (by kernel_rfl) rfl
theorem aN4:EN Tryz.prog 110:=aW Tryz.func110 (by kernel_rfl) rfl
theorem aYo:EN Tryz.prog 111:=aW Tryz.func111 (by kernel_rfl) rfl
theorem aZm:EN Tryz.prog 115:=aW Tryz.func115 (by kernel_rfl) rfl
theorem aVp:EN Tryz.prog 116:=aW Tryz.func116 (by kernel_rfl) rfl
theorem aVj:EN Tryz.prog 117:=aW Tryz.func117 (by kernel_rfl) rfl
theorem aZt:EN Tryz.prog 118:=aW Tryz.func118 (by kernel_rfl) rfl
theorem aSd:EN Tryz.prog 119:=aW Tryz.func119 (by kernel_rfl) rfl
theorem bA9:EN Tryz.prog 12:=aW Tryz.func12 (by kernel_rfl) rfl
theorem aZu:EN Tryz.prog 120:=aW Tryz.func120 (by kernel_rfl) rfl
theorem aN1:EN Tryz.prog 121:=aW Tryz.func121 (by kernel_rfl) rfl
theorem bA3:EN Tryz.prog 122:=aW Tryz.func122 (by kernel_rfl) rfl
theorem aX4:EN Tryz.prog 123:=aW Tryz.func123 (by kernel_rfl) rfl
theorem bAe:EN Tryz.prog 126:=aW Tryz.func126 (by kernel_rfl) rfl
theorem aZ3:EN Tryz.prog 13:=aW Tryz.func13 (by kernel_rfl) rfl
theorem aX7:EN Tryz.prog 130:=aW Tryz.func130 (by kernel_rfl) rfl
theorem aUz:EN Tryz.prog 134:=aW Tryz.func134 (by kernel_rfl) rfl
theorem bAs:EN Tryz.prog 135:=aW Tryz.func135 (by kernel_rfl) rfl
theorem aRo:EN Tryz.prog 136:=aW Tryz.func136 (by kernel_rfl) rfl
theorem bB5:EN Tryz.prog 14:=aW Tryz.func14 (by kernel_rfl) rfl
theorem bCx:EN Tryz.prog 15:=aW Tryz.func15 (by kernel_rfl) rfl
theorem aX6:EN Tryz.prog 17:=aW Tryz.func17 (by kernel_rfl) rfl
theorem aY3:EN Tryz.prog 18:=aW Tryz.func18 (by kernel_rfl) rfl
theorem bCl:EN Tryz.prog 19:=aW Tryz.func19 (by kernel_rfl) rfl
theorem bBa:EN Tryz.prog 20:=aW Tryz.func20 (by kernel_rfl) rfl
theorem aXy:EN Tryz.prog 21:=aW Tryz.func21 (by kernel_rfl) rfl
theorem aR3:EN Tryz.prog 24:=aW Tryz.func24 (by kernel_rfl) rfl
theorem aWm:EN Tryz.prog 25:=aW Tryz.func25 (by kernel_rfl) rfl
theorem bAd:EN Tryz.prog 26:=aW Tryz.func26 (by kernel_rfl) rfl
theorem bCj:EN Tryz.prog 27:=aW Tryz.func27 (by kernel_rfl) rfl
theorem aZf:EN Tryz.prog 28:=aW Tryz.func28 (by kernel_rfl) rfl
theorem bCp:EN Tryz.prog 29:=aW Tryz.func29 (by kernel_rfl) rfl
theorem bCn:EN Tryz.prog 30:=aW Tryz.func30 (by kernel_rfl) rfl
theorem bCi:EN Tryz.prog 31:=aW Tryz.func31 (by kernel_rfl) rfl
theorem bCy:EN Tryz.prog 32:=aW Tryz.func32 (by kernel_rfl) rfl
theorem aZz:EN Tryz.prog 33:=aW Tryz.func33 (by kernel_rfl) rfl
theorem aYa:EN Tryz.prog 34:=aW Tryz.func34 (by kernel_rfl) rfl
theorem bB2:EN Tryz.prog 35:=aW Tryz.func35 (by kernel_rfl) rfl
theorem bBe:EN Tryz.prog 36:=aW Tryz.func36 (by kernel_rfl) rfl
theorem aZo:EN Tryz.prog 37:=aW Tryz.func37 (by kernel_rfl) rfl
theorem bAh:EN Tryz.prog 40:=aW Tryz.func40 (by kernel_rfl) rfl
theorem bAv:EN Tryz.prog 41:=aW Tryz.func41 (by kernel_rfl) rfl
theorem bCe:EN Tryz.prog 42:=aW Tryz.func42 (by kernel_rfl) rfl
theorem bBy:EN Tryz.prog 43:=aW Tryz.func43 (by kernel_rfl) rfl
theorem bCb:EN Tryz.prog 44:=aW Tryz.func44 (by kernel_rfl) rfl
theorem bA1:EN Tryz.prog 45:=aW Tryz.func45 (by kernel_rfl) rfl
theorem bB0:EN Tryz.prog 46:=aW Tryz.func46 (by kernel_rfl) rfl
theorem bBl:EN Tryz.prog 47:=aW Tryz.func47 (by kernel_rfl) rfl
theorem bCr:EN Tryz.prog 48:=aW Tryz.func48 (by kernel_rfl) rfl
theorem bCg:EN Tryz.prog 49:=aW Tryz.func49 (by kernel_rfl) rfl
theorem bBp:EN Tryz.prog 50:=aW Tryz.func50 (by kernel_rfl) rfl
theorem bAg:EN Tryz.prog 52:=aW Tryz.func52 (by kernel_rfl) rfl
theorem bBf:EN Tryz.prog 53:=aW Tryz.func53 (by kernel_rfl) rfl
theorem bBg:EN Tryz.prog 54:=aW Tryz.func54 (by kernel_rfl) rfl
theorem bBn:EN Tryz.prog 55:=aW Tryz.func55 (by kernel_rfl) rfl
theorem bCv:EN Tryz.prog 56:=aW Tryz.func56 (by kernel_rfl) rfl
theorem aUi:EN Tryz.prog 57:=aW Tryz.func57 (by kernel_rfl) rfl
theorem aQ2:EN Tryz.prog 58:=aW Tryz.func58 (by kernel_rfl) rfl
theorem bB7:EN Tryz.prog 59:=aW Tryz.func59 (by kernel_rfl) rfl
theorem bBm:EN Tryz.prog 60:=aW Tryz.func60 (by kernel_rfl) rfl
theorem bCw:EN Tryz.prog 61:=aW Tryz.func61 (by kernel_rfl) rfl
theorem bB9:EN Tryz.prog 62:=aW Tryz.func62 (by kernel_rfl) rfl
theorem bAi:EN Tryz.prog 63:=aW Tryz.func63 (by kernel_rfl) rfl
theorem aPw:EN Tryz.prog 66:=aW Tryz.func66 (by kernel_rfl) rfl
theorem bCs:EN Tryz.prog 67:=aW Tryz.func67 (by kernel_rfl) rfl
theorem bB3:EN Tryz.prog 68:=aW Tryz.func68 (by kernel_rfl) rfl
theorem aYg:EN Tryz.prog 69:=aW Tryz.func69 (by kernel_rfl) rfl
theorem bCk:EN Tryz.prog 70:=aW Tryz.func70 (by kernel_rfl) rfl
theorem bBu:EN Tryz.prog 71:=aW Tryz.func71 (by kernel_rfl) rfl
theorem bB1:EN Tryz.prog 72:=aW Tryz.func72 (by kernel_rfl) rfl
theorem aYb:EN Tryz.prog 73:=aW Tryz.func73 (by kernel_rfl) rfl
theorem bBj:EN Tryz.prog 74:=aW Tryz.func74 (by kernel_rfl) rfl
theorem aWl:EN Tryz.prog 75:=aW Tryz.func75 (by kernel_rfl) rfl
theorem bBi:EN Tryz.prog 76:=aW Tryz.func76 (by kernel_rfl) rfl
theorem aZ8:EN Tryz.prog 77:=aW Tryz.func77 (by kernel_rfl) rfl
theorem aT4:EN Tryz.prog 78:=aW Tryz.func78 (by kernel_rfl) rfl
theorem bCm:EN Tryz.prog 79:=aW Tryz.func79 (by kernel_rfl) rfl
theorem bBq:EN Tryz.prog 80:=aW Tryz.func80 (by kernel_rfl) rfl
theorem bCt:EN Tryz.prog 81:=aW Tryz.func81 (by kernel_rfl) rfl
theorem aX2:EN Tryz.prog 84:=aW Tryz.func84 (by kernel_rfl) rfl
theorem bBc:EN Tryz.prog 85:=aW Tryz.func85 (by kernel_rfl) rfl
theorem bCd:EN Tryz.prog 86:=aW Tryz.func86 (by kernel_rfl) rfl
theorem bCa:EN Tryz.prog 87:=aW Tryz.func87 (by kernel_rfl) rfl
theorem aRc:EN Tryz.prog 88:=aW Tryz.func88 (by kernel_rfl) rfl
theorem bBx:EN Tryz.prog 89:=aW Tryz.func89 (by kernel_rfl) rfl
theorem en9:EN Tryz.prog 9:=aW Tryz.func9 (by kernel_rfl) rfl
theorem aYc:EN Tryz.prog 90:=aW Tryz.func90 (by kernel_rfl) rfl
theorem aY6:EN Tryz.prog 91:=aW Tryz.func91 (by kernel_rfl) rfl
theorem aX3:EN Tryz.prog 92:=aW Tryz.func92 (by kernel_rfl) rfl
theorem aYx:EN Tryz.prog 93:=aW Tryz.func93 (by kernel_rfl) rfl
theorem aTh:EN Tryz.prog 94:=aW Tryz.func94 (by kernel_rfl) rfl
theorem bAw:EN Tryz.prog 95:=aW Tryz.func95 (by kernel_rfl) rfl
theorem bA6:EN Tryz.prog 96:=aW Tryz.func96 (by kernel_rfl) rfl
theorem aZ4:EN Tryz.prog 97:=aW Tryz.func97 (by kernel_rfl) rfl
theorem aQb:EN Tryz.prog 98:=aW Tryz.func98 (by kernel_rfl) rfl
theorem aAh:EN Tryz.prog 99:=aW Tryz.func99 (by kernel_rfl) rfl
theorem aVh (n:Int):EXT Tryz.prog 124 #[.int .u64 n] (.float .f64 n.toNat):=fun w=>by kernel_rfl
theorem aYn (b:Nat):EXT Tryz.prog 82 #[.float .f64 b] (.int .u64 b):=fun w=>by kernel_rfl
theorem vT:FA Tryz.prog 151 0 0:=fun ad w=>by kernel_rfl
theorem wA:FA Tryz.prog 151 1 1:=fun ad w=>by kernel_rfl
theorem pW:FA Tryz.prog 157 0 0:=fun ad w=>by kernel_rfl
theorem aLl:FA Tryz.prog 26 0 0:=fun ad w=>by kernel_rfl
theorem aL0:FA Tryz.prog 26 1 1:=fun ad w=>by kernel_rfl
theorem uD:FA Tryz.prog 47 0 0:=fun ad w=>by kernel_rfl
theorem rL:FA Tryz.prog 47 1 1:=fun ad w=>by kernel_rfl
theorem iR:FA Tryz.prog 47 2 2:=fun ad w=>by kernel_rfl
theorem sL:FA Tryz.prog 47 3 3:=fun ad w=>by kernel_rfl
theorem aFr:FA Tryz.prog 47 4 4:=fun ad w=>by kernel_rfl
theorem uZ:FA Tryz.prog 58 0 0:=fun ad w=>by kernel_rfl
theorem aIe:FA Tryz.prog 58 1 1:=fun ad w=>by kernel_rfl
theorem aJj:FA Tryz.prog 58 2 2:=fun ad w=>by kernel_rfl
theorem aL6:FA Tryz.prog 58 3 3:=fun ad w=>by kernel_rfl
theorem aRg:FA Tryz.prog 58 4 4:=fun ad w=>by kernel_rfl
theorem aMj:FA Tryz.prog 64 0 0:=fun ad w=>by kernel_rfl
theorem aIw:FA Tryz.prog 64 1 1:=fun ad w=>by kernel_rfl
theorem aI3:FA Tryz.prog 67 0 0:=fun ad w=>by kernel_rfl
theorem aQs:FA Tryz.prog 67 1 1:=fun ad w=>by kernel_rfl
theorem aXb:FA Tryz.prog 67 2 3:=fun ad w=>by kernel_rfl
theorem aLq:FA Tryz.prog 67 3 4:=fun ad w=>by kernel_rfl
theorem kX:(Tryz.prog.info? 2).map (fun i=>(i.zero,i.size,i.bytes))=some (some (.int .i64 0),1,8):=by kernel_rfl
theorem aU4:(Tryz.prog.info? 22).map (fun i=>(i.zero,i.size,i.bytes))=some (some (.slice none 0 0),1,24):=by kernel_rfl
theorem aXx:(Tryz.prog.info? 3).map (fun i=>(i.zero,i.size,i.bytes))=some (some (.int .i64 0),1,8):=by kernel_rfl
theorem bCf:(Tryz.prog.info? 4).map (fun i=>(i.zero,i.size,i.bytes))=some (some (.bool false),1,1):=by kernel_rfl
theorem aM3:(Tryz.prog.info? 45).map (fun i=>(i.zero,i.size,i.bytes))=some (some (.float .f64 0),1,8):=by kernel_rfl
theorem aB5:(Tryz.prog.info? 47).map (fun i=>(i.zero,i.size,i.bytes))=some (some (.agg #[(.int .u64 0),(.int .i64 0),(.int .i64 0),(str []),(.float .f64 0)]),5,48):=by kernel_rfl
theorem aC6:(Tryz.prog.info? 5).map (fun i=>(i.zero,i.size,i.bytes))=some (some (.int .u8 0),1,1):=by kernel_rfl
theorem aVc:(Tryz.prog.info? 64).map (fun i=>(i.zero,i.size,i.bytes))=some (some (.agg #[(str []),(.slice none 0 0),(.int .i64 0)]),3,48):=by kernel_rfl
theorem aJx:(Tryz.prog.info? 9).map (fun i=>(i.zero,i.size,i.bytes))=some (some (str []),1,16):=by kernel_rfl
theorem aZd {args:Array Value} {w:World} (h:(Extern.SlicesOverlaps.overlaps #[56,56] #[4] args).run Tryz.prog w=.ok (.bool false) w):(callFunc 38 args).run Tryz.prog w=.ok (.value (.bool false)) w:=by
  rw [run_callFunc_extern Tryz.func38 (by kernel_rfl) (by kernel_rfl) (by kernel_rfl) (e:=Extern.SlicesOverlaps.overlaps #[56,56] #[4]) (by kernel_rfl),h]
  rfl
theorem aZp:(Tryz.prog.info? 100).map (·.size)=some 1:=by kernel_rfl
theorem aY8:(Tryz.prog.info? 108).map (·.size)=some 1:=by kernel_rfl
theorem aVg:(Tryz.prog.info? 146).map (·.size)=some 1:=by kernel_rfl
theorem aZb:(Tryz.prog.info? 154).map (·.size)=some 0:=by kernel_rfl
theorem sz2:(Tryz.prog.info? 2).map (·.size)=some 1:=by kernel_rfl
theorem aDa:(Tryz.prog.info? 22).map (·.size)=some 1:=by kernel_rfl
theorem aX5:(Tryz.prog.info? 26).map (·.size)=some 2:=by kernel_rfl
theorem aOs:(Tryz.prog.info? 28).map (·.size)=some 1:=by kernel_rfl
theorem sz3:(Tryz.prog.info? 3).map (·.size)=some 1:=by kernel_rfl
theorem aDb:(Tryz.prog.info? 32).map (·.size)=some 1:=by kernel_rfl
theorem aTx:(Tryz.prog.info? 37).map (·.size)=some 1:=by kernel_rfl
theorem sz4:(Tryz.prog.info? 4).map (·.size)=some 1:=by kernel_rfl
theorem aXl:(Tryz.prog.info? 45).map (·.size)=some 1:=by kernel_rfl
theorem cH:(Tryz.prog.info? 47).map (·.size)=some 5:=by kernel_rfl
theorem sz5:(Tryz.prog.info? 5).map (·.size)=some 1:=by kernel_rfl
theorem bCc:(Tryz.prog.info? 52).map (·.size)=some 1:=by kernel_rfl
theorem bAq:(Tryz.prog.info? 56).map (·.size)=some 1:=by kernel_rfl
theorem qO:(Tryz.prog.info? 64).map (·.size)=some 3:=by kernel_rfl
theorem sz9:(Tryz.prog.info? 9).map (·.size)=some 1:=by kernel_rfl
theorem bAa:(Tryz.prog.info? 108).bind (·.zero)=some (.slice none 0 0):=by kernel_rfl
theorem aZg:(Tryz.prog.info? 124).bind (·.zero)=some (.agg #[(.slice none 0 0),(.slice none 0 0),(.slice none 0 0),(.slice none 0 0),(.slice none 0 0)]):=by kernel_rfl
theorem aYv:(Tryz.prog.info? 154).bind (·.zero)=some (.agg #[]):=by kernel_rfl
theorem bCq:(Tryz.prog.info? 22).bind (·.zero)=some (.slice none 0 0):=by kernel_rfl
theorem bCu:(Tryz.prog.info? 28).bind (·.zero)=some (.int .i64 0):=by kernel_rfl
theorem zr3:(Tryz.prog.info? 3).bind (·.zero)=some (.int .i64 0):=by kernel_rfl
theorem bBv:(Tryz.prog.info? 32).bind (·.zero)=some (.slice none 0 0):=by kernel_rfl
theorem aW3:(Tryz.prog.info? 37).bind (·.zero)=some (.slice none 0 0):=by kernel_rfl
theorem zr4:(Tryz.prog.info? 4).bind (·.zero)=some (.bool false):=by kernel_rfl
theorem aJ0:(Tryz.prog.info? 47).bind (·.zero)=some (.agg #[(.int .u64 0),(.int .i64 0),(.int .i64 0),(str []),(.float .f64 0)]):=by kernel_rfl
theorem aWd:(Tryz.prog.info? 64).bind (·.zero)=some (.agg #[(str []),(.slice none 0 0),(.int .i64 0)]):=by kernel_rfl
abbrev pP (g:Nat):Value:=.pointer (some ⟨g,0,none⟩)
abbrev uu2:=Tryz.underlying2
abbrev uu3:=Tryz.underlying3
abbrev uu4:=Tryz.underlying4
abbrev uu5:=Tryz.underlying5
abbrev uu9:=Tryz.underlying9
abbrev eG:=Tryz.underlying22
abbrev aZq:=Tryz.underlying26
abbrev yU:=Tryz.underlying27
abbrev aOq:=Tryz.underlying28
abbrev fE:=Tryz.underlying32
abbrev lG:=Tryz.underlying37
abbrev bBt:=Tryz.underlying40
abbrev mE:=Tryz.underlying44
abbrev aKm:=Tryz.underlying45
abbrev lL:=Tryz.underlying47
abbrev wQ:=Tryz.underlying52
abbrev jS:=Tryz.underlying56
abbrev aSz:=Tryz.underlying64
abbrev aMq:=Tryz.underlying65
abbrev aEf:=Tryz.underlying93
abbrev qM:=Tryz.underlying100
abbrev bM:=Tryz.underlying108
abbrev aCj:=Tryz.underlying109
abbrev aV2:=Tryz.underlying113
abbrev aU3:=Tryz.underlying117
abbrev aHi:=Tryz.underlying124
abbrev aVv:=Tryz.underlying135
abbrev wM:=Tryz.underlying146
abbrev aY9:=Tryz.underlying154
abbrev aNp:=Tryz.underlying161
abbrev aVk:=Tryz.underlying174
def g47 (x:S47):Prop:=(gI .u64) x.f0∧(gI .i64) x.f1∧(gI .i64) x.f2∧gS x.f3∧gF x.f4
set_option maxRecDepth 100000 in
theorem op47 {W:World}:Opens Tryz.prog W 47 k47 g47:=by
  intro H enc held fuel cs x h hw
  obtain⟨ys,n,_,rfl,hl,hyl,hf⟩:=DataW.trod_struct Tryz.underlying47 h
  rw [bAj] at hl
  match cs,hl with
  | [c0,c1,c2,c3,c4],_ =>
    obtain⟨a0,h0,q0⟩:=fld Tryz.underlying47 hf hyl hw 0 rfl (o:=0) (c:=1) (t:=44) rfl rfl aYq (opI Tryz.underlying44)
    cases (show [c0]=[.int .u64 a0] from h0)
    obtain⟨a1,h1,q1⟩:=fld Tryz.underlying47 hf hyl hw 1 rfl (o:=1) (c:=1) (t:=3) rfl rfl ce3 (opI Tryz.underlying3)
    cases (show [c1]=[.int .i64 a1] from h1)
    obtain⟨a2,h2,q2⟩:=fld Tryz.underlying47 hf hyl hw 2 rfl (o:=2) (c:=1) (t:=2) rfl rfl ce2 (opI Tryz.underlying2)
    cases (show [c2]=[.int .i64 a2] from h2)
    obtain⟨a3,h3,q3⟩:=fld Tryz.underlying47 hf hyl hw 3 rfl (o:=3) (c:=1) (t:=9) rfl rfl ce9 (opS Tryz.underlying9)
    cases (show [c3]=[str a3] from h3)
    obtain⟨a4,h4,q4⟩:=fld Tryz.underlying47 hf hyl hw 4 rfl (o:=4) (c:=1) (t:=45) rfl rfl bBk (opF Tryz.underlying45)
    cases (show [c4]=[.float .f64 a4] from h4)
    exact⟨⟨a0,a1,a2,a3,a4⟩,rfl,q0,q1,q2,q3,q4⟩
noncomputable section
set_option linter.unusedSimpArgs false
def aAk (a:Int):Option (Int) :=
  some (xW .u32 (IntKind.u32.max) a)
def xU (a:Int):Option (Int) :=
  aAk a
def lR (a0:(List Int)) (a:Int) (b:Int):Option ((Int×Int)⊕((Int))) :=
  if (decide (b<(a0.length:Int)))=true then ((at_ a0 b).bind fun e=>(ltt (IntKind.u32.wrap e) fun c=>(ltt (xW .u32 a c) fun f=>(ltt (yX .u32 f 15) fun g=>((at_ cW g).bind fun h=>(ltt (bS .u32 a 4) fun i=>(ltt (xW .u32 h i) fun d=>(ltt (bS .u32 c 4) fun j=>(ltt (xW .u32 d j) fun k=>(ltt (yX .u32 k 15) fun l=>((at_ cW l).bind fun m=>(ltt (bS .u32 d 4) fun n=>(ltt (xW .u32 m n) fun o=>(ltt (IntKind.i64.wrap (b+1)) fun p=>(some (.inl (o,p))))))))))))))))) else (some (.inr (a)))
def xX (a0:(List Int)):Option (Int) :=
  (loop (fun s=>lR a0 s.1 s.2) (4294967295,0)).bind fun t=>xU t
def rO (a0:(List Int)):Option (Int) :=
  (at_ a0 0).bind fun a=>(ltt (IntKind.u32.wrap a) fun b=>((at_ a0 1).bind fun c=>(ltt (IntKind.u32.wrap c) fun d=>(ltt (zE .u32 d 8) fun e=>(ltt (ior .u32 b e) fun f=>((at_ a0 2).bind fun g=>(ltt (IntKind.u32.wrap g) fun h=>(ltt (zE .u32 h 16) fun i=>(ltt (ior .u32 f i) fun j=>((at_ a0 3).bind fun k=>(ltt (IntKind.u32.wrap k) fun l=>(ltt (zE .u32 l 24) fun m=>(ltt (ior .u32 j m) fun n=>(some n))))))))))))))
def dP (a0:(List Int)):Option ((List Int)) :=
  pG (a0).isEmpty (some []) (chk (([]:List Int).length+a0.length≤140737488355328 / 1) (some a0))
def rY (a1:Int) (a:(List Int)) (c:(Int)) (d:Bool):Option (Int×(List Int)×Int×Int) :=
  if d=true then (some (0,[],0,3)) else (ltt (IntKind.i64.wrap c) fun e=>(ltt (IntKind.i64.wrap (5+e)) fun b=>((oP a 0 b).bind fun f=>((oP a b (a.length:Int)).bind fun g=>((xX f).bind fun h=>((rO g).bind fun i=>(if (h != i)=true then (some (0,[],0,4)) else ((at_ a 4).bind fun j=>((oP a 5 b).bind fun k=>(ltt (IntKind.i64.wrap (a1+b)) fun l=>(ltt (IntKind.i64.wrap (l+4)) fun m=>((dP k).bind fun n=>(some (j,n,m,0))))))))))))))
def sV (a0:(List Int)) (a1:Int) (c:Bool):Option (Int×(List Int)×Int×Int) :=
  if c=true then (some (0,[],0,1)) else ((oP a0 a1 (a0.length:Int)).bind fun a=>(if (decide ((a.length:Int)<9))=true then (some (0,[],0,3)) else ((rO a).bind fun b=>(if (decide (1048576<b))=true then (rY a1 a b true) else (ltt (IntKind.i64.wrap b) fun d=>(ltt (IntKind.i64.wrap ((a.length:Int) - 9)) fun e=>(rY a1 a b (decide (e<d)))))))))
def yM (a0:(List Int)) (a1:Int):Option (Int×(List Int)×Int×Int) :=
  if (decide (a1<0))=true then (sV a0 a1 true) else (sV a0 a1 (decide ((a0.length:Int)<a1)))
end
set_option maxRecDepth 100000
set_option maxHeartbeats 4000000
section
variable {r:World} {L:List HP} {w:World} {Z:Nat→Prop} {wz:World}
theorem aGk {a0 A0 n0 c0 y} (G:xX a0=some y) (X:SH r (L) w) (qz:Nat) (hZ:L[qz]?=some (zone Z wz)) (ha0:RdL L (kI .u8) A0 n0 c0 a0) (hG1:Imm Z wz (kI .u32) (some ⟨1,0,none⟩) 16 16 cW) :
  Ret Tryz.prog 92 #[.slice A0 n0 c0] w fun v w'=>v=.int .u32 y∧SH r (L) w':=by
 refine enter Tryz.func92 rfl Tryz.ntmps92 [(0,_)] rfl (by simp) ?_
 intro U J Qf hQ hQn
 unfold xX at G
 refine nz 1 J rfl fun U J=>nz 1 J rfl fun U J=>wp_seq_k fun M h=>ws fun N i=>xk 1 J rfl fun U J=>aU fE (X.rdl 0 ha0 rfl).2.1 J (fun U J=>?_) rfl
 refine x_m J rfl fun U J=>wn (i _ _ ?_)
 refine aA fun c j=>?_
 have hb1:∀b,aAk b=some y→∀U w,FR 36 [] U [(3,.int .u32 b)]→SH r (L) w→c U w:=by
  intro b G U w J X
  unfold aAk at G
  refine j _ _ (h _ _ ?_)
  refine ws fun O k=>xk 1 J rfl fun U J=>x_v J (aSv rfl (J.ev rfl)) rfl fun U J=>x_m J rfl fun U J=>wn (k _ _ ?_)
  cases G
  refine wp_ret (hQ _ _ ?_)
  exact lv Tryz.results92 J rfl ⟨rfl,X⟩
 obtain⟨l,m,G⟩:=bnd G
 have n:∀a,(a)=l→∀U w,FR 36 [] U [(3,.int .u32 a)]→SH r (L) w→c U w:=by
  intro a ht U w J X
  subst ht
  replace G:xU a=some y:=G
  unfold xU at G
  exact hb1 a G U w (J.sub _ rfl) X
 refine aD m (fun s U w=>FR 36 [] U [(3,.int .u32 s.1),(6,.slice A0 n0 c0),(7,.int .i64 (a0.length:Int)),(8,.int .i64 s.2)]∧SH r (L) w) ⟨J.sub _ rfl,X⟩ ?_
 intro P o p G q t U w hLab
 obtain⟨d,u⟩:=o
 replace G:lR a0 d u=some p:=G
 unfold lR at G
 try dsimp only at hLab
 obtain⟨J,X⟩:=hLab
 refine nz 1 J rfl fun U J=>wp_seq_k fun Q x=>bA J G rfl (fun z G=>?_) fun z G=>?_
 ·refine wp_skip (x _ _ ?_)
  refine wp_seq_k fun R A=>aA fun S B=>ws fun T C=>?_
  obtain⟨W,e,G⟩:=bnd G
  refine fG fE sz5 (X.rdl 0 ha0 rfl) e J (fun U J=>?_) rfl
  obtain⟨cs,hV,D⟩:=el (X.rdl 0 ha0 rfl) e
  obtain rfl:=hV
  refine aH uu5 (D 0 _ rfl) J (fun U J=>?_) rfl
  refine x_m J rfl fun U J=>wn (C _ _ ?_)
  refine ws fun Y E=>xk 2 J rfl fun U J=>gQ G J (aY uu5 wM rfl (J.ev rfl)) rfl fun F H U J G=>x_l G J rfl fun a1 _ U J G=>x_l G J rfl fun a2 _ U J G=>?_
  obtain⟨a3,f,G⟩:=bnd G
  refine zP aVk aVg (X.rdl 0 (hG1.rdl qz hZ) rfl) f J (fun U J=>?_) rfl
  obtain⟨cs,hV,I⟩:=el (X.rdl 0 (hG1.rdl qz hZ) rfl) f
  obtain rfl:=hV
  refine aH wM (I 0 _ rfl) J (fun U J=>?_) rfl
  refine x_m J rfl fun U J=>gQ G J (qV rfl (J.ev rfl) (J.ev rfl) (by decide)) rfl fun a4 _ U J G=>x_l G J rfl fun a5 _ U J G=>x_m J rfl fun U J=>wn (E _ _ ?_)
  refine aC (xk 2 J rfl fun U J=>?_)
  refine x_v (v:=.int .u32 F) J (kQ H (aY uu5 wM rfl (J.ev rfl))) rfl fun U J=>gQ G J (qV rfl (J.ev rfl) (J.ev rfl) (by decide)) rfl fun a6 _ U J G=>x_l G J rfl fun a7 _ U J G=>x_l G J rfl fun a8 _ U J G=>?_
  obtain⟨a9,g,G⟩:=bnd G
  refine zP aVk aVg (X.rdl 0 (hG1.rdl qz hZ) rfl) g J (fun U J=>?_) rfl
  obtain⟨cs,hV,K⟩:=el (X.rdl 0 (hG1.rdl qz hZ) rfl) g
  obtain rfl:=hV
  refine aH wM (K 0 _ rfl) J (fun U J=>?_) rfl
  refine x_m J rfl fun U J=>gQ G J (qV rfl (J.ev rfl) (J.ev rfl) (by decide)) rfl fun b1 _ U J G=>x_l G J rfl fun b2 _ U J G=>x_m J rfl fun U J=>wpList_nil (B _ _ ?_)
  refine A _ _ (aC ?_)
  refine x_l G J rfl fun b3 _ U J G=>x_m J rfl fun U J=>wpList_nil ?_
  cases G
  exact⟨_,q _ rfl,J.sub _ rfl,X⟩
 cases G
 exact wp_exit (n d (t _ rfl) U w (J.sub _ rfl) X)
theorem aBd {a0 A0 n0 c0 y} (G:rO a0=some y) (X:SH r (L) w) (ha0:RdL L (kI .u8) A0 n0 c0 a0) :
  Ret Tryz.prog 96 #[.slice A0 n0 c0] w fun v w'=>v=.int .u32 y∧SH r (L) w':=by
 refine enter Tryz.func96 rfl Tryz.ntmps96 [(0,_)] rfl (by simp) ?_
 intro U J Qf hQ hQn
 unfold rO at G
 refine nz 1 J rfl fun U J=>wp_seq_k fun O t=>cP [0,1,3,7,0,16,48,112,240,511,0,1024,3072,7168,15360,32767,0,65536,196608,458752,983040,2097151,4194303] [] rfl J X (by kernel_rfl) (by kernel_rfl) (by kernel_rfl) (by kernel_rfl) fun w X=>?_
 obtain⟨a,b,G⟩:=bnd G
 obtain⟨cs,hV,u⟩:=el (X.rdl 0 ha0 rfl) b
 obtain rfl:=hV
 obtain⟨c,x,G⟩:=nO G
 obtain⟨d,e,G⟩:=bnd G
 obtain⟨cs,hV,z⟩:=el (X.rdl 0 ha0 rfl) e
 obtain rfl:=hV
 obtain⟨f,A,G⟩:=nO G
 obtain⟨g,B,G⟩:=nO G
 obtain⟨h,C,G⟩:=nO G
 obtain⟨i,j,G⟩:=bnd G
 obtain⟨cs,hV,D⟩:=el (X.rdl 0 ha0 rfl) j
 obtain rfl:=hV
 obtain⟨k,E,G⟩:=nO G
 obtain⟨l,F,G⟩:=nO G
 obtain⟨m,H,G⟩:=nO G
 obtain⟨n,o,G⟩:=bnd G
 obtain⟨cs,hV,I⟩:=el (X.rdl 0 ha0 rfl) o
 obtain rfl:=hV
 obtain⟨p,K,G⟩:=nO G
 obtain⟨q,M,G⟩:=nO G
 obtain⟨s,N,G⟩:=nO G
 refine⟨[(0,.slice A0 n0 c0),(1,.pointer (some (ea A0 ((0:Int).toNat * 1)))),(2,.int .u8 a),(3,.int .u32 c),(4,.slice A0 n0 c0),(5,.pointer (some (ea A0 ((1:Int).toNat * 1)))),(6,.int .u8 d),(7,.int .u32 f),(8,.int .u32 g),(9,.int .u32 h),(10,.slice A0 n0 c0),(11,.pointer (some (ea A0 ((2:Int).toNat * 1)))),(12,.int .u8 i),(13,.int .u32 k),(14,.int .u32 l),(15,.int .u32 m),(16,.slice A0 n0 c0),(17,.pointer (some (ea A0 ((3:Int).toNat * 1)))),(18,.int .u8 n),(19,.int .u32 p),(20,.int .u32 q),(21,.int .u32 s),(22,.int .u32 s)],?_⟩
 refine gK [0,1,2,3,4,5,6,7,8,9,10,11,12,13,14,15,16,17,18,19,20,21,22] (by kernel_rfl) ⟨pm rfl,pt [(3,.slice A0 n0 c0)] rfl (fun U J=>fH fE sz5 (X.rdl 0 ha0 rfl) b J rfl rfl rfl),pt [(4,.pointer (some (ea A0 ((0:Int).toNat * 1))))] rfl (fun U J=>cM uu5 (u 0 _ rfl) J rfl rfl rfl),pt [(5,.int .u8 a)] rfl fun U J=>kQ x (aY uu5 wM rfl (J.ev rfl)),pm rfl,pt [(7,.slice A0 n0 c0)] rfl (fun U J=>fH fE sz5 (X.rdl 0 ha0 rfl) e J rfl rfl rfl),pt [(8,.pointer (some (ea A0 ((1:Int).toNat * 1))))] rfl (fun U J=>cM uu5 (z 0 _ rfl) J rfl rfl rfl),pt [(9,.int .u8 d)] rfl fun U J=>kQ A (aY uu5 wM rfl (J.ev rfl)),pt [(10,.int .u32 f)] rfl fun U J=>kQ B (aGj rfl (J.ev rfl) (J.ev rfl) (by decide)),pt [(6,.int .u32 c),(11,.int .u32 g)] rfl fun U J=>kQ C (aN8 rfl (J.ev rfl) (J.ev rfl)),pm rfl,pt [(13,.slice A0 n0 c0)] rfl (fun U J=>fH fE sz5 (X.rdl 0 ha0 rfl) j J rfl rfl rfl),pt [(14,.pointer (some (ea A0 ((2:Int).toNat * 1))))] rfl (fun U J=>cM uu5 (D 0 _ rfl) J rfl rfl rfl),pt [(15,.int .u8 i)] rfl fun U J=>kQ E (aY uu5 wM rfl (J.ev rfl)),pt [(16,.int .u32 k)] rfl fun U J=>kQ F (aGj rfl (J.ev rfl) (J.ev rfl) (by decide)),pt [(12,.int .u32 h),(17,.int .u32 l)] rfl fun U J=>kQ H (aN8 rfl (J.ev rfl) (J.ev rfl)),pm rfl,pt [(19,.slice A0 n0 c0)] rfl (fun U J=>fH fE sz5 (X.rdl 0 ha0 rfl) o J rfl rfl rfl),pt [(20,.pointer (some (ea A0 ((3:Int).toNat * 1))))] rfl (fun U J=>cM uu5 (I 0 _ rfl) J rfl rfl rfl),pt [(21,.int .u8 n)] rfl fun U J=>kQ K (aY uu5 wM rfl (J.ev rfl)),pt [(22,.int .u32 p)] rfl fun U J=>kQ M (aGj rfl (J.ev rfl) (J.ev rfl) (by decide)),pt [(18,.int .u32 m),(23,.int .u32 q)] rfl fun U J=>kQ N (aN8 rfl (J.ev rfl) (J.ev rfl)),pm rfl,trivial⟩ ⟨by kernel_rfl,by kernel_rfl⟩ [(2,_)] rfl (fun U J=>?_)
 cases G
 refine t _ _ (wp_ret ?_)
 refine hQ _ _ (lv Tryz.results96 J rfl ?_)
 exact⟨rfl,X⟩
theorem qY {a0 A0 n0 c0 y} (G:dP a0=some y) (X:SH r (L) w) (ha0:RdL L (kI .u8) A0 n0 c0 a0) :
  Ret Tryz.prog 34 #[.slice A0 n0 c0] w fun v w'=>∃ (B0:Option Addr) (m0:Nat) (d0:Nat),v=.slice B0 m0 d0∧SH r (own (kI .u8) 5 B0 m0 d0 y::L) w':=by
 refine enter Tryz.func34 rfl Tryz.ntmps34 [(0,_)] rfl (by simp) ?_
 intro U J Qf hQ hQn
 unfold dP at G
 refine nz 1 J rfl fun U J=>wp_seq_k fun l c=>ws fun m a=>xk 1 J rfl fun U J=>?_
 rcases A0 with _ | f
 ·replace G:=aVo (RdL.none_nil ha0 (X.sfx 0)) G
  refine x_v (v:=.bool true) J (aCa (p:=none) fE rfl (J.ev rfl) (J.ev rfl)) rfl fun U J=>wn (a _ _ ?_)
  refine c_t (b:=true) rfl J ?_ rfl
  refine nz 1 J rfl fun U J=>?_
  replace X:=SH.nil_own (d:=(kI .u8)) (e:=5) X
  cases G
  refine wp_ret (hQ _ _ ?_)
  exact lv Tryz.results34 J rfl ⟨none,0,0,rfl,X⟩
 replace G:=aU6 G
 refine x_v (v:=.bool false) J (aCa (p:=some f) fE rfl (J.ev rfl) (J.ev rfl)) rfl fun U J=>wn (a _ _ ?_)
 refine c_f (b:=false) rfl J ?_ rfl
 refine wp_skip (c _ _ ?_)
 refine ws fun n g=>iM (d:=(kI .u8)) (e:=5) (ps:=#[]) (cells:=[]) (xs:=[]) (fun w=>by kernel_rfl) rfl rfl J X (fun o U w X J=>?_) rfl
 refine x_m J rfl fun U J=>?_
 obtain⟨h,G⟩:=aB G
 have hr:=X.rdl 1 ha0 rfl
 refine gH 0 aC6 fE J X hr.1 hr.2.1 h rfl (fun i j k U w X J=>?_) rfl
 rw [List.nil_append] at X
 refine x_m J rfl fun U J=>wn (g _ _ ?_)
 cases G
 refine wp_ret (hQ _ _ ?_)
 exact lv Tryz.results34 J rfl ⟨i,j,k,rfl,X⟩
theorem aKt {a0 a1 A0 n0 c0 y} (G:yM a0 a1=some y) (X:SH r (L) w) (qz:Nat) (hZ:L[qz]?=some (zone Z wz)) (ha0:Imm Z wz (kI .u8) A0 n0 c0 a0) (hG1:Imm Z wz (kI .u32) (some ⟨1,0,none⟩) 16 16 cW) :
  Ret Tryz.prog 74 #[.slice A0 n0 c0,.int .i64 a1] w fun v w'=>∃ (B1:Option Addr) (m1:Nat) (d1:Nat),v=.tuple #[(.int .u8 y.1),(.slice B1 m1 d1),(.int .i64 y.2.2.1),(.int .i64 y.2.2.2)]∧SH r (own (kI .u8) 5 B1 m1 d1 y.2.1::L) w':=by
 refine enter Tryz.func74 rfl Tryz.ntmps74 [(0,_),(1,_)] rfl (by simp) ?_
 intro U J Qf hQ hQn
 unfold yM at G
 refine nz 4 J rfl fun U J=>wp_seq_k fun d5 H=>wp_seq_k fun I M=>?_
 have hj1:∀m,sV a0 a1 m=some y→∀U w,FR 60 [] U [(0,.slice A0 n0 c0),(1,.int .i64 a1),(18,.bool m)]→SH r (L) w→I U w:=by
  intro m G U w J X
  unfold sV at G
  refine M _ _ (bA J G rfl (fun N G=>?_) fun N G=>?_)
  ·refine nz 4 J rfl fun U J=>?_
   replace X:=SH.nil_own (d:=(kI .u8)) (e:=5) X
   cases G
   refine wp_ret (hQ _ _ ?_)
   exact lv4 Tryz.results74 J rfl rfl rfl rfl ⟨none,0,0,rfl,X⟩
  refine wp_skip (H _ _ ?_)
  refine ws fun d6 O=>xk 2 J rfl fun U J=>?_
  obtain⟨P,n,G⟩:=bnd G
  obtain⟨b,f,g,Q,a⟩:=aE9 ha0 n
  refine x_v (v:=.slice b f g) J (aE5 Q (kK fE sz5 rfl (J.ev rfl) (J.ev rfl) (tG (X.rdl 0 (ha0.rdl qz hZ) rfl) n).1 (tG (X.rdl 0 (ha0.rdl qz hZ) rfl) n).2.2.2.2.2)) rfl fun U J=>x_m J rfl fun U J=>wn (O _ _ ?_)
  refine wp_seq_k fun d7 R=>ws fun d8 S=>xk 1 J rfl fun U J=>aU fE (X.rdl 0 (a.rdl qz hZ) rfl).2.1 J (fun U J=>?_) rfl
  refine nk 1 J rfl fun U J=>S _ _ (bA J G rfl (fun T G=>?_) fun T G=>?_)
  ·refine nz 4 J rfl fun U J=>?_
   replace X:=SH.nil_own (d:=(kI .u8)) (e:=5) X
   cases G
   refine wp_ret (hQ _ _ ?_)
   exact lv4 Tryz.results74 J rfl rfl rfl rfl ⟨none,0,0,rfl,X⟩
  refine wp_skip (R _ _ ?_)
  refine ws fun d9 W=>xk 1 J rfl fun U J=>?_
  obtain⟨q,Y,G⟩:=bnd G
  refine x_c bA6 J rfl (aBd Y X (RdL.sfx 0 rfl (a.rdl qz hZ)) :) fun v U w hR J=>?_
  obtain⟨rfl,X⟩:=hR
  refine x_m J rfl fun U J=>wn (W _ _ ?_)
  refine wp_seq_k fun e0 a2=>wp_seq_k fun a3 a4=>?_
  have hj2:∀o,rY a1 P q o=some y→∀U w,FR 60 [] U [(1,.int .i64 a1),(8,.slice b f g),(9,.int .u32 q),(36,.bool o)]→SH r (L) w→a3 U w:=by
   intro o G U w J X
   unfold rY at G
   refine a4 _ _ (bA J G rfl (fun a5 G=>?_) fun a5 G=>?_)
   ·refine nz 4 J rfl fun U J=>?_
    replace X:=SH.nil_own (d:=(kI .u8)) (e:=5) X
    cases G
    refine wp_ret (hQ _ _ ?_)
    exact lv4 Tryz.results74 J rfl rfl rfl rfl ⟨none,0,0,rfl,X⟩
   refine wp_skip (a2 _ _ ?_)
   refine ws fun e1 a6=>xk 1 J rfl fun U J=>gQ G J (aY wM uu3 rfl (J.ev rfl)) rfl fun e2 _ U J G=>x_l G J rfl fun h _ U J G=>x_m J rfl fun U J=>wn (a6 _ _ ?_)
   refine wp_seq_k fun e3 a7=>wp_seq_k fun e4 a8=>cP [0,0,3,7,0,0,48,127,255] [3,7] rfl J X (by kernel_rfl) (by kernel_rfl) (by kernel_rfl) (by kernel_rfl) fun w X=>?_
   obtain⟨e5,p,G⟩:=bnd G
   obtain⟨a9,b1,b2,b3,b4⟩:=aQr a p
   obtain⟨e6,i,G⟩:=bnd G
   obtain⟨b5,b6,b7,s,b8⟩:=aE9 a i
   refine⟨[(0,.slice b f g),(1,.int .i64 h),(2,.slice a9 b1 b2),(4,.slice b f g),(5,.int .i64 h),(6,.slice b5 b6 b7)],?_⟩
   refine dF [0,1,2,4,5,6] [3] (by kernel_rfl) ⟨pm rfl,pm rfl,pt [(40,_),(41,_)] rfl fun U J=>aE5 b3 (wD fE sz5 rfl (J.ev rfl) (J.ev rfl) (tG (X.rdl 0 (a.rdl qz hZ) rfl) p).2.2.2.2.1 (tG (X.rdl 0 (a.rdl qz hZ) rfl) p).2.2.1),pm rfl,pm rfl,pt [(44,_),(45,_)] rfl fun U J=>aE5 s (kK fE sz5 rfl (J.ev rfl) (J.ev rfl) (tG (X.rdl 0 (a.rdl qz hZ) rfl) i).1 (tG (X.rdl 0 (a.rdl qz hZ) rfl) i).2.2.2.2.2),trivial⟩ ⟨et [(42,_)] rfl (fun U J K hK=>?_),trivial⟩
   obtain⟨t,b9,G⟩:=bnd G
   refine nQ aX3 J (aGk b9 X (qz+0) hZ (RdL.sfx 0 rfl (b4.rdl qz hZ)) hG1 :) (fun v w hR=>?_) rfl
   obtain⟨rfl,X⟩:=hR
   refine hK _ [] _ rfl (dF [4,5,6] [7] (by kernel_rfl) ⟨pm rfl,pm rfl,pt [(44,_),(45,_)] rfl fun U J=>aE5 s (kK fE sz5 rfl (J.ev rfl) (J.ev rfl) (tG (X.rdl 0 (a.rdl qz hZ) rfl) i).1 (tG (X.rdl 0 (a.rdl qz hZ) rfl) i).2.2.2.2.2),trivial⟩ ⟨et [(46,_)] rfl (fun U J K hK=>?_),trivial⟩)
   obtain⟨u,c1,G⟩:=bnd G
   refine nQ bA6 J (aBd c1 X (RdL.sfx 0 rfl (b8.rdl qz hZ)) :) (fun v w hR=>?_) rfl
   obtain⟨rfl,X⟩:=hR
   refine hK _ [(8,.bool (t != u))] _ rfl (gK [8] (by kernel_rfl) ⟨pt [(43,.int .u32 t),(47,.int .u32 u)] rfl (fun U J=>aVl rfl (J.ev rfl) (J.ev rfl)),trivial⟩ ⟨by kernel_rfl,by kernel_rfl⟩ [(1,_),(8,_),(10,_),(48,_)] rfl (fun U J=>?_))
   refine a8 _ _ (bA J G rfl (fun c2 G=>?_) fun c2 G=>?_)
   ·refine nz 4 J rfl fun U J=>?_
    replace X:=SH.nil_own (d:=(kI .u8)) (e:=5) X
    cases G
    refine wp_ret (hQ _ _ ?_)
    exact lv4 Tryz.results74 J rfl rfl rfl rfl ⟨none,0,0,rfl,X⟩
   refine wp_skip (a7 _ _ ?_)
   refine wp_seq_k fun e7 c3=>cP [0,1,3,0,0,24,56,0,0,384,896,127,2175,8191,16383] [6] rfl J X (by kernel_rfl) (by kernel_rfl) (by kernel_rfl) (by kernel_rfl) fun w X=>?_
   obtain⟨x,k,G⟩:=bnd G
   obtain⟨cs,hV,c4⟩:=el (X.rdl 0 (a.rdl qz hZ) rfl) k
   obtain rfl:=hV
   obtain⟨e8,l,G⟩:=bnd G
   obtain⟨c5,c6,c7,c8,c9⟩:=aSi a l
   obtain⟨z,A,G⟩:=nO G
   obtain⟨B,C,G⟩:=nO G
   refine⟨[(0,.slice b f g),(1,.pointer (some (ea b ((4:Int).toNat * 1)))),(2,.int .u8 x),(3,.slice b f g),(4,.int .i64 h),(5,.slice c5 c6 c7),(7,.int .i64 a1),(8,.int .i64 h),(9,.int .i64 z),(10,.int .i64 B)],?_⟩
   refine dF [0,1,2,3,4,5,7,8,9,10] [6] (by kernel_rfl) ⟨pm rfl,pt [(49,_)] rfl (fun U J=>fH fE sz5 (X.rdl 0 (a.rdl qz hZ) rfl) k J rfl rfl rfl),pt [(50,_)] rfl (fun U J=>cM uu5 (c4 0 _ rfl) J rfl rfl rfl),pm rfl,pm rfl,pt [(52,_),(53,_)] rfl fun U J=>aE5 c8 (aGo fE sz5 rfl (J.ev rfl) (J.ev rfl) (J.ev rfl) (tG (X.rdl 0 (a.rdl qz hZ) rfl) l).1 (tG (X.rdl 0 (a.rdl qz hZ) rfl) l).2.1 (tG (X.rdl 0 (a.rdl qz hZ) rfl) l).2.2.1),pm rfl,pm rfl,pt [(56,_),(57,_)] rfl fun U J=>kQ A (iP rfl (J.ev rfl) (J.ev rfl)),pt [(58,_)] rfl fun U J=>kQ C (iP rfl (J.ev rfl) (J.ev rfl)),trivial⟩ ⟨et [(54,_)] rfl (fun U J K hK=>?_),trivial⟩
   obtain⟨e9,d0,G⟩:=bnd G
   refine nQ aYa J (qY d0 X (RdL.sfx 0 rfl (c9.rdl qz hZ)) :) (fun v w hR=>?_) rfl
   obtain⟨D,E,F,rfl,X⟩:=hR
   obtain⟨cs,hV,d2⟩:=el (X.rdl 1 (a.rdl qz hZ) rfl) k
   obtain rfl:=hV
   refine hK _ [(11,.int .u8 x),(12,.slice D E F),(13,.int .i64 B),(14,.int .i64 0)] _ rfl (gK [0,1,2,7,8,9,10,11,12,13,14] (by kernel_rfl) ⟨pm rfl,pt [(49,.slice b f g)] rfl (fun U J=>fH fE sz5 (X.rdl 1 (a.rdl qz hZ) rfl) k J rfl rfl rfl),pt [(50,.pointer (some (ea b ((4:Int).toNat * 1))))] rfl (fun U J=>cM uu5 (d2 0 _ rfl) J rfl rfl rfl),pm rfl,pm rfl,pt [(56,.int .i64 a1),(57,.int .i64 h)] rfl fun U J=>kQ A (iP rfl (J.ev rfl) (J.ev rfl)),pt [(58,.int .i64 z)] rfl fun U J=>kQ C (iP rfl (J.ev rfl) (J.ev rfl)),pm rfl,pm rfl,pm rfl,pm rfl,trivial⟩ ⟨by kernel_rfl,by kernel_rfl⟩ [(4,_),(5,_),(6,_),(7,_)] rfl (fun U J=>?_))
   cases G
   refine c3 _ _ (wp_ret ?_)
   refine hQ _ _ (lv4 Tryz.results74 J rfl rfl rfl rfl ?_)
   exact⟨D,E,F,rfl,X⟩
  refine aC (xk 3 J rfl fun U J=>?_)
  refine bcG G (fun c G=>?_) fun c G=>?_
  ·exact ng 7 c J rfl rfl fun U J=>hj2 true G U w (J.sub _ rfl) X
  refine xg 1 c J rfl rfl fun U J=>aJ c J ?_ rfl
  refine gQ G J (aY wM uu3 rfl (J.ev rfl)) rfl fun d3 _ U J G=>xg 1 c J rfl rfl fun U J=>aJ c J ?_ rfl
  refine aU fE (X.rdl 0 (a.rdl qz hZ) rfl).2.1 J (fun U J=>?_) rfl
  refine aJ c J ?_ rfl
  exact x_l G J rfl fun d4 _ U J G=>ng 2 c J rfl rfl fun U J=>hj2 (decide (d4<d3)) G U w (J.sub _ rfl) X
 refine aC (xk 3 J rfl fun U J=>?_)
 refine bcG G (fun j G=>?_) fun j G=>?_
 ·exact ng 5 j J rfl rfl fun U J=>hj1 true G U w (J.sub _ rfl) X
 refine xg 2 j J rfl rfl fun U J=>aJ j J ?_ rfl
 refine aU fE (X.rdl 0 (ha0.rdl qz hZ) rfl).2.1 J (fun U J=>?_) rfl
 exact ng 2 j J rfl rfl fun U J=>hj1 (decide ((a0.length:Int)<a1)) G U w (J.sub _ rfl) X
end
noncomputable section
set_option linter.unusedSimpArgs false
def wB (a0:Int):Option ((List Int)) :=
  ltt (IntKind.u8.wrap a0) fun a=>(ltt (bS .u32 a0 8) fun b=>(ltt (IntKind.u8.wrap b) fun c=>(ltt (bS .u32 a0 16) fun d=>(ltt (IntKind.u8.wrap d) fun e=>(ltt (bS .u32 a0 24) fun f=>(ltt (IntKind.u8.wrap f) fun g=>(some [a,c,e,g])))))))
def aAa (a0:(List Int)) (a1:Int) (a2:(List Int)):Option ((List Int)) :=
  ltt (IntKind.u32.wrap (a2.length:Int)) fun c=>((wB c).bind fun a=>(chk (a.length+[a1].length≤140737488355328 / 1) (chk ((a++[a1]).length+a2.length≤140737488355328 / 1) (chk (a0.length+((a++[a1])++a2).length≤140737488355328 / 1) ((xX ((a++[a1])++a2)).bind fun d=>((wB d).bind fun b=>(chk ((a0++((a++[a1])++a2)).length+b.length≤140737488355328 / 1) (some ((a0++((a++[a1])++a2))++b)))))))))
end
section
variable {r:World} {L:List HP} {w:World} {Z:Nat→Prop} {wz:World}
theorem aDz {a0 y} (G:wB a0=some y) (X:SH r (L) w) :
  Ret Tryz.prog 91 #[.int .u32 a0] w fun v w'=>∃ (B0:Option Addr) (m0:Nat) (d0:Nat),v=.slice B0 m0 d0∧SH r (own (kI .u8) 5 B0 m0 d0 y::L) w':=by
 refine enter Tryz.func91 rfl Tryz.ntmps91 [(0,_)] rfl (by simp) ?_
 intro U J Qf hQ hQn
 unfold wB at G
 refine nz 1 J rfl fun U J=>ws fun i g=>xk 1 J rfl fun U J=>gQ G J (aY wM uu5 rfl (J.ev rfl)) rfl fun a _ U J G=>x_m J rfl fun U J=>gQ G J (qV rfl (J.ev rfl) (J.ev rfl) (by decide)) rfl fun j _ U J G=>gQ G J (aY wM uu5 rfl (J.ev rfl)) rfl fun b _ U J G=>x_m J rfl fun U J=>gQ G J (qV rfl (J.ev rfl) (J.ev rfl) (by decide)) rfl fun k _ U J G=>gQ G J (aY wM uu5 rfl (J.ev rfl)) rfl fun c _ U J G=>x_m J rfl fun U J=>gQ G J (qV rfl (J.ev rfl) (J.ev rfl) (by decide)) rfl fun l _ U J G=>gQ G J (aY wM uu5 rfl (J.ev rfl)) rfl fun f _ U J G=>iM (d:=(kI .u8)) (e:=5) (ps:=#[(0,.int .u8 a),(1,.int .u8 b),(2,.int .u8 c),(3,.int .u8 f)]) (cells:=[.int .u8 a,.int .u8 b,.int .u8 c,.int .u8 f]) (xs:=[a,b,c,f]) (fun w=>by kernel_rfl) rfl ⟨[.int .u8 a],_,rfl,rfl,⟨[.int .u8 b],_,rfl,rfl,⟨[.int .u8 c],_,rfl,rfl,⟨[.int .u8 f],_,rfl,rfl,rfl⟩⟩⟩⟩ J X (fun h U w X J=>?_) rfl
 refine x_m J rfl fun U J=>wn (g _ _ ?_)
 cases G
 refine wp_ret (hQ _ _ ?_)
 exact lv Tryz.results91 J rfl ⟨some ⟨h,0,none⟩,4,4,rfl,X⟩
theorem aMm {a0 a1 a2 A0 n0 c0 A2 n2 c2 y} (G:aAa a0 a1 a2=some y) (X:SH r (own (kI .u8) 5 A0 n0 c0 a0::L) w) (qz:Nat) (hZ:L[qz]?=some (zone Z wz)) (ha2:RdL L (kI .u8) A2 n2 c2 a2) (hG1:Imm Z wz (kI .u32) (some ⟨1,0,none⟩) 16 16 cW) :
  Ret Tryz.prog 70 #[.slice A0 n0 c0,.int .u8 a1,.slice A2 n2 c2] w fun v w'=>∃ (B0:Option Addr) (m0:Nat) (d0:Nat),v=.slice B0 m0 d0∧SH r (own (kI .u8) 5 B0 m0 d0 y::L) w':=by
 refine enter Tryz.func70 rfl Tryz.ntmps70 [(0,_),(1,_),(2,_)] rfl (by simp) ?_
 intro U J Qf hQ hQn
 unfold aAa at G
 refine nz 1 J rfl fun U J=>ws fun o a=>xk 1 J rfl fun U J=>aU fE (X.rdl 1 ha2 rfl).2.1 J (fun U J=>?_) rfl
 refine gQ G J (aY uu3 wM rfl (J.ev rfl)) rfl fun p _ U J G=>?_
 obtain⟨q,b,G⟩:=bnd G
 refine x_c aY6 J rfl (aDz b X :) fun v U w hR J=>?_
 obtain⟨s,t,u,rfl,X⟩:=hR
 refine x_m J rfl fun U J=>iM (d:=(kI .u8)) (e:=5) (ps:=#[(0,.int .u8 a1)]) (cells:=[.int .u8 a1]) (xs:=[a1]) (fun w=>by kernel_rfl) rfl ⟨[.int .u8 a1],_,rfl,rfl,rfl⟩ J X (fun x U w X J=>?_) rfl
 obtain⟨c,G⟩:=aB G
 have hr:=X.rd 0 rfl
 refine gH 1 aC6 fE J X hr.1 hr.2.1 c rfl (fun z A B U w X J=>?_) rfl
 refine x_m J rfl fun U J=>?_
 obtain⟨f,G⟩:=aB G
 have hr:=X.rdl 3 ha2 rfl
 refine gH 0 aC6 fE J X hr.1 hr.2.1 f rfl (fun C D E U w X J=>?_) rfl
 refine x_m J rfl fun U J=>wn (a _ _ ?_)
 refine ws fun F g=>xk 2 J rfl fun U J=>?_
 obtain⟨h,G⟩:=aB G
 have hr:=X.rd 0 rfl
 refine gH 2 aC6 fE J X hr.1 hr.2.1 h rfl (fun H I K U w X J=>?_) rfl
 refine x_m J rfl fun U J=>?_
 obtain⟨M,i,G⟩:=bnd G
 refine x_c aX3 J rfl (aGk i X (qz+3) hZ (RdL.own 1 rfl (X.dropN 0)) hG1 :) fun v U w hR J=>?_
 obtain⟨rfl,X⟩:=hR
 obtain⟨N,j,G⟩:=bnd G
 refine x_c aY6 J rfl (aDz j X :) fun v U w hR J=>?_
 obtain⟨O,P,Q,rfl,X⟩:=hR
 obtain⟨k,G⟩:=aB G
 have hr:=X.rd 0 rfl
 refine gH 1 aC6 fE J X hr.1 hr.2.1 k rfl (fun l m n U w X J=>?_) rfl
 refine x_m J rfl fun U J=>wn (g _ _ ?_)
 replace X:=X.drop 1 |>.drop 1 |>.drop 1
 cases G
 refine wp_ret (hQ _ _ ?_)
 exact lv Tryz.results70 J rfl ⟨l,m,n,rfl,X⟩
end
noncomputable section
set_option linter.unusedSimpArgs false
def sC (a:(List Int)) (c:Int):Option ((List Int)) :=
  ltt (IntKind.u8.wrap c) fun b=>(chk (a.length+[b].length≤140737488355328 / 1) (some (a++[b])))
def qE (a:(List Int)) (b:Int):Option ((List Int)) :=
  sC a b
def kY (b:(List Int)) (a:Int):Option (((List Int)×Int)⊕(((List Int)×Int))) :=
  if (decide (128≤a))=true then (ltt (IntKind.u8.wrap a) fun d=>(ltt (ior .u8 d 128) fun c=>(chk (b.length+[c].length≤140737488355328 / 1) (ltt (bS .u64 a 7) fun e=>(some (.inl (b++[c],e))))))) else (some (.inr (b,a)))
def kG (a0:(List Int)) (a1:Int):Option ((List Int)) :=
  (loop (fun s=>kY s.1 s.2) (a0,a1)).bind fun t=>qE t.1 t.2
def pJ (a0:(List Int)) (a1:Int):Option ((List Int)) :=
  ltt (zE .i64 a1 1) fun a=>(ltt (IntKind.u64.wrap a) fun b=>(ltt (bS .i64 a1 63) fun c=>(ltt (IntKind.u64.wrap c) fun d=>(ltt (xW .u64 b d) fun e=>((kG a0 e).bind fun f=>(some f))))))
def pM (a0:(List Int)) (a1:(List UInt8)):Option ((List Int)) :=
  ltt (IntKind.u64.wrap (a1.length:Int)) fun b=>((kG a0 b).bind fun a=>(chk (a.length+a1.length≤140737488355328 / 1) (some (a++stb a1))))
def lJ (a:Int):Option (Int) :=
  some a
def jV (a:Int):Option (Int) :=
  lJ a
def cJ (a0:(List Int)) (a:Int) (b:Int):Option ((Int×Int)⊕((Int))) :=
  if (decide (b<(a0.length:Int)))=true then ((at_ a0 b).bind fun c=>(ltt (IntKind.i64.wrap (b+1)) fun d=>(some (.inl (if c<a then c else a,d))))) else (some (.inr (a)))
def iC (a0:(List Int)):Option (Int) :=
  if (decide ((a0.length:Int)<1))=true then (none) else ((at_ a0 0).bind fun a=>((loop (fun s=>cJ a0 s.1 s.2) (a,1)).bind fun t=>jV t))
def oG (a:Int) (b:Int):Option (Int) :=
  ltt (IntKind.u8.wrap a) fun c=>((at_ ([0,1,2,2,3,3,3,3,4,4,4,4,4,4,4,4,5,5,5,5,5,5,5,5,5,5,5,5,5,5,5,5,6,6,6,6,6,6,6,6,6,6,6,6,6,6,6,6,6,6,6,6,6,6,6,6,6,6,6,6,6,6,6,6,7,7,7,7,7,7,7,7,7,7,7,7,7,7,7,7,7,7,7,7,7,7,7,7,7,7,7,7,7,7,7,7,7,7,7,7,7,7,7,7,7,7,7,7,7,7,7,7,7,7,7,7,7,7,7,7,7,7,7,7,7,7,7,7,8,8,8,8,8,8,8,8,8,8,8,8,8,8,8,8,8,8,8,8,8,8,8,8,8,8,8,8,8,8,8,8,8,8,8,8,8,8,8,8,8,8,8,8,8,8,8,8,8,8,8,8,8,8,8,8,8,8,8,8,8,8,8,8,8,8,8,8,8,8,8,8,8,8,8,8,8,8,8,8,8,8,8,8,8,8,8,8,8,8,8,8,8,8,8,8,8,8,8,8,8,8,8,8,8,8,8,8,8,8,8,8,8,8,8,8,8,8,8,8,8,8,8,8,8,8,8,8]:List UInt8) c).bind fun d=>(ltt (IntKind.i64.wrap (d.toNat:Int)) fun e=>(ltt (IntKind.i64.wrap (b+e)) fun f=>(some f))))
def oE (a:Int) (b:Int):Option (Int) :=
  if (decide (256≤a))=true then (ltt (bS .u64 a 8) fun c=>(ltt (IntKind.i64.wrap (b+8)) fun d=>(oG c d))) else (oG a b)
def oI (a:Int) (b:Int):Option (Int) :=
  if (decide (65536≤a))=true then (ltt (bS .u64 a 16) fun c=>(ltt (IntKind.i64.wrap (b+16)) fun d=>(oE c d))) else (oE a b)
def wL (a0:Int):Option (Int) :=
  if (decide (4294967296≤a0))=true then (ltt (bS .u64 a0 32) fun a=>(oI a 32)) else (oI a0 0)
def sI (a:((List Int))) (b:Int) (c:(List Int)):Option ((List Int)) :=
  chk ((a++[b]).length+c.length≤140737488355328 / 1) (some ((a++[b])++c))
def qJ (a:((List Int))) (b:Int) (c:(List Int)):Option ((List Int)) :=
  sI a b c
def sY (a:Int) (b:Int) (c:(List Int)):Option ((Int×(List Int)×Int)⊕(((List Int)))) :=
  ltt (IntKind.i64.wrap (a+1)) fun d=>(some (.inl (b,c,d)))
def qI (a:Int) (b:Int) (c:(List Int)):Option ((Int×(List Int)×Int)⊕(((List Int)))) :=
  sY a b c
def gX (f:(Int)) (g:Int) (h:Int) (a:Int) (c:(List Int)) (b:Int):Option ((Int×(List Int)×Int)⊕((Int×(List Int)))) :=
  if (decide (b<g))=true then (ltt (IntKind.i64.wrap (a.tdiv 8)) fun d=>((at_ c d).bind fun i=>(ltt (IntKind.i64.wrap (h - f)) fun j=>(ltt (IntKind.u64.wrap j) fun k=>(chk (0≤b) (ltt (bS .u64 k b) fun l=>(ltt (yX .u64 l 1) fun m=>(ltt (IntKind.u8.wrap m) fun n=>(ltt (a.tmod 8) fun e=>(chk (0≤e) (ltt (zE .u8 n e) fun o=>(ltt (ior .u8 i o) fun p=>(ltt (IntKind.i64.wrap (a+1)) fun q=>(ltt (IntKind.i64.wrap (b+1)) fun r=>(some (.inl (q,c.set d.toNat p,r))))))))))))))))) else (some (.inr (a,c)))
def iE (a1:(List Int)) (c:(Int)) (d:Int) (e:Int) (b:(List Int)) (a:Int):Option ((Int×(List Int)×Int)⊕(((List Int)))) :=
  if (decide (a<(a1.length:Int)))=true then ((at_ a1 a).bind fun f=>((loop (fun s=>gX c d f s.1 s.2.1 s.2.2) (e,b,0)).bind fun t=>qI a t.1 t.2)) else (some (.inr (b)))
def sJ (a0:(List Int)) (a1:(List Int)) (c:(Int)) (a:Int):Option ((List Int)) :=
  (pJ a0 c).bind fun d=>(ltt (IntKind.u8.wrap a) fun e=>(chk (d.length+[e].length≤140737488355328 / 1) (ltt (IntKind.i64.wrap ((a1.length:Int) * a)) fun f=>(ltt (IntKind.i64.wrap (f+7)) fun g=>(ltt (IntKind.i64.wrap (g.tdiv 8)) fun b=>(chk (0≤b∧(1:Int) * b≤140737488355328) ((loop (fun s=>iE a1 c a s.1 s.2.1 s.2.2) (0,List.replicate b.toNat (0:Int),0)).bind fun t=>qJ d e t)))))))
def pO (a0:(List Int)) (a1:(List Int)) (a:(Int)) (b:Int):Option ((List Int)) :=
  sJ a0 a1 a b
def iF (a1:(List Int)) (d:(Int)) (a:Int) (b:Int):Option ((Int×Int)⊕((Int))) :=
  if (decide (b<(a1.length:Int)))=true then ((at_ a1 b).bind fun e=>(ltt (IntKind.i64.wrap (e - d)) fun f=>(ltt (IntKind.u64.wrap f) fun g=>((wL g).bind fun c=>(ltt (IntKind.i64.wrap (b+1)) fun h=>(some (.inl (if a<c then c else a,h)))))))) else (some (.inr (a)))
def rS (a0:(List Int)) (a1:(List Int)):Option ((List Int)) :=
  if ((a1.length:Int)==0)=true then (some a0) else ((iC a1).bind fun a=>((loop (fun s=>iF a1 a s.1 s.2) (0,0)).bind fun t=>pO a0 a1 a t))
def gW (a:(List Int)):Option ((List Int)) :=
  some a
def vK (a:(List Int)):Option ((List Int)) :=
  gW a
def sQ (a:(List Int)):Option ((List Int)) :=
  vK a
def jY (a1:(List Int)) (b:(List Int)) (a:Int):Option (((List Int)×Int)⊕(((List Int)))) :=
  if (decide (a<(a1.length:Int)))=true then ((at_ a1 a).bind fun c=>((pJ b c).bind fun d=>(ltt (IntKind.i64.wrap (a+1)) fun e=>(some (.inl (d,e)))))) else (some (.inr (b)))
def vO (a:(List Int)):Option ((List Int)) :=
  gW a
def sX (a:(List Int)):Option ((List Int)) :=
  vO a
def jZ (a1:(List Int)) (b:(List Int)) (d:Int) (a:Int):Option (((List Int)×Int×Int)⊕(((List Int)))) :=
  if (decide (a<(a1.length:Int)))=true then ((at_ a1 a).bind fun c=>(ltt (IntKind.i64.wrap (c - d)) fun e=>((pJ b e).bind fun f=>(ltt (IntKind.i64.wrap (a+1)) fun g=>(some (.inl (f,c,g))))))) else (some (.inr (b)))
def vX (a:(List Int)):Option ((List Int)) :=
  gW a
def tF (a:(List Int)):Option ((List Int)) :=
  vX a
def vW (a1:(List Int)) (c:(List Int)) (a:Int) (b:Int):Option (((List Int)×Int)⊕(((List Int)))) :=
  (at_ a1 a).bind fun d=>((pJ c d).bind fun e=>(ltt (IntKind.i64.wrap (b - 1)) fun f=>(ltt (IntKind.u64.wrap f) fun g=>((kG e g).bind fun h=>(ltt (IntKind.i64.wrap (a+b)) fun i=>(some (.inl (h,i))))))))
def sH (a1:(List Int)) (a:(List Int)) (b:Int) (c:Int):Option (((List Int)×Int)⊕(((List Int)))) :=
  vW a1 a b c
def nP (a:Int) (b:Bool):Option ((Int)⊕((Int))) :=
  if b=true then (ltt (IntKind.i64.wrap (a+1)) fun c=>(some (.inl (c)))) else (some (.inr (a)))
def mF (a1:(List Int)) (b:Int) (a:Int):Option ((Int)⊕((Int))) :=
  ltt (IntKind.i64.wrap (b+a)) fun c=>(if (decide (c<(a1.length:Int)))=true then ((at_ a1 c).bind fun d=>((at_ a1 b).bind fun e=>(nP a (d==e)))) else (nP a false))
def lP (a1:(List Int)) (b:(List Int)) (a:Int):Option (((List Int)×Int)⊕(((List Int)))) :=
  if (decide (a<(a1.length:Int)))=true then ((loop (fun s=>mF a1 a s) (1)).bind fun t=>sH a1 b a t) else (some (.inr (b)))
def tY (a0:Int) (a1:(List Int)):Option ((List Int)) :=
  ltt (IntKind.u64.wrap (a1.length:Int)) fun b=>((kG [a0] b).bind fun a=>(if (a0==0)=true then ((loop (fun s=>jY a1 s.1 s.2) (a,0)).bind fun t=>sQ t) else (if (a0==1)=true then ((loop (fun s=>jZ a1 s.1 s.2.1 s.2.2) (a,0,0)).bind fun t=>sX t) else (if (a0==2)=true then ((loop (fun s=>lP a1 s.1 s.2) (a,0)).bind fun t=>tF t) else (if (a0==3)=true then ((rS a a1).bind fun c=>(gW c)) else (gW a))))))
def wP (a:(List Int)):Option ((List Int)) :=
  some a
def uC (a:(List Int)):Option ((List Int)) :=
  wP a
def pH (a:Int) (b:(List Int)):Option (((List Int)×Int)⊕(((List Int)))) :=
  ltt (IntKind.u8.wrap (a+1)) fun c=>(some (.inl (b,c)))
def fI (a0:(List Int)) (b:(List Int)) (a:Int):Option (((List Int)×Int)⊕(((List Int)))) :=
  if (decide (a≤3))=true then ((tY a a0).bind fun c=>(if (decide ((c.length:Int)<(b.length:Int)))=true then (pH a c) else (pH a b))) else (some (.inr (b)))
def lX (a0:(List Int)):Option ((List Int)) :=
  (tY 0 a0).bind fun a=>((loop (fun s=>fI a0 s.1 s.2) (a,1)).bind fun t=>uC t)
end
section
variable {r:World} {L:List HP} {w:World} {Z:Nat→Prop} {wz:World}
theorem qZ {a0 a1 A0 n0 c0 y} (G:kG a0 a1=some y) (X:SH r (own (kI .u8) 5 A0 n0 c0 a0::L) w) :
  Ret Tryz.prog 88 #[.slice A0 n0 c0,.int .u64 a1] w fun v w'=>∃ (B0:Option Addr) (m0:Nat) (d0:Nat),v=.slice B0 m0 d0∧SH r (own (kI .u8) 5 B0 m0 d0 y::L) w':=by
 refine enter Tryz.func88 rfl Tryz.ntmps88 [(0,_),(1,_)] rfl (by simp) ?_
 intro U J Qf hQ hQn
 unfold kG at G
 refine nz 1 J rfl fun U J=>wp_seq_k fun a3 z=>aA fun t A=>?_
 have hb1:∀m n,sC m n=some y→∀o p q U w,FR 20 [] U [(0,.slice o p q),(1,.int .u64 n)]→SH r (own (kI .u8) 5 o p q m::L) w→t U w:=by
  intro m n G o p q U w J X
  unfold sC at G
  refine A _ _ (z _ _ ?_)
  refine ws fun a4 B=>xk 2 J rfl fun U J=>gQ G J (aY mE uu5 rfl (J.ev rfl)) rfl fun c _ U J G=>iM (d:=(kI .u8)) (e:=5) (ps:=#[(0,.int .u8 c)]) (cells:=[.int .u8 c]) (xs:=[c]) (fun w=>by kernel_rfl) rfl ⟨[.int .u8 c],_,rfl,rfl,rfl⟩ J X (fun a5 U w X J=>?_) rfl
  obtain⟨C,G⟩:=aB G
  have hr:=X.rd 0 rfl
  refine gH 1 aC6 fE J X hr.1 hr.2.1 C rfl (fun D E F U w X J=>?_) rfl
  refine x_m J rfl fun U J=>wn (B _ _ ?_)
  replace X:=X.drop 1
  cases G
  refine wp_ret (hQ _ _ ?_)
  exact lv Tryz.results88 J rfl ⟨D,E,F,rfl,X⟩
 obtain⟨H,I,G⟩:=bnd G
 have K:∀a b,(a,b)=H→∀f g h U w,FR 20 [] U [(0,.slice f g h),(1,.int .u64 b)]→SH r (own (kI .u8) 5 f g h a::L) w→t U w:=by
  intro a b ht f g h U w J X
  subst ht
  replace G:qE a b=some y:=G
  unfold qE at G
  exact hb1 a b G f g h U w (J.sub _ rfl) X
 refine aD I (fun s U w=>∃i j k,FR 20 [] U [(0,.slice i j k),(1,.int .u64 s.2)]∧SH r (own (kI .u8) 5 i j k s.1::L) w) ⟨A0,n0,c0,J.sub _ rfl,X⟩ ?_
 intro a6 M N G O P U w hLab
 obtain⟨u,x⟩:=M
 replace G:kY u x=some N:=G
 unfold kY at G
 try dsimp only at hLab
 obtain⟨i,j,k,J,X⟩:=hLab
 refine wp_seq_k fun a7 Q=>nz 2 J rfl fun U J=>bA J G rfl (fun R G=>?_) fun R G=>?_
 ·refine wp_skip (Q _ _ ?_)
  refine wp_seq_k fun a8 S=>aA fun a9 T=>aC (xk 2 J rfl fun U J=>?_)
  refine gQ G J (aY mE uu5 rfl (J.ev rfl)) rfl fun b1 _ U J G=>x_l G J rfl fun l _ U J G=>iM (d:=(kI .u8)) (e:=5) (ps:=#[(0,.int .u8 l)]) (cells:=[.int .u8 l]) (xs:=[l]) (fun w=>by kernel_rfl) rfl ⟨[.int .u8 l],_,rfl,rfl,rfl⟩ J X (fun b2 U w X J=>?_) rfl
  obtain⟨W,G⟩:=aB G
  have hr:=X.rd 0 rfl
  refine gH 1 aC6 fE J X hr.1 hr.2.1 W rfl (fun Y Z a2 U w X J=>?_) rfl
  refine x_m J rfl fun U J=>wpList_nil (T _ _ ?_)
  refine S _ _ (aC ?_)
  refine x_m J rfl fun U J=>gQ G J (qV rfl (J.ev rfl) (J.ev rfl) (by decide)) rfl fun b3 _ U J G=>x_m J rfl fun U J=>wpList_nil ?_
  replace X:=X.drop 1
  cases G
  exact⟨_,O _ rfl,Y,Z,a2,J.sub _ rfl,X⟩
 cases G
 exact wp_exit (K u x (P _ rfl) i j k U w (J.sub _ rfl) X)
theorem vI {a0 a1 A0 n0 c0 y} (G:pJ a0 a1=some y) (X:SH r (own (kI .u8) 5 A0 n0 c0 a0::L) w) :
  Ret Tryz.prog 110 #[.slice A0 n0 c0,.int .i64 a1] w fun v w'=>∃ (B0:Option Addr) (m0:Nat) (d0:Nat),v=.slice B0 m0 d0∧SH r (own (kI .u8) 5 B0 m0 d0 y::L) w':=by
 refine enter Tryz.func110 rfl Tryz.ntmps110 [(0,_),(1,_)] rfl (by simp) ?_
 intro U J Qf hQ hQn
 unfold pJ at G
 refine nz 1 J rfl fun U J=>ws fun f a=>xk 2 J rfl fun U J=>gQ G J (aGj rfl (J.ev rfl) (J.ev rfl) (by decide)) rfl fun g _ U J G=>gQ G J (aY uu2 mE rfl (J.ev rfl)) rfl fun h _ U J G=>x_m J rfl fun U J=>gQ G J (qV rfl (J.ev rfl) (J.ev rfl) (by decide)) rfl fun i _ U J G=>gQ G J (aY uu2 mE rfl (J.ev rfl)) rfl fun j _ U J G=>x_l G J rfl fun k _ U J G=>?_
 obtain⟨l,b,G⟩:=bnd G
 refine x_c aRc J rfl (qZ b X :) fun v U w hR J=>?_
 obtain⟨c,d,e,rfl,X⟩:=hR
 refine x_m J rfl fun U J=>wn (a _ _ ?_)
 cases G
 refine wp_ret (hQ _ _ ?_)
 exact lv Tryz.results110 J rfl ⟨c,d,e,rfl,X⟩
theorem aBf {a0 a1 A0 n0 c0 y} (G:pM a0 a1=some y) (X:SH r (own (kI .u8) 5 A0 n0 c0 a0::L) w) :
  Ret Tryz.prog 69 #[.slice A0 n0 c0,str a1] w fun v w'=>∃ (B0:Option Addr) (m0:Nat) (d0:Nat),v=.slice B0 m0 d0∧SH r (own (kI .u8) 5 B0 m0 d0 y::L) w':=by
 refine enter Tryz.func69 rfl Tryz.ntmps69 [(0,_),(1,_)] rfl (by simp) ?_
 intro U J Qf hQ hQn
 unfold pM at G
 refine nz 1 J rfl fun U J=>ws fun g a=>xk 2 J rfl fun U J=>x_v J (aAb uu9 rfl (J.ev rfl)) rfl fun U J=>gQ G J (aY uu3 mE rfl (J.ev rfl)) rfl fun h _ U J G=>?_
 obtain⟨i,b,G⟩:=bnd G
 refine x_c aRc J rfl (qZ b X :) fun v U w hR J=>?_
 obtain⟨j,k,l,rfl,X⟩:=hR
 refine x_m J rfl fun U J=>?_
 obtain⟨c,G⟩:=aB G
 refine aS9 0 aC6 fE uu9 J X c rfl (fun d e f U w X J=>?_) rfl
 refine x_m J rfl fun U J=>wn (a _ _ ?_)
 cases G
 refine wp_ret (hQ _ _ ?_)
 exact lv Tryz.results69 J rfl ⟨d,e,f,rfl,X⟩
theorem xS {a0 A0 n0 c0 y} (G:iC a0=some y) (X:SH r (L) w) (ha0:RdL L (kI .i64) A0 n0 c0 a0) :
  Ret Tryz.prog 130 #[.slice A0 n0 c0] w fun v w'=>v=.int .i64 y∧SH r (L) w':=by
 refine enter Tryz.func130 rfl Tryz.ntmps130 [(0,_)] rfl (by simp) ?_
 intro U J Qf hQ hQn
 unfold iC at G
 refine nz 1 J rfl fun U J=>wp_seq_k fun H g=>ws fun I h=>xk 1 J rfl fun U J=>aU bM (X.rdl 0 ha0 rfl).2.1 J (fun U J=>?_) rfl
 refine nk 1 J rfl fun U J=>h _ _ (bA J G rfl (fun i G=>?_) fun i G=>?_)
 ·refine aC (x_v J (aNv uu9 rfl rfl (J.ev rfl)) rfl fun U J=>?_)
  cases G
 refine wp_skip (g _ _ ?_)
 refine ws fun K j=>xk 1 J rfl fun U J=>?_
 obtain⟨M,c,G⟩:=bnd G
 refine fG bM sz2 (X.rdl 0 ha0 rfl) c J (fun U J=>?_) rfl
 obtain⟨cs,hV,k⟩:=el (X.rdl 0 ha0 rfl) c
 obtain rfl:=hV
 refine aH uu2 (k 0 _ rfl) J (fun U J=>?_) rfl
 refine x_m J rfl fun U J=>wn (j _ _ ?_)
 refine wp_seq_k fun N l=>nz 1 J rfl fun U J=>aA fun d m=>?_
 have hb1:∀b,lJ b=some y→∀U w,FR 25 [] U [(3,.int .i64 b)]→SH r (L) w→d U w:=by
  intro b G U w J X
  unfold lJ at G
  refine m _ _ (l _ _ ?_)
  refine nz 2 J rfl fun U J=>?_
  cases G
  refine wp_ret (hQ _ _ ?_)
  exact lv Tryz.results130 J rfl ⟨rfl,X⟩
 obtain⟨n,o,G⟩:=bnd G
 have p:∀a,(a)=n→∀U w,FR 25 [] U [(3,.int .i64 a)]→SH r (L) w→d U w:=by
  intro a ht U w J X
  subst ht
  replace G:jV a=some y:=G
  unfold jV at G
  exact hb1 a G U w (J.sub _ rfl) X
 refine aD o (fun s U w=>FR 25 [] U [(0,.slice A0 n0 c0),(3,.int .i64 s.1),(4,.int .i64 s.2)]∧SH r (L) w) ⟨J.sub _ rfl,X⟩ ?_
 intro O q t G u x U w hLab
 obtain⟨e,z⟩:=q
 replace G:cJ a0 e z=some t:=G
 unfold cJ at G
 try dsimp only at hLab
 obtain⟨J,X⟩:=hLab
 refine wp_seq_k fun P A=>ws fun Q B=>xk 2 J rfl fun U J=>aU bM (X.rdl 0 ha0 rfl).2.1 J (fun U J=>?_) rfl
 refine nk 1 J rfl fun U J=>B _ _ (bA J G rfl (fun C G=>?_) fun C G=>?_)
 ·refine wp_skip (A _ _ ?_)
  refine wp_seq_k fun R D=>aA fun S E=>aC (xk 3 J rfl fun U J=>?_)
  obtain⟨T,f,G⟩:=bnd G
  refine fG bM sz2 (X.rdl 0 ha0 rfl) f J (fun U J=>?_) rfl
  obtain⟨cs,hV,F⟩:=el (X.rdl 0 ha0 rfl) f
  obtain rfl:=hV
  refine aH uu2 (F 0 _ rfl) J (fun U J=>?_) rfl
  refine x_v J (aJa rfl (J.ev rfl) (J.ev rfl)) rfl fun U J=>x_m J rfl fun U J=>wpList_nil (E _ _ ?_)
  refine D _ _ (aC ?_)
  refine x_m J rfl fun U J=>x_l G J rfl fun W _ U J G=>x_m J rfl fun U J=>wpList_nil ?_
  cases G
  exact⟨_,u _ rfl,J.sub _ rfl,X⟩
 cases G
 exact wp_exit (p e (x _ rfl) U w (J.sub _ rfl) X)
theorem aIy {a0 y} (G:wL a0=some y) (X:SH r (L) w) :
  Ret Tryz.prog 126 #[.int .u64 a0] w fun v w'=>v=.int .i64 y∧SH r (L) w':=by
 refine enter Tryz.func126 rfl Tryz.ntmps126 [(0,_)] rfl (by simp) ?_
 intro U J Qf hQ hQn
 unfold wL at G
 refine nz 1 J rfl fun U J=>wp_seq_k fun h i=>?_
 have hj1:∀a b,oI a b=some y→∀U w,FR 25 [] U [(0,.int .u64 a),(2,.int .i64 b)]→SH r (L) w→h U w:=by
  intro a b G U w J X
  unfold oI at G
  refine i _ _ (wp_seq_k fun j k=>?_)
  have hj2:∀c d,oE c d=some y→∀U w,FR 25 [] U [(0,.int .u64 c),(2,.int .i64 d)]→SH r (L) w→j U w:=by
   intro c d G U w J X
   unfold oE at G
   refine k _ _ (wp_seq_k fun l m=>?_)
   have hj3:∀e f,oG e f=some y→∀U w,FR 25 [] U [(0,.int .u64 e),(2,.int .i64 f)]→SH r (L) w→l U w:=by
    intro e f G U w J X
    unfold oG at G
    refine m _ _ (ws fun D n=>?_)
    refine xk 2 J rfl fun U J=>gQ G J (aY mE uu5 rfl (J.ev rfl)) rfl fun E _ U J G=>?_
    obtain⟨F,g,G⟩:=bnd G
    refine x_v J (aK8 uu9 rfl (J.ev rfl) (J.ev rfl) (dQ g).1 (dQ g).2.2) rfl fun U J=>gQ G J (aY uu5 uu3 rfl (J.ev rfl)) rfl fun H _ U J G=>x_l G J rfl fun I _ U J G=>x_m J rfl fun U J=>wn (n _ _ ?_)
    cases G
    refine wp_ret (hQ _ _ ?_)
    exact lv Tryz.results126 J rfl ⟨rfl,X⟩
   refine nz 2 J rfl fun U J=>bA J G rfl (fun o G=>?_) fun o G=>?_
   ·refine ws fun K p=>xk 1 J rfl fun U J=>gQ G J (qV rfl (J.ev rfl) (J.ev rfl) (by decide)) rfl fun q _ U J G=>x_m J rfl fun U J=>wn (p _ _ ?_)
    refine aC (x_m J rfl fun U J=>?_)
    exact x_l G J rfl fun s _ U J G=>x_m J rfl fun U J=>wpList_nil (hj3 q s G U w (J.sub _ rfl) X)
   exact wp_skip (hj3 c d G U w (J.sub _ rfl) X)
  refine nz 2 J rfl fun U J=>bA J G rfl (fun t G=>?_) fun t G=>?_
  ·refine ws fun M u=>xk 1 J rfl fun U J=>gQ G J (qV rfl (J.ev rfl) (J.ev rfl) (by decide)) rfl fun x _ U J G=>x_m J rfl fun U J=>wn (u _ _ ?_)
   refine aC (x_m J rfl fun U J=>?_)
   exact x_l G J rfl fun z _ U J G=>x_m J rfl fun U J=>wpList_nil (hj2 x z G U w (J.sub _ rfl) X)
  exact wp_skip (hj2 a b G U w (J.sub _ rfl) X)
 refine nz 2 J rfl fun U J=>bA J G rfl (fun A G=>?_) fun A G=>?_
 ·refine ws fun N B=>xk 1 J rfl fun U J=>gQ G J (qV rfl (J.ev rfl) (J.ev rfl) (by decide)) rfl fun C _ U J G=>x_m J rfl fun U J=>wn (B _ _ ?_)
  refine aC (x_m J rfl fun U J=>?_)
  exact wpList_nil (hj1 C 32 G U w (J.sub _ rfl) X)
 exact wp_skip (hj1 a0 0 G U w (J.sub _ rfl) X)
theorem aGz {a0 a1 A0 n0 c0 A1 n1 c1 y} (G:rS a0 a1=some y) (X:SH r (own (kI .u8) 5 A0 n0 c0 a0::L) w) (ha1:RdL L (kI .i64) A1 n1 c1 a1) :
  Ret Tryz.prog 111 #[.slice A0 n0 c0,.slice A1 n1 c1] w fun v w'=>∃ (B0:Option Addr) (m0:Nat) (d0:Nat),v=.slice B0 m0 d0∧SH r (own (kI .u8) 5 B0 m0 d0 y::L) w':=by
 refine enter Tryz.func111 rfl Tryz.ntmps111 [(0,_),(1,_)] rfl (by simp) ?_
 intro U J Qf hQ hQn
 unfold rS at G
 refine nz 1 J rfl fun U J=>wp_seq_k fun i4 T=>ws fun i5 W=>xk 1 J rfl fun U J=>aU bM (X.rdl 1 ha1 rfl).2.1 J (fun U J=>?_) rfl
 refine nk 1 J rfl fun U J=>W _ _ (bA J G rfl (fun Y G=>?_) fun Y G=>?_)
 ·refine nz 2 J rfl fun U J=>?_
  cases G
  refine wp_ret (hQ _ _ ?_)
  exact lv Tryz.results111 J rfl ⟨A0,n0,c0,rfl,X⟩
 refine wp_skip (T _ _ ?_)
 refine ws fun i6 Z=>xk 1 J rfl fun U J=>?_
 obtain⟨f,a2,G⟩:=bnd G
 refine x_c aX7 J rfl (xS a2 X (RdL.sfx 1 rfl ha1) :) fun v U w hR J=>?_
 obtain⟨rfl,X⟩:=hR
 refine x_m J rfl fun U J=>wn (Z _ _ ?_)
 refine nz 1 J rfl fun U J=>wp_seq_k fun i7 a3=>ws fun i8 a4=>xk 1 J rfl fun U J=>aU bM (X.rdl 1 ha1 rfl).2.1 J (fun U J=>?_) rfl
 refine x_m J rfl fun U J=>wn (a4 _ _ ?_)
 refine aA fun H a5=>?_
 have hb1:∀l,sJ a0 a1 f l=some y→∀U w,FR 83 [] U [(0,.slice A0 n0 c0),(1,.slice A1 n1 c1),(5,.int .i64 f),(6,.int .i64 l)]→SH r (own (kI .u8) 5 A0 n0 c0 a0::L) w→H U w:=by
  intro l G U w J X
  unfold sJ at G
  refine a5 _ _ (a3 _ _ ?_)
  refine ws fun i9 a6=>xk 2 J rfl fun U J=>?_
  obtain⟨m,a7,G⟩:=bnd G
  refine x_c aN4 J rfl (vI a7 X :) fun v U w hR J=>?_
  obtain⟨j0,j1,j2,rfl,X⟩:=hR
  refine x_m J rfl fun U J=>gQ G J (aY uu3 uu5 rfl (J.ev rfl)) rfl fun g _ U J G=>iM (d:=(kI .u8)) (e:=5) (ps:=#[(0,.int .u8 g)]) (cells:=[.int .u8 g]) (xs:=[g]) (fun w=>by kernel_rfl) rfl ⟨[.int .u8 g],_,rfl,rfl,rfl⟩ J X (fun j3 U w X J=>?_) rfl
  obtain⟨a8,G⟩:=aB G
  have hr:=X.rd 0 rfl
  refine gH 1 aC6 fE J X hr.1 hr.2.1 a8 rfl (fun i j k U w X J=>?_) rfl
  refine x_m J rfl fun U J=>wn (a6 _ _ ?_)
  refine nz 1 J rfl fun U J=>ws fun j4 a9=>xk 1 J rfl fun U J=>aU bM (X.rdl 2 ha1 rfl).2.1 J (fun U J=>?_) rfl
  refine x_m J rfl fun U J=>x_l G J rfl fun j5 _ U J G=>x_l G J rfl fun j6 _ U J G=>gQ G J (aGa rfl (J.ev rfl) (J.ev rfl) (by decide)) rfl fun a _ U J G=>?_
  obtain⟨b1,G⟩:=aB G
  refine aF7 (d:=(kI .u8)) (bytes:=1) 0 aC6 rfl fE b1 J X (fun b U w X J=>?_) rfl
  refine x_m J rfl fun U J=>wn (a9 _ _ ?_)
  refine wp_seq_k fun j7 b2=>ws fun j8 b3=>xk 1 J rfl fun U J=>aU bM (X.rdl 3 ha1 rfl).2.1 J (fun U J=>?_) rfl
  refine x_m J rfl fun U J=>wn (b3 _ _ ?_)
  refine aA fun I b4=>?_
  have hb2:∀z,sI m g z=some y→∀U w,FR 83 [] U [(0,.slice i j k),(10,.slice (some ⟨b,0,none⟩) a.toNat a.toNat)]→SH r (own (kI .u8) 5 i j k (m++[g])::own (kI .u8) 5 (some ⟨b,0,none⟩) a.toNat a.toNat z::L) w→I U w:=by
   intro z G U w J X
   unfold sI at G
   refine b4 _ _ (b2 _ _ ?_)
   refine ws fun j9 b5=>xk 2 J rfl fun U J=>?_
   obtain⟨b6,G⟩:=aB G
   have hr:=X.rd 1 rfl
   refine gH 0 aC6 fE J X hr.1 hr.2.1 b6 rfl (fun b7 b8 b9 U w X J=>?_) rfl
   refine x_m J rfl fun U J=>wn (b5 _ _ ?_)
   replace X:=X.drop 1
   cases G
   refine wp_ret (hQ _ _ ?_)
   exact lv Tryz.results111 J rfl ⟨b7,b8,b9,rfl,X⟩
  obtain⟨c2,c3,G⟩:=bnd G
  have c4:∀o,(o)=c2→∀U w,FR 83 [] U [(0,.slice i j k),(10,.slice (some ⟨b,0,none⟩) a.toNat a.toNat)]→SH r (own (kI .u8) 5 i j k (m++[g])::own (kI .u8) 5 (some ⟨b,0,none⟩) a.toNat a.toNat o::L) w→I U w:=by
   intro o ht U w J X
   subst ht
   replace G:qJ m g o=some y:=G
   unfold qJ at G
   exact hb2 o G U w (J.sub _ rfl) X
  replace X:=X.drop 2 |>.pk 1
  refine aD c3 (fun s U w=>FR 83 [] U [(0,.slice i j k),(5,.int .i64 f),(6,.int .i64 l),(9,.int .i64 s.1),(10,.slice (some ⟨b,0,none⟩) a.toNat a.toNat),(48,.slice A1 n1 c1),(49,.int .i64 (a1.length:Int)),(50,.int .i64 s.2.2)]∧SH r (own (kI .u8) 5 i j k (m++[g])::own (kI .u8) 5 (some ⟨b,0,none⟩) a.toNat a.toNat s.2.1::L) w) ⟨J.sub _ rfl,X⟩ ?_
  intro k0 c5 A G c6 c7 U w hLab
  obtain⟨c8,M,n⟩:=c5
  replace G:iE a1 f l c8 M n=some A:=G
  unfold iE at G
  try dsimp only at hLab
  obtain⟨J,X⟩:=hLab
  refine nz 1 J rfl fun U J=>wp_seq_k fun k1 c9=>bA J G rfl (fun d1 G=>?_) fun d1 G=>?_
  ·refine wp_skip (c9 _ _ ?_)
   refine wp_seq_k fun k2 d2=>aA fun k3 d3=>ws fun k4 d4=>?_
   obtain⟨B,N,G⟩:=bnd G
   refine fG bM sz2 (X.rdl 2 ha1 rfl) N J (fun U J=>?_) rfl
   obtain⟨cs,hV,d5⟩:=el (X.rdl 2 ha1 rfl) N
   obtain rfl:=hV
   refine aH uu2 (d5 0 _ rfl) J (fun U J=>?_) rfl
   refine x_m J rfl fun U J=>wn (d4 _ _ ?_)
   refine nz 2 J rfl fun U J=>aA fun O d6=>?_
   have hb3:∀C D,sY n C D=some A→∀U w,FR 83 [] U [(0,.slice i j k),(5,.int .i64 f),(6,.int .i64 l),(9,.int .i64 C),(10,.slice (some ⟨b,0,none⟩) a.toNat a.toNat),(48,.slice A1 n1 c1),(49,.int .i64 (a1.length:Int)),(50,.int .i64 n)]→SH r (own (kI .u8) 5 i j k (m++[g])::own (kI .u8) 5 (some ⟨b,0,none⟩) a.toNat a.toNat D::L) w→O U w:=by
    intro C D G U w J X
    unfold sY at G
    refine d6 _ _ (d3 _ _ ?_)
    refine d2 _ _ (aC ?_)
    refine x_l G J rfl fun k5 _ U J G=>x_m J rfl fun U J=>wpList_nil ?_
    cases G
    exact⟨_,c6 _ rfl,J.sub _ rfl,X⟩
   obtain⟨d7,d8,G⟩:=bnd G
   have d9:∀p q,(p,q)=d7→∀U w,FR 83 [] U [(0,.slice i j k),(5,.int .i64 f),(6,.int .i64 l),(9,.int .i64 p),(10,.slice (some ⟨b,0,none⟩) a.toNat a.toNat),(48,.slice A1 n1 c1),(49,.int .i64 (a1.length:Int)),(50,.int .i64 n)]→SH r (own (kI .u8) 5 i j k (m++[g])::own (kI .u8) 5 (some ⟨b,0,none⟩) a.toNat a.toNat q::L) w→O U w:=by
    intro p q ht U w J X
    subst ht
    replace G:qI n p q=some A:=G
    unfold qI at G
    exact hb3 p q G U w (J.sub _ rfl) X
   refine aD d8 (fun s U w=>FR 83 [] U [(0,.slice i j k),(5,.int .i64 f),(6,.int .i64 l),(9,.int .i64 s.1),(10,.slice (some ⟨b,0,none⟩) a.toNat a.toNat),(12,.int .i64 B),(48,.slice A1 n1 c1),(49,.int .i64 (a1.length:Int)),(50,.int .i64 n),(54,.int .i64 l),(55,.int .i64 s.2.2)]∧SH r (own (kI .u8) 5 i j k (m++[g])::own (kI .u8) 5 (some ⟨b,0,none⟩) a.toNat a.toNat s.2.1::L) w) ⟨J.sub _ rfl,X⟩ ?_
   intro k6 e0 e1 G e2 e3 U w hLab
   obtain⟨u,P,Q⟩:=e0
   replace G:gX f l B u P Q=some e1:=G
   unfold gX at G
   try dsimp only at hLab
   obtain⟨J,X⟩:=hLab
   refine nz 1 J rfl fun U J=>wp_seq_k fun k7 e4=>bA J G rfl (fun e5 G=>?_) fun e5 G=>?_
   ·refine wp_skip (e4 _ _ ?_)
    refine wp_seq_k fun k8 e6=>aA fun k9 e7=>nz 2 J rfl fun U J=>wp_seq_k fun l0 e8=>cP [0,0,2,7,15,0,0,96,224,0,992,2016,4064,0,8192,32736,65535,131071,262143] [18] rfl J X (by kernel_rfl) (by kernel_rfl) (by kernel_rfl) (by kernel_rfl) fun w X=>?_
    obtain⟨E,e9,G⟩:=nO G
    obtain⟨f0,x,G⟩:=bnd G
    obtain⟨cs,hV,f1⟩:=el (X.rd 1 rfl) x
    obtain rfl:=hV
    obtain⟨f2,f3,G⟩:=nO G
    obtain⟨f4,f5,G⟩:=nO G
    obtain⟨f6,G⟩:=aB G
    obtain⟨f7,f8,G⟩:=nO G
    obtain⟨f9,g0,G⟩:=nO G
    obtain⟨g1,g2,G⟩:=nO G
    obtain⟨g3,g4,G⟩:=nO G
    obtain⟨g5,G⟩:=aB G
    obtain⟨g6,g7,G⟩:=nO G
    obtain⟨F,g8,G⟩:=nO G
    refine⟨[(0,.slice (some ⟨b,0,none⟩) a.toNat a.toNat),(1,.int .i64 u),(2,.int .i64 E),(3,.pointer (some (ea (some ⟨b,0,none⟩) (E.toNat * 1)))),(4,.int .u8 f0),(5,.int .i64 B),(6,.int .i64 f),(7,.int .i64 f2),(8,.int .u64 f4),(9,.int .i64 Q),(10,.int .u64 f7),(11,.int .u64 f9),(12,.int .u8 g1),(13,.int .i64 u),(14,.int .i64 g3),(15,.int .u8 g6),(16,.int .u8 F),(17,.pointer (some (ea (some ⟨b,0,none⟩) (E.toNat * 1))))],?_⟩
    refine dF [0,1,2,3,4,5,6,7,8,9,10,11,12,13,14,15,16,17] [18] (by kernel_rfl) ⟨pm rfl,pm rfl,pt [(59,_)] rfl fun U J=>kQ e9 (aGa rfl (J.ev rfl) (J.ev rfl) (by decide)),pt [(58,_),(60,_)] rfl (fun U J=>fH fE sz5 (X.rd 1 rfl) x J rfl rfl rfl),pt [(61,_)] rfl (fun U J=>cM uu5 (f1 0 _ rfl) J rfl rfl rfl),pm rfl,pm rfl,pt [(63,_),(64,_)] rfl fun U J=>kQ f3 (oZ rfl (J.ev rfl) (J.ev rfl)),pt [(65,_)] rfl fun U J=>kQ f5 (aY uu2 mE rfl (J.ev rfl)),pm rfl,pt [(66,_),(67,_)] rfl fun U J=>kQ f8 (qV rfl (J.ev rfl) (J.ev rfl) f6),pt [(68,_)] rfl fun U J=>kQ g0 (aVa rfl (J.ev rfl) (J.ev rfl)),pt [(69,_)] rfl fun U J=>kQ g2 (aY mE uu5 rfl (J.ev rfl)),pm rfl,pt [(71,_)] rfl fun U J=>kQ g4 (aHg rfl (J.ev rfl) (J.ev rfl) (by decide)),pt [(70,_),(72,_)] rfl fun U J=>kQ g7 (aGj rfl (J.ev rfl) (J.ev rfl) g5),pt [(62,_),(73,_)] rfl fun U J=>kQ g8 (aN8 rfl (J.ev rfl) (J.ev rfl)),pt [(58,_),(60,_)] rfl (fun U J=>fH fE sz5 (X.rd 1 rfl) x J rfl rfl rfl),trivial⟩ ⟨et [(74,_),(75,_)] rfl (fun U J K hK=>?_),trivial⟩
    refine xD (z':=F) (off:=0) (vs:=[.int .u8 F]) 1 sz5 J X rfl (dQ x).2.2 (fun c h=>by cases h; rfl) (fun  w X=>?_) rfl rfl rfl rfl rfl rfl
    refine hK _ [] _ rfl (gK [] (by kernel_rfl) trivial ⟨by kernel_rfl,by kernel_rfl⟩ [(0,_),(5,_),(6,_),(9,_),(10,_),(12,_),(48,_),(49,_),(50,_),(54,_),(55,_)] rfl (fun U J=>?_))
    refine e8 _ _ (aC ?_)
    refine x_m J rfl fun U J=>x_l G J rfl fun l1 _ U J G=>x_m J rfl fun U J=>wpList_nil (e7 _ _ ?_)
    refine e6 _ _ (aC ?_)
    refine x_l G J rfl fun l2 _ U J G=>x_m J rfl fun U J=>wpList_nil ?_
    replace X:=X.pk 1
    cases G
    exact⟨_,e2 _ rfl,J.sub _ rfl,X⟩
   cases G
   exact wp_exit (d9 u P (e3 _ rfl) U w (J.sub _ rfl) X)
  cases G
  exact wp_exit (c4 M (c7 _ rfl) U w (J.sub _ rfl) X)
 obtain⟨g9,h0,G⟩:=bnd G
 have h1:∀t,(t)=g9→∀U w,FR 83 [] U [(0,.slice A0 n0 c0),(1,.slice A1 n1 c1),(5,.int .i64 f),(6,.int .i64 t)]→SH r (own (kI .u8) 5 A0 n0 c0 a0::L) w→H U w:=by
  intro t ht U w J X
  subst ht
  replace G:pO a0 a1 f t=some y:=G
  unfold pO at G
  exact hb1 t G U w (J.sub _ rfl) X
 refine aD h0 (fun s U w=>FR 83 [] U [(0,.slice A0 n0 c0),(1,.slice A1 n1 c1),(5,.int .i64 f),(6,.int .i64 s.1),(20,.slice A1 n1 c1),(21,.int .i64 (a1.length:Int)),(22,.int .i64 s.2)]∧SH r (own (kI .u8) 5 A0 n0 c0 a0::L) w) ⟨J.sub _ rfl,X⟩ ?_
 intro l3 h2 h3 G h4 h5 U w hLab
 obtain⟨R,h6⟩:=h2
 replace G:iF a1 f R h6=some h3:=G
 unfold iF at G
 try dsimp only at hLab
 obtain⟨J,X⟩:=hLab
 refine nz 1 J rfl fun U J=>wp_seq_k fun l4 h7=>bA J G rfl (fun h8 G=>?_) fun h8 G=>?_
 ·refine wp_skip (h7 _ _ ?_)
  refine wp_seq_k fun l5 h9=>aA fun l6 i0=>ws fun l7 i1=>?_
  obtain⟨l8,S,G⟩:=bnd G
  refine fG bM sz2 (X.rdl 1 ha1 rfl) S J (fun U J=>?_) rfl
  obtain⟨cs,hV,i2⟩:=el (X.rdl 1 ha1 rfl) S
  obtain rfl:=hV
  refine aH uu2 (i2 0 _ rfl) J (fun U J=>?_) rfl
  refine x_m J rfl fun U J=>wn (i1 _ _ ?_)
  refine aC (xk 3 J rfl fun U J=>?_)
  refine x_l G J rfl fun l9 _ U J G=>gQ G J (aY uu2 mE rfl (J.ev rfl)) rfl fun m1 _ U J G=>?_
  obtain⟨m2,i3,G⟩:=bnd G
  refine x_c bAe J rfl (aIy i3 X :) fun v U w hR J=>?_
  obtain⟨rfl,X⟩:=hR
  refine x_v J (aWh rfl (J.ev rfl) (J.ev rfl)) rfl fun U J=>x_m J rfl fun U J=>wpList_nil (i0 _ _ ?_)
  refine h9 _ _ (aC ?_)
  refine x_l G J rfl fun m3 _ U J G=>x_m J rfl fun U J=>wpList_nil ?_
  cases G
  exact⟨_,h4 _ rfl,J.sub _ rfl,X⟩
 cases G
 exact wp_exit (h1 R (h5 _ rfl) U w (J.sub _ rfl) X)
theorem aD5 {a0 a1 A1 n1 c1 y} (G:tY a0 a1=some y) (X:SH r (L) w) (ha1:RdL L (kI .i64) A1 n1 c1 a1) :
  Ret Tryz.prog 84 #[.int .u8 a0,.slice A1 n1 c1] w fun v w'=>∃ (B0:Option Addr) (m0:Nat) (d0:Nat),v=.slice B0 m0 d0∧SH r (own (kI .u8) 5 B0 m0 d0 y::L) w':=by
 refine enter Tryz.func84 rfl Tryz.ntmps84 [(0,_),(1,_)] rfl (by simp) ?_
 intro U J Qf hQ hQn
 unfold tY at G
 refine nz 1 J rfl fun U J=>ws fun m2 d1=>xk 1 J rfl fun U J=>iM (d:=(kI .u8)) (e:=5) (ps:=#[(0,.int .u8 a0)]) (cells:=[.int .u8 a0]) (xs:=[a0]) (fun w=>by kernel_rfl) rfl ⟨[.int .u8 a0],_,rfl,rfl,rfl⟩ J X (fun m3 U w X J=>?_) rfl
 refine x_m J rfl fun U J=>aU bM (X.rdl 1 ha1 rfl).2.1 J (fun U J=>?_) rfl
 refine gQ G J (aY uu3 mE rfl (J.ev rfl)) rfl fun m4 _ U J G=>?_
 obtain⟨d2,d3,G⟩:=bnd G
 refine x_c aRc J rfl (qZ d3 X :) fun v U w hR J=>?_
 obtain⟨t,u,x,rfl,X⟩:=hR
 refine x_m J rfl fun U J=>wn (d1 _ _ ?_)
 refine wp_seq_k fun m5 d4=>nz 1 J rfl fun U J=>aA fun d5 d6=>?_
 have hb1:∀b2,gW b2=some y→∀z A B U w,FR 93 [] U [(5,.slice z A B)]→SH r (own (kI .u8) 5 z A B b2::L) w→d5 U w:=by
  intro b2 G z A B U w J X
  unfold gW at G
  refine d6 _ _ (d4 _ _ ?_)
  refine nz 2 J rfl fun U J=>?_
  cases G
  refine wp_ret (hQ _ _ ?_)
  exact lv Tryz.results84 J rfl ⟨z,A,B,rfl,X⟩
 refine nz 2 J rfl fun U J=>bA J G rfl (fun d7 G=>?_) fun d7 G=>?_
 ·refine ws fun m6 d8=>xk 1 J rfl fun U J=>aU bM (X.rdl 1 ha1 rfl).2.1 J (fun U J=>?_) rfl
  refine x_m J rfl fun U J=>wn (d8 _ _ ?_)
  refine aA fun b7 d9=>?_
  have hb2:∀C,vK C=some y→∀D E F U w,FR 93 [] U [(5,.slice D E F)]→SH r (own (kI .u8) 5 D E F C::L) w→b7 U w:=by
   intro C G D E F U w J X
   unfold vK at G
   exact d9 _ _ (hb1 C G D E F U w (J.sub _ rfl) X)
  obtain⟨e0,e1,G⟩:=bnd G
  have e2:∀m,(m)=e0→∀H I K U w,FR 93 [] U [(5,.slice H I K)]→SH r (own (kI .u8) 5 H I K m::L) w→b7 U w:=by
   intro m ht H I K U w J X
   subst ht
   replace G:sQ m=some y:=G
   unfold sQ at G
   exact hb2 m G H I K U w (J.sub _ rfl) X
  refine aD e1 (fun s U w=>∃M N O,FR 93 [] U [(5,.slice M N O),(22,.slice A1 n1 c1),(23,.int .i64 (a1.length:Int)),(24,.int .i64 s.2)]∧SH r (own (kI .u8) 5 M N O s.1::L) w) ⟨t,u,x,J.sub _ rfl,X⟩ ?_
  intro m7 e3 e4 G e5 e6 U w hLab
  obtain⟨b8,e7⟩:=e3
  replace G:jY a1 b8 e7=some e4:=G
  unfold jY at G
  try dsimp only at hLab
  obtain⟨M,N,O,J,X⟩:=hLab
  refine nz 1 J rfl fun U J=>wp_seq_k fun m8 e8=>bA J G rfl (fun e9 G=>?_) fun e9 G=>?_
  ·refine wp_skip (e8 _ _ ?_)
   refine wp_seq_k fun m9 f0=>aA fun n0 f1=>ws fun n2 f2=>?_
   obtain⟨n3,b9,G⟩:=bnd G
   refine fG bM sz2 (X.rdl 1 ha1 rfl) b9 J (fun U J=>?_) rfl
   obtain⟨cs,hV,f3⟩:=el (X.rdl 1 ha1 rfl) b9
   obtain rfl:=hV
   refine aH uu2 (f3 0 _ rfl) J (fun U J=>?_) rfl
   refine x_m J rfl fun U J=>wn (f2 _ _ ?_)
   refine aC (xk 2 J rfl fun U J=>?_)
   obtain⟨n4,f4,G⟩:=bnd G
   refine x_c aN4 J rfl (vI f4 X :) fun v U w hR J=>?_
   obtain⟨f5,f6,f7,rfl,X⟩:=hR
   refine x_m J rfl fun U J=>wpList_nil (f1 _ _ ?_)
   refine f0 _ _ (aC ?_)
   refine x_l G J rfl fun n5 _ U J G=>x_m J rfl fun U J=>wpList_nil ?_
   cases G
   exact⟨_,e5 _ rfl,f5,f6,f7,J.sub _ rfl,X⟩
  cases G
  exact wp_exit (e2 b8 (e6 _ rfl) M N O U w (J.sub _ rfl) X)
 refine nz 2 J rfl fun U J=>bA J G rfl (fun f8 G=>?_) fun f8 G=>?_
 ·refine nz 1 J rfl fun U J=>ws fun n6 f9=>xk 1 J rfl fun U J=>aU bM (X.rdl 1 ha1 rfl).2.1 J (fun U J=>?_) rfl
  refine x_m J rfl fun U J=>wn (f9 _ _ ?_)
  refine aA fun c0 g0=>?_
  have hb3:∀P,vO P=some y→∀Q R S U w,FR 93 [] U [(5,.slice Q R S)]→SH r (own (kI .u8) 5 Q R S P::L) w→c0 U w:=by
   intro P G Q R S U w J X
   unfold vO at G
   exact g0 _ _ (hb1 P G Q R S U w (J.sub _ rfl) X)
  obtain⟨g1,g2,G⟩:=bnd G
  have g3:∀n,(n)=g1→∀T W Y U w,FR 93 [] U [(5,.slice T W Y)]→SH r (own (kI .u8) 5 T W Y n::L) w→c0 U w:=by
   intro n ht T W Y U w J X
   subst ht
   replace G:sX n=some y:=G
   unfold sX at G
   exact hb3 n G T W Y U w (J.sub _ rfl) X
  refine aD g2 (fun s U w=>∃Z a2 a3,FR 93 [] U [(5,.slice Z a2 a3),(8,.int .i64 s.2.1),(34,.slice A1 n1 c1),(35,.int .i64 (a1.length:Int)),(36,.int .i64 s.2.2)]∧SH r (own (kI .u8) 5 Z a2 a3 s.1::L) w) ⟨t,u,x,J.sub _ rfl,X⟩ ?_
  intro n7 g4 g5 G g6 g7 U w hLab
  obtain⟨c2,g8,g9⟩:=g4
  replace G:jZ a1 c2 g8 g9=some g5:=G
  unfold jZ at G
  try dsimp only at hLab
  obtain⟨Z,a2,a3,J,X⟩:=hLab
  refine nz 1 J rfl fun U J=>wp_seq_k fun n8 h0=>bA J G rfl (fun h1 G=>?_) fun h1 G=>?_
  ·refine wp_skip (h0 _ _ ?_)
   refine wp_seq_k fun n9 h2=>aA fun o0 h3=>ws fun o1 h4=>?_
   obtain⟨o2,c3,G⟩:=bnd G
   refine fG bM sz2 (X.rdl 1 ha1 rfl) c3 J (fun U J=>?_) rfl
   obtain⟨cs,hV,h5⟩:=el (X.rdl 1 ha1 rfl) c3
   obtain rfl:=hV
   refine aH uu2 (h5 0 _ rfl) J (fun U J=>?_) rfl
   refine x_m J rfl fun U J=>wn (h4 _ _ ?_)
   refine ws fun o3 h6=>xk 3 J rfl fun U J=>x_l G J rfl fun o4 _ U J G=>?_
   obtain⟨o5,h7,G⟩:=bnd G
   refine x_c aN4 J rfl (vI h7 X :) fun v U w hR J=>?_
   obtain⟨h8,h9,i0,rfl,X⟩:=hR
   refine x_m J rfl fun U J=>wn (h6 _ _ ?_)
   refine aC (nk 2 J rfl fun U J=>?_)
   refine h3 _ _ (h2 _ _ ?_)
   refine aC (x_l G J rfl fun o6 _ U J G=>?_)
   refine x_m J rfl fun U J=>wpList_nil ?_
   cases G
   exact⟨_,g6 _ rfl,h8,h9,i0,J.sub _ rfl,X⟩
  cases G
  exact wp_exit (g3 c2 (g7 _ rfl) Z a2 a3 U w (J.sub _ rfl) X)
 refine nz 2 J rfl fun U J=>bA J G rfl (fun i1 G=>?_) fun i1 G=>?_
 ·refine nz 1 J rfl fun U J=>aA fun c4 i2=>?_
  have hb4:∀a4,vX a4=some y→∀a5 a6 a7 U w,FR 93 [] U [(5,.slice a5 a6 a7)]→SH r (own (kI .u8) 5 a5 a6 a7 a4::L) w→c4 U w:=by
   intro a4 G a5 a6 a7 U w J X
   unfold vX at G
   exact i2 _ _ (hb1 a4 G a5 a6 a7 U w (J.sub _ rfl) X)
  obtain⟨i3,i4,G⟩:=bnd G
  have i5:∀o,(o)=i3→∀a8 a9 b1 U w,FR 93 [] U [(5,.slice a8 a9 b1)]→SH r (own (kI .u8) 5 a8 a9 b1 o::L) w→c4 U w:=by
   intro o ht a8 a9 b1 U w J X
   subst ht
   replace G:tF o=some y:=G
   unfold tF at G
   exact hb4 o G a8 a9 b1 U w (J.sub _ rfl) X
  refine aD i4 (fun s U w=>∃f g h,FR 93 [] U [(1,.slice A1 n1 c1),(5,.slice f g h),(11,.int .i64 s.2)]∧SH r (own (kI .u8) 5 f g h s.1::L) w) ⟨t,u,x,J.sub _ rfl,X⟩ ?_
  intro o7 i6 b3 G i7 i8 U w hLab
  obtain⟨j,c⟩:=i6
  replace G:lP a1 j c=some b3:=G
  unfold lP at G
  try dsimp only at hLab
  obtain⟨f,g,h,J,X⟩:=hLab
  refine wp_seq_k fun o8 i9=>ws fun o9 j0=>xk 2 J rfl fun U J=>aU bM (X.rdl 1 ha1 rfl).2.1 J (fun U J=>?_) rfl
  refine nk 1 J rfl fun U J=>j0 _ _ (bA J G rfl (fun j1 G=>?_) fun j1 G=>?_)
  ·refine wp_skip (i9 _ _ ?_)
   refine aA fun p0 j2=>nz 1 J rfl fun U J=>wp_seq_k fun p1 j3=>aA fun c5 j4=>?_
   have hb5:∀b4,vW a1 j c b4=some b3→∀U w,FR 93 [] U [(1,.slice A1 n1 c1),(5,.slice f g h),(11,.int .i64 c),(12,.int .i64 b4)]→SH r (own (kI .u8) 5 f g h j::L) w→c5 U w:=by
    intro b4 G U w J X
    unfold vW at G
    refine j4 _ _ (j3 _ _ ?_)
    refine ws fun p2 j5=>xk 3 J rfl fun U J=>?_
    obtain⟨p3,c6,G⟩:=bnd G
    refine fG bM sz2 (X.rdl 1 ha1 rfl) c6 J (fun U J=>?_) rfl
    obtain⟨cs,hV,j6⟩:=el (X.rdl 1 ha1 rfl) c6
    obtain rfl:=hV
    refine aH uu2 (j6 0 _ rfl) J (fun U J=>?_) rfl
    obtain⟨p4,j7,G⟩:=bnd G
    refine x_c aN4 J rfl (vI j7 X :) fun v U w hR J=>?_
    obtain⟨p5,p6,p7,rfl,X⟩:=hR
    refine x_m J rfl fun U J=>x_l G J rfl fun p8 _ U J G=>gQ G J (aY uu3 mE rfl (J.ev rfl)) rfl fun p9 _ U J G=>?_
    obtain⟨q0,j8,G⟩:=bnd G
    refine x_c aRc J rfl (qZ j8 X :) fun v U w hR J=>?_
    obtain⟨j9,k0,k1,rfl,X⟩:=hR
    refine x_m J rfl fun U J=>wn (j5 _ _ ?_)
    refine aC (xk 2 J rfl fun U J=>?_)
    refine x_l G J rfl fun q1 _ U J G=>x_m J rfl fun U J=>wpList_nil ?_
    cases G
    exact j2 _ _ ⟨_,i7 _ rfl,j9,k0,k1,J.sub _ rfl,X⟩
   obtain⟨k2,k3,G⟩:=bnd G
   have k4:∀p,(p)=k2→∀U w,FR 93 [] U [(1,.slice A1 n1 c1),(5,.slice f g h),(11,.int .i64 c),(12,.int .i64 p)]→SH r (own (kI .u8) 5 f g h j::L) w→c5 U w:=by
    intro p ht U w J X
    subst ht
    replace G:sH a1 j c p=some b3:=G
    unfold sH at G
    exact hb5 p G U w (J.sub _ rfl) X
   refine aD k3 (fun s U w=>FR 93 [] U [(1,.slice A1 n1 c1),(5,.slice f g h),(11,.int .i64 c),(12,.int .i64 s)]∧SH r (own (kI .u8) 5 f g h j::L) w) ⟨J.sub _ rfl,X⟩ ?_
   intro q2 k5 c7 G k6 k7 U w hLab
   obtain⟨i,rfl⟩:∃ q,q=k5:=⟨_,rfl⟩
   replace G:mF a1 c i=some c7:=G
   unfold mF at G
   try dsimp only at hLab
   obtain⟨J,X⟩:=hLab
   refine wp_seq_k fun q3 k8=>wp_seq_k fun k9 l0=>?_
   have hj1:∀b5,nP i b5=some c7→∀U w,FR 93 [] U [(1,.slice A1 n1 c1),(5,.slice f g h),(11,.int .i64 c),(12,.int .i64 i),(71,.bool b5)]→SH r (own (kI .u8) 5 f g h j::L) w→k9 U w:=by
    intro b5 G U w J X
    unfold nP at G
    refine l0 _ _ (bA J G rfl (fun l1 G=>?_) fun l1 G=>?_)
    ·refine wp_skip (k8 _ _ ?_)
     refine aA fun q4 l2=>aC (x_m J rfl fun U J=>?_)
     refine x_l G J rfl fun q5 _ U J G=>x_m J rfl fun U J=>wpList_nil ?_
     cases G
     exact l2 _ _ ⟨_,k6 _ rfl,J.sub _ rfl,X⟩
    cases G
    exact wp_exit (k4 i (k7 _ rfl) U w (J.sub _ rfl) X)
   refine cP [0,0,3,0,8,31,63,127,127,127,895,2047,4095,127,127,24703,57471,131071,262143] [] rfl J X (by kernel_rfl) (by kernel_rfl) (by kernel_rfl) (by kernel_rfl) fun w X=>?_
   obtain⟨a,b6,G⟩:=nO G
   refine bcG G (fun b G=>?_) fun b G=>?_
   ·obtain⟨k,c8,G⟩:=bnd G
    obtain⟨cs,hV,l3⟩:=el (X.rdl 1 ha1 rfl) c8
    obtain rfl:=hV
    obtain⟨l,c9,G⟩:=bnd G
    obtain⟨cs,hV,l4⟩:=el (X.rdl 1 ha1 rfl) c9
    obtain rfl:=hV
    refine⟨[(0,.int .i64 c),(1,.int .i64 i),(2,.int .i64 a),(3,.slice A1 n1 c1),(4,.int .i64 (a1.length:Int)),(5,.bool (decide (a<(a1.length:Int)))),(6,.bool (decide (a<(a1.length:Int)))),(7,.slice A1 n1 c1),(8,.int .i64 c),(9,.int .i64 i),(10,.int .i64 a),(11,.pointer (some (ea A1 (a.toNat * 1)))),(12,.int .i64 k),(13,.slice A1 n1 c1),(14,.int .i64 c),(15,.pointer (some (ea A1 (c.toNat * 1)))),(16,.int .i64 l),(17,.bool (k==l)),(18,.bool (k==l))],?_⟩
    refine gK [0,1,2,3,4,5,6,7,8,9,10,11,12,13,14,15,16,17,18] (by kernel_rfl) ⟨pm rfl,pm rfl,pt [(53,.int .i64 c),(54,.int .i64 i)] rfl fun U J=>kQ b6 (iP rfl (J.ev rfl) (J.ev rfl)),pm rfl,pt [(56,.slice A1 n1 c1)] rfl (fun U J=>aD0 bM (X.rdl 1 ha1 rfl).2.1 J rfl rfl),pt [(55,.int .i64 a),(57,.int .i64 (a1.length:Int))] rfl (fun U J=>qX rfl (J.ev rfl) (J.ev rfl)),pm rfl,iB rfl rfl rfl rfl [(1,.slice A1 n1 c1),(59,.bool (decide (a<(a1.length:Int))))] rfl b (fun U J=>mK J rfl rfl) rfl,iB rfl rfl rfl rfl [(11,.int .i64 c),(59,.bool (decide (a<(a1.length:Int))))] rfl b (fun U J=>mK J rfl rfl) rfl,iB rfl rfl rfl rfl [(12,.int .i64 i),(59,.bool (decide (a<(a1.length:Int))))] rfl b (fun U J=>mK J rfl rfl) rfl,iB rfl rfl rfl rfl [(59,.bool (decide (a<(a1.length:Int)))),(61,.int .i64 c),(62,.int .i64 i)] rfl b (fun U J=>(kQ b6 (iP rfl (J.ev rfl) (J.ev rfl)):RunV _ _ _ _ (.int .i64 a))) rfl,iB rfl rfl rfl rfl [(59,.bool (decide (a<(a1.length:Int)))),(60,.slice A1 n1 c1),(63,.int .i64 a)] rfl b (fun U J=>fH bM sz2 (X.rdl 1 ha1 rfl) c8 J rfl rfl rfl) rfl,iB rfl rfl rfl rfl [(59,.bool (decide (a<(a1.length:Int)))),(64,.pointer (some (ea A1 (a.toNat * 1))))] rfl b (fun U J=>cM uu2 (l3 0 _ rfl) J rfl rfl rfl) rfl,iB rfl rfl rfl rfl [(1,.slice A1 n1 c1),(59,.bool (decide (a<(a1.length:Int))))] rfl b (fun U J=>mK J rfl rfl) rfl,iB rfl rfl rfl rfl [(11,.int .i64 c),(59,.bool (decide (a<(a1.length:Int))))] rfl b (fun U J=>mK J rfl rfl) rfl,iB rfl rfl rfl rfl [(59,.bool (decide (a<(a1.length:Int)))),(66,.slice A1 n1 c1),(67,.int .i64 c)] rfl b (fun U J=>fH bM sz2 (X.rdl 1 ha1 rfl) c9 J rfl rfl rfl) rfl,iB rfl rfl rfl rfl [(59,.bool (decide (a<(a1.length:Int)))),(68,.pointer (some (ea A1 (c.toNat * 1))))] rfl b (fun U J=>cM uu2 (l4 0 _ rfl) J rfl rfl rfl) rfl,iB rfl rfl rfl rfl [(59,.bool (decide (a<(a1.length:Int)))),(65,.int .i64 k),(69,.int .i64 l)] rfl b (fun U J=>aH1 rfl (J.ev rfl) (J.ev rfl)) rfl,pt [(59,.bool (decide (a<(a1.length:Int)))),(70,.bool (k==l))] rfl (fun U J=>aAr b J rfl rfl rfl),trivial⟩ ⟨by kernel_rfl,by kernel_rfl⟩ [(1,_),(5,_),(11,_),(12,_),(60,_),(61,_),(62,_),(63,_),(65,_),(66,_),(67,_),(69,_),(70,_),(71,_)] rfl (fun U J=>?_)
    exact hj1 (k==l) G U w (J.sub _ rfl) X
   refine⟨[(0,.int .i64 c),(1,.int .i64 i),(2,.int .i64 a),(3,.slice A1 n1 c1),(4,.int .i64 (a1.length:Int)),(5,.bool (decide (a<(a1.length:Int)))),(6,.bool (decide (a<(a1.length:Int)))),(7,undef),(8,undef),(9,undef),(10,undef),(11,undef),(12,undef),(13,undef),(14,undef),(15,undef),(16,undef),(17,undef),(18,.bool false)],?_⟩
   refine gK [0,1,2,3,4,5,6,7,8,9,10,11,12,13,14,15,16,17,18] (by kernel_rfl) ⟨pm rfl,pm rfl,pt [(53,.int .i64 c),(54,.int .i64 i)] rfl fun U J=>kQ b6 (iP rfl (J.ev rfl) (J.ev rfl)),pm rfl,pt [(56,.slice A1 n1 c1)] rfl (fun U J=>aD0 bM (X.rdl 1 ha1 rfl).2.1 J rfl rfl),pt [(55,.int .i64 a),(57,.int .i64 (a1.length:Int))] rfl (fun U J=>qX rfl (J.ev rfl) (J.ev rfl)),pm rfl,eH rfl rfl rfl rfl [(1,.slice A1 n1 c1),(59,.bool (decide (a<(a1.length:Int))))] rfl b rfl,eH rfl rfl rfl rfl [(11,.int .i64 c),(59,.bool (decide (a<(a1.length:Int))))] rfl b rfl,eH rfl rfl rfl rfl [(12,.int .i64 i),(59,.bool (decide (a<(a1.length:Int))))] rfl b rfl,eH rfl rfl rfl rfl [(59,.bool (decide (a<(a1.length:Int)))),(61,undef),(62,undef)] rfl b rfl,eH rfl rfl rfl rfl [(59,.bool (decide (a<(a1.length:Int)))),(60,undef),(63,undef)] rfl b rfl,eH rfl rfl rfl rfl [(59,.bool (decide (a<(a1.length:Int)))),(64,undef)] rfl b rfl,eH rfl rfl rfl rfl [(1,.slice A1 n1 c1),(59,.bool (decide (a<(a1.length:Int))))] rfl b rfl,eH rfl rfl rfl rfl [(11,.int .i64 c),(59,.bool (decide (a<(a1.length:Int))))] rfl b rfl,eH rfl rfl rfl rfl [(59,.bool (decide (a<(a1.length:Int)))),(66,undef),(67,undef)] rfl b rfl,eH rfl rfl rfl rfl [(59,.bool (decide (a<(a1.length:Int)))),(68,undef)] rfl b rfl,eH rfl rfl rfl rfl [(59,.bool (decide (a<(a1.length:Int)))),(65,undef),(69,undef)] rfl b rfl,pt [(59,.bool (decide (a<(a1.length:Int)))),(70,undef)] rfl (fun U J=>yW b J rfl rfl rfl),trivial⟩ ⟨by kernel_rfl,by kernel_rfl⟩ [(1,_),(5,_),(11,_),(12,_),(71,_)] rfl (fun U J=>?_)
   exact hj1 false G U w (J.sub _ rfl) X
  cases G
  exact wp_exit (i5 j (i8 _ rfl) f g h U w (J.sub _ rfl) X)
 refine nz 2 J rfl fun U J=>bA J G rfl (fun l5 G=>?_) fun l5 G=>?_
 ·refine aC (xk 2 J rfl fun U J=>?_)
  obtain⟨l6,l7,G⟩:=bnd G
  refine x_c aYo J rfl (aGz l7 X (RdL.sfx 0 rfl ha1) :) fun v U w hR J=>?_
  obtain⟨l8,l9,m1,rfl,X⟩:=hR
  exact x_m J rfl fun U J=>wpList_nil (hb1 l6 G l8 l9 m1 U w (J.sub _ rfl) X)
 exact wp_skip (hb1 d2 G t u x U w (J.sub _ rfl) X)
theorem qS {a0 A0 n0 c0 y} (G:lX a0=some y) (X:SH r (L) w) (ha0:RdL L (kI .i64) A0 n0 c0 a0) :
  Ret Tryz.prog 66 #[.slice A0 n0 c0] w fun v w'=>∃ (B0:Option Addr) (m0:Nat) (d0:Nat),v=.slice B0 m0 d0∧SH r (own (kI .u8) 5 B0 m0 d0 y::L) w':=by
 refine enter Tryz.func66 rfl Tryz.ntmps66 [(0,_)] rfl (by simp) ?_
 intro U J Qf hQ hQn
 unfold lX at G
 refine nz 1 J rfl fun U J=>ws fun a5 x=>xk 1 J rfl fun U J=>?_
 obtain⟨a6,z,G⟩:=bnd G
 refine x_c aX2 J rfl (aD5 z X (RdL.sfx 0 rfl ha0) :) fun v U w hR J=>?_
 obtain⟨A,B,C,rfl,X⟩:=hR
 refine x_m J rfl fun U J=>wn (x _ _ ?_)
 refine wp_seq_k fun a7 D=>nz 1 J rfl fun U J=>aA fun t E=>?_
 have hb1:∀n,wP n=some y→∀e f g U w,FR 22 [] U [(3,.slice e f g)]→SH r (own (kI .u8) 5 e f g n::L) w→t U w:=by
  intro n G e f g U w J X
  unfold wP at G
  refine E _ _ (D _ _ ?_)
  refine nz 2 J rfl fun U J=>?_
  cases G
  refine wp_ret (hQ _ _ ?_)
  exact lv Tryz.results66 J rfl ⟨e,f,g,rfl,X⟩
 obtain⟨F,H,G⟩:=bnd G
 have I:∀a,(a)=F→∀h i j U w,FR 22 [] U [(3,.slice h i j)]→SH r (own (kI .u8) 5 h i j a::L) w→t U w:=by
  intro a ht h i j U w J X
  subst ht
  replace G:uC a=some y:=G
  unfold uC at G
  exact hb1 a G h i j U w (J.sub _ rfl) X
 refine aD H (fun s U w=>∃b c d,FR 22 [] U [(0,.slice A0 n0 c0),(3,.slice b c d),(4,.int .u8 s.2)]∧SH r (own (kI .u8) 5 b c d s.1::L) w) ⟨A,B,C,J.sub _ rfl,X⟩ ?_
 intro a8 K u G M N U w hLab
 obtain⟨o,p⟩:=K
 replace G:fI a0 o p=some u:=G
 unfold fI at G
 try dsimp only at hLab
 obtain⟨b,c,d,J,X⟩:=hLab
 refine wp_seq_k fun a9 O=>nz 2 J rfl fun U J=>bA J G rfl (fun P G=>?_) fun P G=>?_
 ·refine wp_skip (O _ _ ?_)
  refine wp_seq_k fun b1 Q=>aA fun R S=>?_
  have hb2:∀q,pH p q=some u→∀k l m U w,FR 22 [] U [(0,.slice A0 n0 c0),(3,.slice k l m),(4,.int .u8 p)]→SH r (own (kI .u8) 5 k l m q::L) w→R U w:=by
   intro q G k l m U w J X
   unfold pH at G
   refine S _ _ (Q _ _ ?_)
   refine aC (x_m J rfl fun U J=>?_)
   refine x_l G J rfl fun b2 _ U J G=>x_m J rfl fun U J=>wpList_nil ?_
   cases G
   exact⟨_,M _ rfl,k,l,m,J.sub _ rfl,X⟩
  refine ws fun b3 T=>xk 2 J rfl fun U J=>?_
  obtain⟨W,Y,G⟩:=bnd G
  refine x_c aX2 J rfl (aD5 Y X (RdL.sfx 1 rfl ha0) :) fun v U w hR J=>?_
  obtain⟨Z,a1,a2,rfl,X⟩:=hR
  refine x_m J rfl fun U J=>wn (T _ _ ?_)
  refine ws fun b4 a3=>xk 1 J rfl fun U J=>aU fE (X.rd 0 rfl).2.1 J (fun U J=>?_) rfl
  refine x_m J rfl fun U J=>aU fE (X.rd 1 rfl).2.1 J (fun U J=>?_) rfl
  refine nk 1 J rfl fun U J=>a3 _ _ (bA J G rfl (fun a4 G=>?_) fun a4 G=>?_)
  ·refine aC (nk 2 J rfl fun U J=>?_)
   replace X:=X.drop 1
   exact hb2 W G Z a1 a2 U w (J.sub _ rfl) X
  replace X:=X.drop 0
  exact wp_skip (hb2 o G b c d U w (J.sub _ rfl) X)
 cases G
 exact wp_exit (I o (N _ rfl) b c d U w (J.sub _ rfl) X)
end
theorem aO7 {r:World} {L:List HP} {g:Nat} {b:Bool} {w:World} (hS:SH r (blk g 4 [.bool b]::L) w) :
    CallsD Tryz.prog 97 #[.pointer (some ⟨g,0,none⟩)] (.panicking aCh) w fun e u' w'=>e=.returned (.tuple #[])∧u'=.panicking [{ v:=.iface 154 (.agg #[]),recovered:=true }]∧SH r (blk g 4 [.bool false]::L) w':=by
  refine callsD_of_wpS Tryz.func97 rfl fun c₀ cs hu=>?_
  apply wpS_seq
  apply wpS_region
  simp only [List.size_toArray,List.length_cons,List.length_nil,Nat.zero_add]
  rw [show List.range (1+1)=[0,1] from rfl]
  simp [wpOpsS,go_sem,recoverD,hu,aCh,Tryz.ntmps97,Exit.thenS]
  generalize hac:({ tmps:=_,defers:=_ }:Act)=ac
  have hA:FR 15 [] ac [(0,.pointer (some ⟨g,0,none⟩)),(1,.iface 154 (.agg #[]))]:=by
    subst hac
    refine⟨by simp,rfl,fun t v hv=>?_⟩
    simp only [lk] at hv
    by_cases e0:t=0
    · subst e0; cases hv; rfl
    by_cases e1:t=1
    · subst e1; cases hv; rfl
    · exfalso
      rw [show Nat.beq 0 t=false by cases h:Nat.beq 0 t; rfl; exact absurd (Nat.eq_of_beq_eq_true h).symm e0,show Nat.beq 1 t=false by cases h:Nat.beq 1 t; rfl; exact absurd (Nat.eq_of_beq_eq_true h).symm e1] at hv
      cases hv
  clear hac
  refine wpS_of_wp ?_
  have fin:∀ (a:Act) (w:World),FR 15 [] a []→SH r (blk g 4 [.bool false]::L) w→bodyPostS Tryz.prog Tryz.f97 c₀ cs (fun e u' w'=>e=.returned (.tuple #[])∧u'=.panicking [{ v:=.iface 154 (.agg #[]),recovered:=true }]∧SH r (blk g 4 [.bool false]::L) w') .normal a ({ c₀ with mode:=.panicking [{ v:=.iface 154 (.agg #[]),recovered:=true }] }::cs) w:=by
    intro a w hA hS
    exact⟨hA.defers,_,rfl,_,results_none Tryz.results97 _ _ _,rfl,rfl,hS⟩
  refine wp_seq_k fun K1 h1=>?_
  refine aC ?_
  refine sP hA (fun ac hA=>?_)
  refine iW (v:=.bool true) hA (aO4 Tryz.underlying20 rfl (hA.ev rfl) (hA.ev rfl)) (fun ac hA=>?_)
  refine wpList_nil ?_
  refine h1 _ _ ?_
  refine c_t (b:=true) rfl hA ?_
  refine wp_seq_k fun K4 h4=>?_
  refine wp_seq_k fun K2 h2=>?_
  refine aC ?_
  refine sP hA (fun ac hA=>?_)
  refine iW (v:=.tuple #[.agg #[],.bool true]) hA (aIj Tryz.underlying154 rfl rfl (hA.ev rfl)) (fun ac hA=>?_)
  refine sP hA (fun ac hA=>?_)
  refine iW hA (tV rfl (hA.ev rfl) rfl) (fun ac hA=>?_)
  refine iW hA (tV rfl (hA.ev rfl) rfl) (fun ac hA=>?_)
  refine aI8 (cs:=[]) aYv hA hS (fun g2 ac w hS hA=>?_)
  refine aM6 (vs:=[]) 0 aZb hA hS rfl (fun ac w hS hA=>?_)
  refine kZ hA (fun ac hA=>?_)
  refine wpList_nil ?_
  refine h2 _ _ ?_
  refine wp_seq_k fun K3 h3=>?_
  refine aC ?_
  refine sP hA (fun ac hA=>?_)
  refine iW hA (aCc rfl (hA.ev rfl)) (fun ac hA=>?_)
  refine wpList_nil ?_
  refine h3 _ _ ?_
  refine c_f (b := !true) rfl hA ?_
  refine wp_skip ?_
  refine h4 _ _ ?_
  refine aC ?_
  refine aM6 (vs:=[.bool false]) 1 sz4 hA hS rfl (fun ac w hS hA=>?_)
  refine wpList_nil ?_
  have hS':=hS.pk 1
  exact fin _ _ (hA.sub _ rfl) (hS'.tail)
theorem aLp {g:Nat} {w:World} :
    CallsD Tryz.prog 97 #[.pointer (some ⟨g,0,none⟩)] .returning w fun e u' w'=>e=.returned (.tuple #[])∧u'=.returning∧w'=w:=by
  refine callsD_of_wpS Tryz.func97 rfl fun c₀ cs hu=>?_
  apply wpS_seq
  apply wpS_region
  simp only [List.size_toArray,List.length_cons,List.length_nil,Nat.zero_add]
  rw [show List.range (1+1)=[0,1] from rfl]
  simp [wpOpsS,go_sem,recoverD,hu,Tryz.ntmps97,Exit.thenS]
  generalize hac:({ tmps:=_,defers:=_ }:Act)=ac
  have hA:FR 15 [] ac [(0,.pointer (some ⟨g,0,none⟩)),(1,.nilIface)]:=by
    subst hac
    refine⟨by simp,rfl,fun t v hv=>?_⟩
    simp only [lk] at hv
    by_cases e0:t=0
    · subst e0; cases hv; rfl
    by_cases e1:t=1
    · subst e1; cases hv; rfl
    · exfalso
      rw [show Nat.beq 0 t=false by cases h:Nat.beq 0 t; rfl; exact absurd (Nat.eq_of_beq_eq_true h).symm e0,show Nat.beq 1 t=false by cases h:Nat.beq 1 t; rfl; exact absurd (Nat.eq_of_beq_eq_true h).symm e1] at hv
      cases hv
  clear hac
  refine wpS_of_wp ?_
  refine wp_seq_k fun K1 h1=>?_
  refine aC ?_
  refine sP hA (fun ac hA=>?_)
  refine iW (v:=.bool false) hA (aOn Tryz.underlying20 rfl (hA.ev rfl)) (fun ac hA=>?_)
  refine wpList_nil ?_
  refine h1 _ _ ?_
  refine c_f (b:=false) rfl hA ?_
  refine wp_skip ?_
  refine⟨hA.defers,c₀.mode,rfl,_,results_none Tryz.results97 _ _ _,rfl,hu,rfl⟩
theorem aC0 {r:World} {L:List HP} {w:World} {g:Nat} {b:Bool} {a:Act} {n:Nat} {D:List Deferred} {F:List (Nat×Value)} (hA:FR n D a F) (h1:lk F 4=some (.pointer (some ⟨g,0,none⟩))) (hS:SH r (blk g 4 [.bool b]::L) w) :
    (results Tryz.f75 a.tmps).run Tryz.prog w=.ok (.bool b) w:=by
  have e1:a.tmps.getD 4 undef=.pointer (some ⟨g,0,none⟩):=hA.ev (x:=.tmp 4) h1
  have e1':a.tmps[4]?.getD undef=.pointer (some ⟨g,0,none⟩):=by rw [← Array.getD_eq_getD_getElem?]; exact e1
  have hc:=hS.cell 0 rfl 0 (.bool b) rfl
  have hagg:(isAgg 4).run Tryz.prog w=.ok false w:=by rw [pE Tryz.underlying4]; rfl
  have hld:(loadVar 4 ⟨g,0,none⟩).run Tryz.prog w=.ok (.bool b) w:=by simp [loadVar,hagg,hc]
  simp [results,Tryz.results75,e1',asAddr,hld]
section
variable {r:World} {L:List HP} {w:World} {A:Option Addr} {n c f:Nat} {fs caps:Array Value}
theorem aGg {R:Value→World→Prop} (hf:EN Tryz.prog f) (hS:SH r L w)
    (hret:∀ g g4 w1,SH r (blk g 157 [.slice A n c]::blk g4 4 [.bool false]::L) w1 →
      (Ret Tryz.prog f (fs++#[.pointer (some ⟨g,0,none⟩)]++caps) w1 fun v w2=>∃ L1 A' n' c',SH r (blk g 157 [.slice A' n' c']::blk g4 4 [.bool false]::L1) w2∧∀ w3,SH r L1 w3→R (.bool ((n':Int)==0)) w3) ∨
      (Calls Tryz.prog f (fs++#[.pointer (some ⟨g,0,none⟩)]++caps) w1 fun e w2=>e=.panicked aCh∧∃ L1,SH r (blk g4 4 [.bool false]::L1) w2∧∀ w3,SH r L1 w3→R (.bool false) w3)) :
    Ret Tryz.prog 75 #[.slice A n c,.func (.func f) fs caps] w R:=by
  refine aWb Tryz.func75 rfl Tryz.ntmps75 [(0,.slice A n c),(1,.func (.func f) fs caps)] rfl (by simp) ?_
  intro ac hA
  refine wp_seq_k fun K0 h0=>?_
  refine aC ?_
  refine aI8 (cs:=[.bool false]) zr4 hA hS (fun g4 ac w hS hA=>?_)
  refine wpList_nil ?_
  refine h0 _ _ ?_
  refine wp_seq_k fun K1 h1=>?_
  refine aC ?_
  refine iW hA (mL rfl (rW (vals:=#[]) hA rfl) (rW (vals:=#[.pointer (some ⟨g4,0,none⟩)]) hA rfl)) (fun ac hA=>?_)
  refine aUl (vs:=#[]) hA (fun ac hA=>?_)
  refine wpList_nil ?_
  refine h1 _ _ ?_
  refine wp_seq_k fun K2 h2=>?_
  refine aC ?_
  refine sP hA (fun ac hA=>?_)
  refine iW (v:=.agg #[.slice A n c]) hA (qB (ps:=#[(0,.slice A n c)]) rfl (sB hA rfl) (fun w=>by kernel_rfl)) (fun ac hA=>?_)
  refine aFc hA hS (fun g ac w hS hA=>?_)
  refine kZ hA (fun ac hA=>?_)
  refine wpList_nil ?_
  refine h2 _ _ ?_
  refine wp_seq_k fun K3 h3=>?_
  refine aC ?_
  refine sP hA (fun ac hA=>?_)
  refine sP hA (fun ac hA=>?_)
  rcases hret g g4 w hS with hr | hp
  · refine aM4 (vs:=#[.pointer (some ⟨g,0,none⟩)]) hf hA hr (fun v ac w hR hA=>?_)
    obtain⟨L1,A',n',c',hS,hR⟩:=hR
    refine wpList_nil ?_
    refine h3 _ _ ?_
    refine wp_seq_k fun K4 h4=>?_
    refine aC ?_
    refine sP hA (fun ac hA=>?_)
    refine iW hA (dC rfl (hA.ev rfl)) (fun ac hA=>?_)
    refine aV0 pW hA (fun ac hA=>?_)
    refine aLi Tryz.underlying32 (hS.cell 0 rfl 0 _ rfl) hA (fun ac hA=>?_)
    refine iW hA (aDv Tryz.underlying32 rfl (hA.ev rfl)) (fun ac hA=>?_)
    refine iW hA (aH1 rfl (hA.ev rfl) (hA.ev rfl)) (fun ac hA=>?_)
    refine aM6 (vs:=[.bool ((n':Int)==0)]) 1 sz4 hA hS rfl (fun ac w hS hA=>?_)
    refine wpList_nil ?_
    refine h4 _ _ ?_
    refine wp_ret ?_
    show Leaves _ _ _ _ _ _ _
    rw [hA.defers]
    refine leaves_cons (f:=97) (args:=#[.pointer (some ⟨g4,0,none⟩)]) (by simp) (by simp [invoke,(aZ4 _ _:_=_)]) ?_
    refine CallsD.mono aLp ?_
    rintro e u' w' ⟨rfl,rfl,rfl⟩
    exact⟨_,aC0 hA rfl hS,_,rfl,hR _ (hS.tail.tail)⟩
  · refine aNd (vs:=#[.pointer (some ⟨g,0,none⟩)]) hf hA hp (fun w hR=>?_)
    obtain⟨L1,hS,hR⟩:=hR
    show Leaves _ _ _ _ _ _ _
    rw [hA.defers]
    refine leaves_cons (f:=97) (args:=#[.pointer (some ⟨g4,0,none⟩)]) (by simp) (by simp [invoke,(aZ4 _ _:_=_)]) ?_
    refine CallsD.mono (aO7 hS) ?_
    rintro e u' w' ⟨rfl,rfl,hS⟩
    exact⟨_,aC0 hA rfl hS,_,rfl,hR _ hS.tail⟩
end
noncomputable section
set_option linter.unusedSimpArgs false
def aK (a0:S157) (a1:Bool):Option ((S157)⊕(S157)) :=
  if (!a1)=true then (some (.inr a0)) else (some (.inl a0))
def fL (a0:S157):Option ((Int×S157)⊕(S157)) :=
  (aK a0 (decide (0<(a0.f0.length:Int)))).bind fun a=>(mI a (fun a=>((at_ a.f0 0).bind fun b=>((oP a.f0 1 (a.f0.length:Int)).bind fun c=>(some (.inl (b,(⟨c⟩:S157))))))) (fun a=>(some (.inr a))))
def iO (a:Int) (b:(List Int)):Option (((List Int)×Int×Int)⊕(((Int×S157)⊕(S157)))) :=
  some (.inr (.inl (a,(⟨b⟩:S157))))
def eB (a1:Int) (i:Int) (f:Int) (g:(Int×S157)) (e:(List Int)):Option (((List Int)×Int×Int)⊕(((Int×S157)⊕(S157)))) :=
  ltt (yX .u8 g.1 127) fun j=>(ltt (IntKind.u64.wrap j) fun k=>(ltt (IntKind.i64.wrap (7 * f)) fun h=>(chk (0≤h) (ltt (zE .u64 k h) fun l=>(ltt (ior .u64 i l) fun a=>(if (decide (g.1<128))=true then (if (decide (a≤a1))=true then (if (f==0)=true then ((aK (⟨e⟩:S157) true).bind fun b=>(mI b (fun b=>(iO a b.f0)) (fun b=>(some (.inr (.inr b)))))) else ((aK (⟨e⟩:S157) (decide (0<g.1))).bind fun c=>(mI c (fun c=>(iO a c.f0)) (fun c=>(some (.inr (.inr c))))))) else ((aK (⟨e⟩:S157) false).bind fun d=>(mI d (fun d=>(iO a d.f0)) (fun d=>(some (.inr (.inr d))))))) else (ltt (IntKind.i64.wrap (f+1)) fun m=>(some (.inl (e,a,m))))))))))
def dZ (a1:Int) (g:(List Int)) (f:Int) (b:Int):Option (((List Int)×Int×Int)⊕(((Int×S157)⊕(S157)))) :=
  (fL (⟨g⟩:S157)).bind fun a=>(mI a (fun a=>(if (decide (b<9))=true then ((aK a.2 true).bind fun c=>(mI c (fun c=>(eB a1 f b a c.f0)) (fun c=>(some (.inr (.inr c)))))) else (if (b==9)=true then ((aK a.2 (decide (a.1<2))).bind fun d=>(mI d (fun d=>(eB a1 f b a d.f0)) (fun d=>(some (.inr (.inr d)))))) else ((aK a.2 false).bind fun e=>(mI e (fun e=>(eB a1 f b a e.f0)) (fun e=>(some (.inr (.inr e))))))))) (fun a=>(some (.inr (.inr a)))))
def eS (a0:S157) (a1:Int):Option ((Int×S157)⊕(S157)) :=
  (loop (fun s=>dZ a1 s.1 s.2.1 s.2.2) (a0.f0,0,0)).bind fun t=>some t
def fV (a0:S157):Option ((Int×S157)⊕(S157)) :=
  (eS a0 18446744073709551615).bind fun a=>(mI a (fun a=>(ltt (bS .u64 a.1 1) fun b=>(ltt (IntKind.i64.wrap b) fun c=>(ltt (yX .u64 a.1 1) fun d=>(ltt (IntKind.i64.wrap d) fun e=>(ltt (xW .i64 c (IntKind.i64.wrap (0 - e))) fun f=>(some (.inl (f,a.2))))))))) (fun a=>(some (.inr a))))
def iT (a0:S157) (a1:Int):Option (((List UInt8)×S157)⊕(S157)) :=
  ltt (IntKind.u64.wrap a1) fun c=>((eS a0 c).bind fun a=>(mI a (fun a=>(ltt (IntKind.u64.wrap (a.2.f0.length:Int)) fun d=>((aK a.2 (decide (a.1≤d))).bind fun b=>(mI b (fun b=>((oP b.f0 0 a.1).bind fun e=>((oP b.f0 a.1 (b.f0.length:Int)).bind fun f=>(some (.inl (bts e,(⟨f⟩:S157))))))) (fun b=>(some (.inr b))))))) (fun a=>(some (.inr a)))))
def pC (a:(List Int)) (b:(List Int)):Option (((List Int)×S157)⊕(S157)) :=
  some (.inl (b,(⟨a⟩:S157)))
def nV (a:(List Int)) (b:(List Int)):Option (((List Int)×S157)⊕(S157)) :=
  pC a b
def cU (a0:Int) (c:(List Int)) (b:(List Int)) (d:Int):Option (((List Int)×(List Int)×Int)⊕(((List Int)×(List Int))⊕(((List Int)×S157)⊕(S157)))) :=
  if (decide (d<a0))=true then ((fV (⟨c⟩:S157)).bind fun a=>(mI a (fun a=>(chk (b.length+[a.1].length≤140737488355328 / 8) (ltt (IntKind.i64.wrap (d+1)) fun e=>(some (.inl (a.2.f0,b++[a.1],e)))))) (fun a=>(some (.inr (.inr (.inr a))))))) else (some (.inr (.inl (c,b))))
def lW (a0:Int) (a:S157):Option (((List Int)×S157)⊕(S157)) :=
  (loop (fun s=>cU a0 s.1 s.2.1 s.2.2) (a.f0,[],0)).bind fun t=>match t with | (.inl t)=>nV t.1 t.2 | (.inr t)=>some t
def uE (a:(List Int)):Option (((List Int)×S157)⊕(S157)) :=
  some (.inl (a,(⟨[]⟩:S157)))
def rK (a:(List Int)):Option (((List Int)×S157)⊕(S157)) :=
  uE a
def fQ (c:(Int×S157)) (d:(List Int)) (b:(List Int)) (a:Int):Option (((List Int)×Int)⊕(((List Int)))) :=
  if (decide (a<(d.length:Int)))=true then ((at_ b a).bind fun e=>(ltt (IntKind.i64.wrap (e+c.1)) fun f=>(ltt (IntKind.i64.wrap (a+1)) fun g=>(some (.inl (b.set a.toNat f,g)))))) else (some (.inr (b)))
def pS (b:(Int×S157)) (c:(List Int)) (a:(List Int)):Option (((List Int)×S157)⊕(S157)) :=
  (loop (fun s=>fQ b a s.1 s.2) (a,0)).bind fun t=>rK t
def nT (a:(Int×S157)) (b:(List Int)) (c:(List Int)):Option (((List Int)×S157)⊕(S157)) :=
  pS a b c
def kO (a:Int) (b:(List Int)) (c:(List Int)):Option (((List Int)×(List Int)×Int)⊕(((List Int)×(List Int))⊕(((List Int)×S157)⊕(S157)))) :=
  ltt (IntKind.i64.wrap (a+1)) fun d=>(some (.inl (b,c,d)))
def gP (a1:Int) (b:Int) (j:Int) (d:(List Int)) (e:(List Int)) (a:Int):Option (((List Int)×(List Int)×Int)⊕(((List Int)×(List Int))⊕(((List Int)×S157)⊕(S157)))) :=
  if (decide (a<j))=true then (ltt (IntKind.i64.wrap (a.tdiv 8)) fun k=>((at_ d k).bind fun l=>(ltt (a.tmod 8) fun f=>(chk (0≤f) (ltt (bS .u8 l f) fun m=>(ltt (IntKind.u64.wrap m) fun n=>(ltt (yX .u64 n 1) fun g=>(ltt (IntKind.i64.wrap (a1 * b)) fun o=>(if (decide (o≤a))=true then ((aK (⟨d⟩:S157) (g==0)).bind fun c=>(mI c (fun c=>(kO a c.f0 e)) (fun c=>(some (.inr (.inr (.inr c))))))) else (chk (b≠0) (ltt (IntKind.i64.wrap (a.tdiv b)) fun h=>((at_ e h).bind fun p=>(chk (b≠0) (ltt (a.tmod b) fun i=>(chk (0≤i) (ltt (zE .u64 g i) fun q=>(ltt (IntKind.i64.wrap q) fun r=>(ltt (ior .i64 p r) fun s=>(kO a d (e.set h.toNat s)))))))))))))))))))) else (some (.inr (.inl (d,e))))
def mZ (a1:Int) (b:(Int×S157)) (c:Int) (a:(List Int)):Option (((List Int)×S157)⊕(S157)) :=
  chk (0≤a1∧(8:Int) * a1≤140737488355328) (ltt (IntKind.i64.wrap (8 * (a.length:Int))) fun d=>((loop (fun s=>gP a1 c d s.1 s.2.1 s.2.2) (a,List.replicate a1.toNat (0:Int),0)).bind fun t=>match t with | (.inl t)=>nT b t.1 t.2 | (.inr t)=>some t))
def qW (a0:S157) (a1:Int):Option (((List Int)×S157)⊕(S157)) :=
  (fV a0).bind fun b=>(mI b (fun b=>((fL b.2).bind fun a=>(mI a (fun a=>(ltt (IntKind.i64.wrap a.1) fun e=>(if (decide (e≤64))=true then (ltt (IntKind.i64.wrap (a1 * e)) fun f=>(ltt (IntKind.i64.wrap (f+7)) fun g=>(ltt (IntKind.i64.wrap (g.tdiv 8)) fun h=>((aK a.2 ((a.2.f0.length:Int)==h)).bind fun c=>(mI c (fun c=>(mZ a1 b e c.f0)) (fun c=>(some (.inr c)))))))) else ((aK a.2 false).bind fun d=>(mI d (fun d=>(mZ a1 b e d.f0)) (fun d=>(some (.inr d)))))))) (fun a=>(some (.inr a)))))) (fun b=>(some (.inr b))))
def jF (a:(List Int)) (b:(List Int)):Option (((List Int)×S157)⊕(S157)) :=
  some (.inl (b,(⟨a⟩:S157)))
def wO (a:(List Int)) (b:(List Int)):Option (((List Int)×S157)⊕(S157)) :=
  jF a b
def tZ (a:(List Int)) (b:(List Int)):Option (((List Int)×S157)⊕(S157)) :=
  wO a b
def fY (f:Int) (d:(List Int)) (b:(List Int)) (g:Int) (e:Int):Option (((List Int)×(List Int)×Int×Int)⊕(((List Int)×(List Int))⊕(((List Int)×S157)⊕(S157)))) :=
  if (decide (e<f))=true then ((fV (⟨d⟩:S157)).bind fun a=>(mI a (fun a=>(ltt (IntKind.i64.wrap (g+a.1)) fun c=>(chk (b.length+[c].length≤140737488355328 / 8) (ltt (IntKind.i64.wrap (e+1)) fun h=>(some (.inl (a.2.f0,b++[c],c,h))))))) (fun a=>(some (.inr (.inr (.inr a))))))) else (some (.inr (.inl (d,b))))
def wX (a:(List Int)) (b:(List Int)):Option (((List Int)×S157)⊕(S157)) :=
  jF a b
def tP (a:(List Int)) (b:(List Int)):Option (((List Int)×S157)⊕(S157)) :=
  wX a b
def wV (a:(Int×S157)) (b:(List Int)):Option (((List Int)×(List Int))⊕(((List Int)×(List Int))⊕(((List Int)×S157)⊕(S157)))) :=
  some (.inl (a.2.f0,b))
def tX (a:(Int×S157)) (b:(List Int)):Option (((List Int)×(List Int))⊕(((List Int)×(List Int))⊕(((List Int)×S157)⊕(S157)))) :=
  wV a b
def gY (b:(Int×S157)) (d:Int) (a:(List Int)) (c:Int):Option (((List Int)×Int)⊕(((List Int)))) :=
  if (decide (c<d))=true then (chk (a.length+[b.1].length≤140737488355328 / 8) (ltt (IntKind.u64.wrap (c+1)) fun e=>(some (.inl (a++[b.1],e))))) else (some (.inr (a)))
def dT (d:Int) (e:(List Int)) (c:(List Int)):Option (((List Int)×(List Int))⊕(((List Int)×(List Int))⊕(((List Int)×S157)⊕(S157)))) :=
  if (decide ((c.length:Int)<d))=true then ((fV (⟨e⟩:S157)).bind fun a=>(mI a (fun a=>(ltt (IntKind.i64.wrap (d - (c.length:Int))) fun f=>(ltt (IntKind.i64.wrap (f - 1)) fun g=>(ltt (IntKind.u64.wrap g) fun h=>((eS a.2 h).bind fun b=>(mI b (fun b=>(ltt (IntKind.u64.wrap (1+b.1)) fun i=>((loop (fun s=>gY a i s.1 s.2) (c,0)).bind fun t=>tX b t))) (fun b=>(some (.inr (.inr (.inr b))))))))))) (fun a=>(some (.inr (.inr (.inr a))))))) else (some (.inr (.inl (e,c))))
def rR (a0:S157):Option (((List Int)×S157)⊕(S157)) :=
  (fL a0).bind fun b=>(mI b (fun b=>((aK b.2 (decide (b.1≤3))).bind fun e=>(mI e (fun e=>((eS e 4096).bind fun a=>(mI a (fun a=>(ltt (IntKind.i64.wrap a.1) fun f=>(if (b.1==0)=true then ((lW f a.2).bind fun c=>(mI c (fun c=>(jF c.2.f0 c.1)) (fun c=>(some (.inr c))))) else (if (b.1==1)=true then ((loop (fun s=>fY f s.1 s.2.1 s.2.2.1 s.2.2.2) (a.2.f0,[],0,0)).bind fun t=>match t with | (.inl t)=>tZ t.1 t.2 | (.inr t)=>some t) else (if (b.1==2)=true then ((loop (fun s=>dT f s.1 s.2) (a.2.f0,[])).bind fun t=>match t with | (.inl t)=>tP t.1 t.2 | (.inr t)=>some t) else (if (b.1==3)=true then (if (decide (0<f))=true then ((qW a.2 f).bind fun d=>(mI d (fun d=>(jF d.2.f0 d.1)) (fun d=>(some (.inr d))))) else (jF a.2.f0 [])) else (jF a.2.f0 []))))))) (fun a=>(some (.inr a)))))) (fun e=>(some (.inr e)))))) (fun b=>(some (.inr b))))
def oQ (a0:S157) (a1:(List Int)):Option ((S157×(List Int))⊕(S157×(List Int))) :=
  (rR a0).bind fun a=>(mI a (fun a=>(some (.inl (a.2,a.1)))) (fun a=>(some (.inr (a,a1)))))
def oK (a0:(List Int)) (a:(List Int)):Option (Bool×(List Int)) :=
  (oQ (⟨a0⟩:S157) a).bind fun y=>(mI y (fun y=>some ((((y.1.f0.length:Int)==0),y.2))) (fun y=>some ((false,y.2))))
def iL (a0:(List Int)):Option ((List Int)×Int) :=
  (oK a0 []).bind fun a=>(if (!a.1)=true then (some ([],3)) else (some (a.2,0)))
end
end Go.Proofs.YtnefioccdkmegaaGreatDoor.M
