/- Texts of the claim, joined: what it uses of Gr, Op, Dpg, Mpg, Dpl, Mpl, Dce, Mce, Tr, Dcr. -/
import Derived.Test.YtdkpjpoajlmmfaaGreatDoorZb
import Derived.Test.YtdkpjpoajlmmfaaGreatDoorProg
namespace Go.Proofs.YtdkpjpoajlmmfaaGreatDoor.M
open Go Go.RowKit Go.Proofs.YtdkpjpoajlmmfaaGreatDoor.E
set_option linter.unusedVariables false
set_option linter.unusedSimpArgs false
def aEq:List PanicEntry:=[{ v:=.iface 137 (.agg #[]),recovered:=false }]
theorem by3:Tryz.prog.bytesOf 3=8:=by kernel_rfl
theorem bFv:Tryz.prog.bytesOf 52=32:=by kernel_rfl
theorem bFw:Tryz.prog.bytesOf 61=48:=by kernel_rfl
theorem ce2:Tryz.prog.cellsOf 2=1:=by kernel_rfl
theorem bCl:Tryz.prog.cellsOf 24=1:=by kernel_rfl
theorem ce3:Tryz.prog.cellsOf 3=1:=by kernel_rfl
theorem ce5:Tryz.prog.cellsOf 5=1:=by kernel_rfl
theorem bFx:Tryz.prog.cellsOf 50=1:=by kernel_rfl
theorem bCm:Tryz.prog.cellsOf 52=3:=by kernel_rfl
theorem bFy:Tryz.prog.cellsOf 59=1:=by kernel_rfl
theorem bCn:Tryz.prog.cellsOf 61=5:=by kernel_rfl
theorem bFz:Tryz.prog.cellsOf 67=1:=by kernel_rfl
theorem ce9:Tryz.prog.cellsOf 9=1:=by kernel_rfl
theorem bCs:EN Tryz.prog 10:=bB Tryz.func10 (by kernel_rfl) rfl
theorem bCt:EN Tryz.prog 100:=bB Tryz.func100 (by kernel_rfl) rfl
theorem aRm:EN Tryz.prog 101:=bB Tryz.func101 (by kernel_rfl) rfl
theorem bCu:EN Tryz.prog 102:=bB Tryz.func102 (by kernel_rfl) rfl
theorem aOd:EN Tryz.prog 103:=bB Tryz.func103 (by kernel_rfl) rfl
theorem bCv:EN Tryz.prog 104:=bB Tryz.func104 (by kernel_rfl) rfl
theorem bCw:EN Tryz.prog 105:=bB Tryz.func105 (by kernel_rfl) rfl
theorem bCx:EN Tryz.prog 106:=bB Tryz.func106 (by kernel_rfl) rfl
theorem bCy:EN Tryz.prog 107:=bB Tryz.func107 (by kernel_rfl) rfl
theorem aXe:EN Tryz.prog 11:=bB Tryz.func11 (by kernel_rfl) rfl
theorem bCz:EN Tryz.prog 110:=bB Tryz.func110 (by kernel_rfl) rfl
theorem aZc:EN Tryz.prog 111:=bB Tryz.func111 (by kernel_rfl) rfl
theorem bC0:EN Tryz.prog 112:=bB Tryz.func112 (by kernel_rfl) rfl
theorem bC1:EN Tryz.prog 113:=bB Tryz.func113 (by kernel_rfl) rfl
theorem bC2:EN Tryz.prog 114:=bB Tryz.func114 (by kernel_rfl) rfl
theorem aZd:EN Tryz.prog 115:=bB Tryz.func115 (by kernel_rfl) rfl
theorem bC3:EN Tryz.prog 116:=bB Tryz.func116 (by kernel_rfl) rfl
theorem aS2:EN Tryz.prog 12:=bB Tryz.func12 (by kernel_rfl) rfl
theorem aZe:EN Tryz.prog 122:=bB Tryz.func122 (by kernel_rfl) rfl
theorem bC4:EN Tryz.prog 123:=bB Tryz.func123 (by kernel_rfl) rfl
theorem bC5:EN Tryz.prog 124:=bB Tryz.func124 (by kernel_rfl) rfl
theorem bC6:EN Tryz.prog 125:=bB Tryz.func125 (by kernel_rfl) rfl
theorem bC7:EN Tryz.prog 126:=bB Tryz.func126 (by kernel_rfl) rfl
theorem bC8:EN Tryz.prog 128:=bB Tryz.func128 (by kernel_rfl) rfl
theorem bC9:EN Tryz.prog 129:=bB Tryz.func129 (by kernel_rfl) rfl
theorem bAv:EN Tryz.prog 13:=bB Tryz.func13 (by kernel_rfl) rfl
theorem bDa:EN Tryz.prog 130:=bB Tryz.func130 (by kernel_rfl) rfl
theorem aZf:EN Tryz.prog 131:=bB Tryz.func131 (by kernel_rfl) rfl
theorem bDb:EN Tryz.prog 134:=bB Tryz.func134 (by kernel_rfl) rfl
theorem bDc:EN Tryz.prog 138:=bB Tryz.func138 (by kernel_rfl) rfl
theorem bAw:EN Tryz.prog 14:=bB Tryz.func14 (by kernel_rfl) rfl
theorem bDd:EN Tryz.prog 142:=bB Tryz.func142 (by kernel_rfl) rfl
theorem aZg:EN Tryz.prog 143:=bB Tryz.func143 (by kernel_rfl) rfl
theorem bDe:EN Tryz.prog 145:=bB Tryz.func145 (by kernel_rfl) rfl
theorem bDf:EN Tryz.prog 148:=bB Tryz.func148 (by kernel_rfl) rfl
theorem bDg:EN Tryz.prog 15:=bB Tryz.func15 (by kernel_rfl) rfl
theorem aZh:EN Tryz.prog 152:=bB Tryz.func152 (by kernel_rfl) rfl
theorem bDh:EN Tryz.prog 16:=bB Tryz.func16 (by kernel_rfl) rfl
theorem bF6:EN Tryz.prog 18:=bB Tryz.func18 (by kernel_rfl) rfl
theorem bDi:EN Tryz.prog 19:=bB Tryz.func19 (by kernel_rfl) rfl
theorem bDj:EN Tryz.prog 20:=bB Tryz.func20 (by kernel_rfl) rfl
theorem aXf:EN Tryz.prog 21:=bB Tryz.func21 (by kernel_rfl) rfl
theorem aUu:EN Tryz.prog 22:=bB Tryz.func22 (by kernel_rfl) rfl
theorem bAx:EN Tryz.prog 23:=bB Tryz.func23 (by kernel_rfl) rfl
theorem bF7:EN Tryz.prog 26:=bB Tryz.func26 (by kernel_rfl) rfl
theorem bAy:EN Tryz.prog 27:=bB Tryz.func27 (by kernel_rfl) rfl
theorem bF8:EN Tryz.prog 28:=bB Tryz.func28 (by kernel_rfl) rfl
theorem bF9:EN Tryz.prog 29:=bB Tryz.func29 (by kernel_rfl) rfl
theorem bGa:EN Tryz.prog 30:=bB Tryz.func30 (by kernel_rfl) rfl
theorem bAz:EN Tryz.prog 31:=bB Tryz.func31 (by kernel_rfl) rfl
theorem bDk:EN Tryz.prog 32:=bB Tryz.func32 (by kernel_rfl) rfl
theorem bA0:EN Tryz.prog 33:=bB Tryz.func33 (by kernel_rfl) rfl
theorem bA1:EN Tryz.prog 34:=bB Tryz.func34 (by kernel_rfl) rfl
theorem bDl:EN Tryz.prog 35:=bB Tryz.func35 (by kernel_rfl) rfl
theorem bGb:EN Tryz.prog 36:=bB Tryz.func36 (by kernel_rfl) rfl
theorem bDm:EN Tryz.prog 37:=bB Tryz.func37 (by kernel_rfl) rfl
theorem bDn:EN Tryz.prog 38:=bB Tryz.func38 (by kernel_rfl) rfl
theorem bDo:EN Tryz.prog 39:=bB Tryz.func39 (by kernel_rfl) rfl
theorem bGc:EN Tryz.prog 40:=bB Tryz.func40 (by kernel_rfl) rfl
theorem bGd:EN Tryz.prog 41:=bB Tryz.func41 (by kernel_rfl) rfl
theorem bGe:EN Tryz.prog 42:=bB Tryz.func42 (by kernel_rfl) rfl
theorem aMc:EN Tryz.prog 43:=bB Tryz.func43 (by kernel_rfl) rfl
theorem aS3:EN Tryz.prog 44:=bB Tryz.func44 (by kernel_rfl) rfl
theorem aXg:EN Tryz.prog 45:=bB Tryz.func45 (by kernel_rfl) rfl
theorem bGf:EN Tryz.prog 46:=bB Tryz.func46 (by kernel_rfl) rfl
theorem aUv:EN Tryz.prog 47:=bB Tryz.func47 (by kernel_rfl) rfl
theorem bGg:EN Tryz.prog 48:=bB Tryz.func48 (by kernel_rfl) rfl
theorem rZ:EN Tryz.prog 49:=bB Tryz.func49 (by kernel_rfl) rfl
theorem yW:EN Tryz.prog 50:=bB Tryz.func50 (by kernel_rfl) rfl
theorem aOe:EN Tryz.prog 51:=bB Tryz.func51 (by kernel_rfl) rfl
theorem bA2:EN Tryz.prog 52:=bB Tryz.func52 (by kernel_rfl) rfl
theorem bGh:EN Tryz.prog 53:=bB Tryz.func53 (by kernel_rfl) rfl
theorem bGi:EN Tryz.prog 54:=bB Tryz.func54 (by kernel_rfl) rfl
theorem bGj:EN Tryz.prog 55:=bB Tryz.func55 (by kernel_rfl) rfl
theorem bGk:EN Tryz.prog 56:=bB Tryz.func56 (by kernel_rfl) rfl
theorem bGl:EN Tryz.prog 57:=bB Tryz.func57 (by kernel_rfl) rfl
theorem bDp:EN Tryz.prog 58:=bB Tryz.func58 (by kernel_rfl) rfl
theorem aKg:EN Tryz.prog 59:=bB Tryz.func59 (by kernel_rfl) rfl
theorem aOf:EN Tryz.prog 60:=bB Tryz.func60 (by kernel_rfl) rfl
theorem aXh:EN Tryz.prog 61:=bB Tryz.func61 (by kernel_rfl) rfl
theorem bGm:EN Tryz.prog 62:=bB Tryz.func62 (by kernel_rfl) rfl
theorem aXi:EN Tryz.prog 64:=bB Tryz.func64 (by kernel_rfl) rfl
theorem bGn:EN Tryz.prog 65:=bB Tryz.func65 (by kernel_rfl) rfl
theorem bGo:EN Tryz.prog 66:=bB Tryz.func66 (by kernel_rfl) rfl
theorem bDq:EN Tryz.prog 67:=bB Tryz.func67 (by kernel_rfl) rfl
theorem bGp:EN Tryz.prog 68:=bB Tryz.func68 (by kernel_rfl) rfl
theorem bGq:EN Tryz.prog 69:=bB Tryz.func69 (by kernel_rfl) rfl
theorem bDr:EN Tryz.prog 70:=bB Tryz.func70 (by kernel_rfl) rfl
theorem bGr:EN Tryz.prog 71:=bB Tryz.func71 (by kernel_rfl) rfl
theorem bDs:EN Tryz.prog 72:=bB Tryz.func72 (by kernel_rfl) rfl
theorem bDt:EN Tryz.prog 73:=bB Tryz.func73 (by kernel_rfl) rfl
theorem bA3:EN Tryz.prog 74:=bB Tryz.func74 (by kernel_rfl) rfl
theorem bDu:EN Tryz.prog 75:=bB Tryz.func75 (by kernel_rfl) rfl
theorem bGs:EN Tryz.prog 76:=bB Tryz.func76 (by kernel_rfl) rfl
theorem bGt:EN Tryz.prog 77:=bB Tryz.func77 (by kernel_rfl) rfl
theorem bA4:EN Tryz.prog 78:=bB Tryz.func78 (by kernel_rfl) rfl
theorem bGu:EN Tryz.prog 79:=bB Tryz.func79 (by kernel_rfl) rfl
theorem en8:EN Tryz.prog 8:=bB Tryz.func8 (by kernel_rfl) rfl
theorem bDv:EN Tryz.prog 80:=bB Tryz.func80 (by kernel_rfl) rfl
theorem bDw:EN Tryz.prog 81:=bB Tryz.func81 (by kernel_rfl) rfl
theorem bGv:EN Tryz.prog 82:=bB Tryz.func82 (by kernel_rfl) rfl
theorem bGw:EN Tryz.prog 83:=bB Tryz.func83 (by kernel_rfl) rfl
theorem bDx:EN Tryz.prog 84:=bB Tryz.func84 (by kernel_rfl) rfl
theorem aXj:EN Tryz.prog 85:=bB Tryz.func85 (by kernel_rfl) rfl
theorem bGx:EN Tryz.prog 86:=bB Tryz.func86 (by kernel_rfl) rfl
theorem bGy:EN Tryz.prog 87:=bB Tryz.func87 (by kernel_rfl) rfl
theorem bDy:EN Tryz.prog 88:=bB Tryz.func88 (by kernel_rfl) rfl
theorem bDz:EN Tryz.prog 89:=bB Tryz.func89 (by kernel_rfl) rfl
theorem en9:EN Tryz.prog 9:=bB Tryz.func9 (by kernel_rfl) rfl
theorem bGz:EN Tryz.prog 90:=bB Tryz.func90 (by kernel_rfl) rfl
theorem bD0:EN Tryz.prog 91:=bB Tryz.func91 (by kernel_rfl) rfl
theorem bD1:EN Tryz.prog 92:=bB Tryz.func92 (by kernel_rfl) rfl
theorem aXk:EN Tryz.prog 93:=bB Tryz.func93 (by kernel_rfl) rfl
theorem bG0:EN Tryz.prog 94:=bB Tryz.func94 (by kernel_rfl) rfl
theorem aXl:EN Tryz.prog 95:=bB Tryz.func95 (by kernel_rfl) rfl
theorem bG1:EN Tryz.prog 96:=bB Tryz.func96 (by kernel_rfl) rfl
theorem bG2:EN Tryz.prog 97:=bB Tryz.func97 (by kernel_rfl) rfl
theorem bG3:EN Tryz.prog 98:=bB Tryz.func98 (by kernel_rfl) rfl
theorem bD2:EN Tryz.prog 99:=bB Tryz.func99 (by kernel_rfl) rfl
theorem aZi (b:Nat):EXT Tryz.prog 117 #[.float .f64 b] (.int .u64 b):=λw=>by kernel_rfl
theorem aZj (n:Int):EXT Tryz.prog 132 #[.int .u64 n] (.float .f64 n.toNat):=λw=>by kernel_rfl
theorem aB5:FA Tryz.prog 128 0 0:=λad w=>by kernel_rfl
theorem aH9:FA Tryz.prog 128 1 1:=λad w=>by kernel_rfl
theorem uI:FA Tryz.prog 128 2 2:=λad w=>by kernel_rfl
theorem sW:FA Tryz.prog 140 0 0:=λad w=>by kernel_rfl
theorem aP8:FA Tryz.prog 26 0 0:=λad w=>by kernel_rfl
theorem aP9:FA Tryz.prog 26 1 1:=λad w=>by kernel_rfl
theorem aQa:FA Tryz.prog 26 2 2:=λad w=>by kernel_rfl
theorem aQb:FA Tryz.prog 26 3 3:=λad w=>by kernel_rfl
theorem aI2:FA Tryz.prog 46 0 0:=λad w=>by kernel_rfl
theorem sA:FA Tryz.prog 46 1 1:=λad w=>by kernel_rfl
theorem wA:FA Tryz.prog 46 2 2:=λad w=>by kernel_rfl
theorem aGs:FA Tryz.prog 46 3 3:=λad w=>by kernel_rfl
theorem aE8:FA Tryz.prog 46 4 4:=λad w=>by kernel_rfl
theorem aMe:FA Tryz.prog 52 0 0:=λad w=>by kernel_rfl
theorem aMf:FA Tryz.prog 52 1 1:=λad w=>by kernel_rfl
theorem bA7:FA Tryz.prog 52 2 2:=λad w=>by kernel_rfl
theorem mB:FA Tryz.prog 61 0 0:=λad w=>by kernel_rfl
theorem uO:FA Tryz.prog 61 1 1:=λad w=>by kernel_rfl
theorem dT:FA Tryz.prog 61 2 2:=λad w=>by kernel_rfl
theorem xB:FA Tryz.prog 61 3 3:=λad w=>by kernel_rfl
theorem aI3:FA Tryz.prog 61 4 4:=λad w=>by kernel_rfl
theorem mO:FA Tryz.prog 77 0 0:=λad w=>by kernel_rfl
theorem aMg:FA Tryz.prog 77 1 1:=λad w=>by kernel_rfl
theorem aGt:FA Tryz.prog 77 2 2:=λad w=>by kernel_rfl
theorem aMh:FA Tryz.prog 77 3 3:=λad w=>by kernel_rfl
theorem aU2:FA Tryz.prog 77 4 4:=λad w=>by kernel_rfl
theorem aGu:FA Tryz.prog 79 0 0:=λad w=>by kernel_rfl
theorem aGv:FA Tryz.prog 79 1 1:=λad w=>by kernel_rfl
theorem iR:FA Tryz.prog 79 2 2:=λad w=>by kernel_rfl
theorem aI4:FA Tryz.prog 90 0 0:=λad w=>by kernel_rfl
theorem aE9:FA Tryz.prog 90 1 1:=λad w=>by kernel_rfl
theorem zZ:FA Tryz.prog 90 2 2:=λad w=>by kernel_rfl
theorem aA1:FA Tryz.prog 90 3 3:=λad w=>by kernel_rfl
theorem aI5:FA Tryz.prog 90 4 4:=λad w=>by kernel_rfl
theorem aGw:FA Tryz.prog 90 5 5:=λad w=>by kernel_rfl
theorem aMi:FA Tryz.prog 90 6 6:=λad w=>by kernel_rfl
theorem aI6:FA Tryz.prog 90 7 7:=λad w=>by kernel_rfl
theorem aMj:FA Tryz.prog 98 0 0:=λad w=>by kernel_rfl
theorem aB6:FA Tryz.prog 98 1 1:=λad w=>by kernel_rfl
theorem aMk:FA Tryz.prog 98 2 2:=λad w=>by kernel_rfl
theorem bG6:Tryz.prog.eqGuardType Tryz.prog.depth 90=false:=by kernel_rfl
theorem mP:(Tryz.prog.info? 2).map (λi=>(i.zero,i.size,i.bytes))=some (some (.int .i64 0),1,8):=by kernel_rfl
theorem aOp:(Tryz.prog.info? 24).map (λi=>(i.zero,i.size,i.bytes))=some (some (.int .u64 0),1,8):=by kernel_rfl
theorem bG7:(Tryz.prog.info? 4).map (λi=>(i.zero,i.size,i.bytes))=some (some (.bool false),1,1):=by kernel_rfl
theorem aOq:(Tryz.prog.info? 46).map (λi=>(i.zero,i.size,i.bytes))=some (some (.agg #[(str []),(.int .u64 0),(.int .u64 0),(.int .i64 0),(.int .i64 0)]),5,48):=by kernel_rfl
theorem aG1:(Tryz.prog.info? 5).map (λi=>(i.zero,i.size,i.bytes))=some (some (.int .u8 0),1,1):=by kernel_rfl
theorem aRw:(Tryz.prog.info? 59).map (λi=>(i.zero,i.size,i.bytes))=some (some (.float .f64 0),1,8):=by kernel_rfl
theorem aOr:(Tryz.prog.info? 61).map (λi=>(i.zero,i.size,i.bytes))=some (some (.agg #[(.int .u64 0),(.int .i64 0),(.int .i64 0),(str []),(.float .f64 0)]),5,48):=by kernel_rfl
theorem aS9:(Tryz.prog.info? 9).map (λi=>(i.zero,i.size,i.bytes))=some (some (str []),1,16):=by kernel_rfl
theorem aZk:(Tryz.prog.info? 90).map (λi=>(i.zero,i.size,i.bytes))=some (some (.agg #[(.int .i64 0),(.int .i64 0),(.int .u64 0),(.int .u64 0),(.int .i64 0),(.int .i64 0),(str []),(str [])]),8,80):=by kernel_rfl
theorem aZl:(Tryz.prog.info? 98).map (λi=>(i.zero,i.size,i.bytes))=some (some (.agg #[(str []),(.slice none 0 0),(.int .i64 0)]),3,48):=by kernel_rfl
theorem bBi {args:Array Value} {w:World} (h:(Extern.SlicesOverlaps.overlaps #[75,75] #[4] args).run Tryz.prog w=.ok (.bool false) w):(callFunc 108 args).run Tryz.prog w=.ok (.value (.bool false)) w:=by rw [run_callFunc_extern Tryz.func108 (by kernel_rfl) (by kernel_rfl) (by kernel_rfl) (e:=Extern.SlicesOverlaps.overlaps #[75,75] #[4]) (by kernel_rfl),h];rfl
theorem bHa:Tryz.prog.stoodInHeld 90=false:=by kernel_rfl
theorem aZ3:(Tryz.prog.info? 126).map (·.size)=some 1:=by kernel_rfl
theorem bEs:(Tryz.prog.info? 137).map (·.size)=some 0:=by kernel_rfl
theorem bEt:(Tryz.prog.info? 158).map (·.size)=some 1:=by kernel_rfl
theorem sz2:(Tryz.prog.info? 2).map (·.size)=some 1:=by kernel_rfl
theorem aFi:(Tryz.prog.info? 23).map (·.size)=some 1:=by kernel_rfl
theorem aKm:(Tryz.prog.info? 24).map (·.size)=some 1:=by kernel_rfl
theorem aTr:(Tryz.prog.info? 26).map (·.size)=some 4:=by kernel_rfl
theorem sz3:(Tryz.prog.info? 3).map (·.size)=some 1:=by kernel_rfl
theorem bHb:(Tryz.prog.info? 30).map (·.size)=some 1:=by kernel_rfl
theorem bEu:(Tryz.prog.info? 38).map (·.size)=some 1:=by kernel_rfl
theorem sz4:(Tryz.prog.info? 4).map (·.size)=some 1:=by kernel_rfl
theorem iE:(Tryz.prog.info? 46).map (·.size)=some 5:=by kernel_rfl
theorem sz5:(Tryz.prog.info? 5).map (·.size)=some 1:=by kernel_rfl
theorem bBr:(Tryz.prog.info? 52).map (·.size)=some 3:=by kernel_rfl
theorem bHc:(Tryz.prog.info? 53).map (·.size)=some 1:=by kernel_rfl
theorem bBs:(Tryz.prog.info? 59).map (·.size)=some 1:=by kernel_rfl
theorem iH:(Tryz.prog.info? 61).map (·.size)=some 5:=by kernel_rfl
theorem bEv:(Tryz.prog.info? 67).map (·.size)=some 1:=by kernel_rfl
theorem aYb:(Tryz.prog.info? 75).map (·.size)=some 1:=by kernel_rfl
theorem sz9:(Tryz.prog.info? 9).map (·.size)=some 1:=by kernel_rfl
theorem aAk:(Tryz.prog.info? 90).map (·.size)=some 8:=by kernel_rfl
theorem oS:(Tryz.prog.info? 98).map (·.size)=some 3:=by kernel_rfl
theorem bFo:(Tryz.prog.info? 126).bind (·.zero)=some (.slice none 0 0):=by kernel_rfl
theorem bFp:(Tryz.prog.info? 137).bind (·.zero)=some (.agg #[]):=by kernel_rfl
theorem bFq:(Tryz.prog.info? 157).bind (·.zero)=some (.agg #[(.slice none 0 0),(.slice none 0 0),(.slice none 0 0),(.slice none 0 0),(.slice none 0 0)]):=by kernel_rfl
theorem bFr:(Tryz.prog.info? 158).bind (·.zero)=some (.slice none 0 0):=by kernel_rfl
theorem bHi:(Tryz.prog.info? 23).bind (·.zero)=some (.slice none 0 0):=by kernel_rfl
theorem bHj:(Tryz.prog.info? 26).bind (·.zero)=some (.agg #[(.int .u64 0),(.int .u64 0),(.int .i64 0),(.int .i64 0)]):=by kernel_rfl
theorem zr4:(Tryz.prog.info? 4).bind (·.zero)=some (.bool false):=by kernel_rfl
theorem aH2:(Tryz.prog.info? 46).bind (·.zero)=some (.agg #[(str []),(.int .u64 0),(.int .u64 0),(.int .i64 0),(.int .i64 0)]):=by kernel_rfl
theorem bHk:(Tryz.prog.info? 52).bind (·.zero)=some (.agg #[(.int .u8 0),(.int .u8 0),(.slice none 0 0)]):=by kernel_rfl
theorem bHl:(Tryz.prog.info? 53).bind (·.zero)=some (.slice none 0 0):=by kernel_rfl
theorem aQ4:(Tryz.prog.info? 61).bind (·.zero)=some (.agg #[(.int .u64 0),(.int .i64 0),(.int .i64 0),(str []),(.float .f64 0)]):=by kernel_rfl
theorem zr9:(Tryz.prog.info? 9).bind (·.zero)=some (str []):=by kernel_rfl
theorem aQ5:(Tryz.prog.info? 90).bind (·.zero)=some (.agg #[(.int .i64 0),(.int .i64 0),(.int .u64 0),(.int .u64 0),(.int .i64 0),(.int .i64 0),(str []),(str [])]):=by kernel_rfl
theorem aYx:(Tryz.prog.info? 98).bind (·.zero)=some (.agg #[(str []),(.slice none 0 0),(.int .i64 0)]):=by kernel_rfl
set_option maxRecDepth 100000 in
theorem bD3 (x y:S90) (w:World):(Op.equalIn 10000 90 (.agg #[.int .i64 x.f0,.int .i64 x.f1,.int .u64 x.f2,.int .u64 x.f3,.int .i64 x.f4,.int .i64 x.f5,str x.f6,str x.f7]) (.agg #[.int .i64 y.f0,.int .i64 y.f1,.int .u64 y.f2,.int .u64 y.f3,.int .i64 y.f4,.int .i64 y.f5,str y.f6,str y.f7])).run Tryz.prog w=.ok (aKh x y) w :=
  eqs Tryz.underlying90 bHa (eqf (jN Tryz.underlying3 rfl rfl) (jN Tryz.underlying3 rfl rfl) (run_equalIn_int w 9998 3 .i64 .i64 _ _ Tryz.underlying3) (eqf (jN Tryz.underlying3 rfl rfl) (jN Tryz.underlying3 rfl rfl) (run_equalIn_int w 9998 3 .i64 .i64 _ _ Tryz.underlying3) (eqf (jN Tryz.underlying24 rfl rfl) (jN Tryz.underlying24 rfl rfl) (run_equalIn_int w 9998 24 .u64 .u64 _ _ Tryz.underlying24) (eqf (jN Tryz.underlying24 rfl rfl) (jN Tryz.underlying24 rfl rfl) (run_equalIn_int w 9998 24 .u64 .u64 _ _ Tryz.underlying24) (eqf (jN Tryz.underlying2 rfl rfl) (jN Tryz.underlying2 rfl rfl) (run_equalIn_int w 9998 2 .i64 .i64 _ _ Tryz.underlying2) (eqf (jN Tryz.underlying2 rfl rfl) (jN Tryz.underlying2 rfl rfl) (run_equalIn_int w 9998 2 .i64 .i64 _ _ Tryz.underlying2) (eqf (jN Tryz.underlying9 rfl rfl) (jN Tryz.underlying9 rfl rfl) (aUy (d:=9998) Tryz.underlying9) (eqf (jN Tryz.underlying9 rfl rfl) (jN Tryz.underlying9 rfl rfl) (aUy (d:=9998) Tryz.underlying9) eqn rfl) rfl) rfl) rfl) rfl) rfl) rfl) rfl)
abbrev _root_.Go.Proofs.YtdkpjpoajlmmfaaGreatDoor.E.pP (g:Nat):Value:=.pointer (some ⟨g,0,none⟩)
abbrev _root_.Go.Proofs.YtdkpjpoajlmmfaaGreatDoor.E.bHq (x:Int):Value:=.int .i64 x
abbrev _root_.Go.Proofs.YtdkpjpoajlmmfaaGreatDoor.E.bHr (x:Int):Value:=.int .u64 x
abbrev _root_.Go.Proofs.YtdkpjpoajlmmfaaGreatDoor.E.bHs (x:Int):Value:=.int .u8 x
abbrev _root_.Go.Proofs.YtdkpjpoajlmmfaaGreatDoor.E.bHt (x:Int):Value:=.int .u32 x
abbrev bHu:=own2 kp98 (kI .u8) 5 (λx:S98=>x.f1) 98
def _root_.Go.Proofs.YtdkpjpoajlmmfaaGreatDoor.E.bHv':List Nat->List HP->List HP
 | [],L=>L
 | i::l,L=>bHv' l (pk i L)
theorem _root_.Go.Proofs.YtdkpjpoajlmmfaaGreatDoor.E.SH.bHv {r L w} (h:SH r L w) (l:List Nat):SH r (bHv' l L) w:=by
 induction l generalizing L with
 | nil=>exact h
 | cons i l ih=>exact ih (h.pk i)
theorem _root_.Go.Proofs.YtdkpjpoajlmmfaaGreatDoor.E.bHw {o:Oper} {A:Op} {D F n} {a:Act} {x y:Operand} {u v:Value} {C:Prop} (r:o.op=A->a.eval x=u->a.eval y=v->C) (J:FR n D a F) (h:(o.op,ev F x,ev F y)=(A,some u,some v)):C:=r (congrArg (·.1) h) (J.ev (congrArg (·.2.1) h)) (J.ev (congrArg (·.2.2) h))
abbrev uu2:=Tryz.underlying2
abbrev uu3:=Tryz.underlying3
abbrev uu4:=Tryz.underlying4
abbrev uu5:=Tryz.underlying5
abbrev uu9:=Tryz.underlying9
abbrev hF:=Tryz.underlying22
abbrev cH:=Tryz.underlying23
abbrev bN:=Tryz.underlying24
abbrev aWi:=Tryz.underlying26
abbrev nN:=Tryz.underlying29
abbrev bHd:=Tryz.underlying30
abbrev aHa:=Tryz.underlying33
abbrev fQ:=Tryz.underlying38
abbrev aAl:=Tryz.underlying46
abbrev bEx:=Tryz.underlying49
abbrev bBy:=Tryz.underlying50
abbrev bHe:=Tryz.underlying52
abbrev vH:=Tryz.underlying53
abbrev aFj:=Tryz.underlying58
abbrev aPi:=Tryz.underlying59
abbrev aFk:=Tryz.underlying61
abbrev aFl:=Tryz.underlying67
abbrev bHf:=Tryz.underlying71
abbrev iF:=Tryz.underlying75
abbrev aPj:=Tryz.underlying90
abbrev aTv:=Tryz.underlying91
abbrev aQ1:=Tryz.underlying98
abbrev aSe:=Tryz.underlying125
abbrev mS:=Tryz.underlying126
abbrev bEw:=Tryz.underlying137
abbrev aLu:=Tryz.underlying157
abbrev bU:=Tryz.underlying158
abbrev aGo:=Tryz.underlying163
abbrev aZ7:=Tryz.underlying167
abbrev aZ8:=Tryz.underlying173
abbrev aZ9:=Tryz.underlying174
abbrev aSf:=Tryz.underlying178
def g52 (x:S52):Prop:=(gI .u8) x.f0/\(gI .u8) x.f1/\(gL 8 (gI .i64)) x.f2
set_option maxRecDepth 100000 in
theorem op52 {W:World}:Opens Tryz.prog W 52 (kz52 (aFr W) W) g52:=by
  intro H enc m fuel cs x h hw;obtain⟨ys,n,_,rfl,hl,a,hf⟩:=DataW.trod_struct Tryz.underlying52 h;rw [bCm] at hl
  match cs,hl with
  | [c0,c1,c2],_ =>
    obtain⟨a0,h0,d⟩:=fld Tryz.underlying52 hf a hw 0 rfl (o:=0) (c:=1) (t:=5) rfl rfl ce5 (opI Tryz.underlying5);cases (show [c0]=[bHs a0] from h0);obtain⟨b,e,f⟩:=fld Tryz.underlying52 hf a hw 1 rfl (o:=1) (c:=1) (t:=5) rfl rfl ce5 (opI Tryz.underlying5);cases (show [c1]=[bHs b] from e);obtain⟨a2,g,i⟩:=fld Tryz.underlying52 hf a hw 2 rfl (o:=2) (c:=1) (t:=50) rfl rfl bFx (bBg Tryz.underlying50 ce3 (Nat.succ_pos _) by3 (opI Tryz.underlying3));obtain⟨A2,n2,j,k,l⟩:=g;cases (show [c2]=[.slice A2 n2 j] from k);exact⟨⟨a0,b,a2⟩,⟨_,_,_,rfl,l⟩,d,f,i⟩
def g61 (x:S61):Prop:=(gI .u64) x.f0/\(gI .i64) x.f1/\(gI .i64) x.f2/\gS x.f3/\gF x.f4
set_option maxRecDepth 100000 in
theorem op61 {W:World}:Opens Tryz.prog W 61 k61 g61:=by
  intro H enc p fuel cs x h hw;obtain⟨ys,n,_,rfl,hl,a,hf⟩:=DataW.trod_struct Tryz.underlying61 h;rw [bCn] at hl
  match cs,hl with
  | [c0,c1,c2,c3,c4],_ =>
    obtain⟨a0,h0,d⟩:=fld Tryz.underlying61 hf a hw 0 rfl (o:=0) (c:=1) (t:=24) rfl rfl bCl (opI Tryz.underlying24);cases (show [c0]=[bHr a0] from h0);obtain⟨b,e,f⟩:=fld Tryz.underlying61 hf a hw 1 rfl (o:=1) (c:=1) (t:=3) rfl rfl ce3 (opI Tryz.underlying3);cases (show [c1]=[bHq b] from e);obtain⟨a2,g,i⟩:=fld Tryz.underlying61 hf a hw 2 rfl (o:=2) (c:=1) (t:=2) rfl rfl ce2 (opI Tryz.underlying2);cases (show [c2]=[bHq a2] from g);obtain⟨a3,j,k⟩:=fld Tryz.underlying61 hf a hw 3 rfl (o:=3) (c:=1) (t:=9) rfl rfl ce9 (opS Tryz.underlying9);cases (show [c3]=[str a3] from j);obtain⟨a4,l,m⟩:=fld Tryz.underlying61 hf a hw 4 rfl (o:=4) (c:=1) (t:=59) rfl rfl bFy (opF Tryz.underlying59);cases (show [c4]=[.float .f64 a4] from l);exact⟨⟨a0,b,a2,a3,a4⟩,rfl,d,f,i,k,m⟩
noncomputable section
set_option linter.unusedSimpArgs false
def aDc (a:Int):Option (Int):=some (aBi .u32 (IntKind.u32.max) a)
def aA6 (a:Int):Option (Int):=aDc a
abbrev bHx:=((Int×Int)⊕Int)
def oK (a0:List Int) (a b:Int):Option bHx:=if decide (b<(a0.length:Int)) then ((at_ a0 b).bind λe=>(ltt (IntKind.u32.wrap e) λc=>(ltt (aBi .u32 a c) λf=>(ltt (aB7 .u32 f 15) λg=>((at_ bP g).bind λh=>(ltt (oG .u32 a 4) λi=>(ltt (aBi .u32 h i) λd=>(ltt (oG .u32 c 4) λj=>(ltt (aBi .u32 d j) λk=>(ltt (aB7 .u32 k 15) λl=>((at_ bP l).bind λm=>(ltt (oG .u32 d 4) λn=>(ltt (aBi .u32 m n) λo=>(ltt (IntKind.i64.wrap (b+1)) λp=>(some (.inl (o,p))))))))))))))))) else (some (.inr (a)))
def aBn (a0:List Int):Option (Int):=(loop (λs=>oK a0 s.1 s.2) (4294967295,0)).bind λt=>aA6 t
def vA (a0:List Int):Option (Int):=(at_ a0 0).bind λa=>(ltt (IntKind.u32.wrap a) λb=>((at_ a0 1).bind λc=>(ltt (IntKind.u32.wrap c) λd=>(ltt (xT .u32 d 8) λe=>(ltt (ior .u32 b e) λf=>((at_ a0 2).bind λg=>(ltt (IntKind.u32.wrap g) λh=>(ltt (xT .u32 h 16) λi=>(ltt (ior .u32 f i) λj=>((at_ a0 3).bind λk=>(ltt (IntKind.u32.wrap k) λl=>(ltt (xT .u32 l 24) λm=>(ltt (ior .u32 j m) λn=>(some n))))))))))))))
abbrev bHy:=(List Int)
def cK (a0:List Int):Option bHy:=uC (a0).isEmpty (some []) (chk (([]:List Int).length+a0.length<=140737488355328 / 1) (some a0))
abbrev bHz:=(Int×List Int×Int×Int)
def wK (o:Int) (a:List Int) (c:Int) (d:Bool):Option bHz:=if d=true then (some (0,[],0,3)) else (ltt (IntKind.i64.wrap c) λe=>(ltt (IntKind.i64.wrap (5+e)) λb=>((kN a 0 b).bind λf=>((kN a b (a.length:Int)).bind λg=>((aBn f).bind λh=>((vA g).bind λi=>(if h != i then (some (0,[],0,4)) else ((at_ a 4).bind λj=>((kN a 5 b).bind λk=>(ltt (IntKind.i64.wrap (o+b)) λl=>(ltt (IntKind.i64.wrap (l+4)) λm=>((cK k).bind λn=>(some (j,n,m,0))))))))))))))
def wJ (a0:List Int) (c:Int) (d:Bool):Option bHz:=if d=true then (some (0,[],0,1)) else ((kN a0 c (a0.length:Int)).bind λa=>(if decide ((a.length:Int)<9) then (some (0,[],0,3)) else ((vA a).bind λb=>(if decide (1048576<b) then (wK c a b true) else (ltt (IntKind.i64.wrap b) λe=>(ltt (IntKind.i64.wrap ((a.length:Int) - 9)) λf=>(wK c a b (decide (f<e)))))))))
def tE (a0:List Int) (a:Int):Option bHz:=if decide (a<0) then (wJ a0 a true) else (wJ a0 a (decide ((a0.length:Int)<a)))
end
set_option maxRecDepth 100000
set_option maxHeartbeats 4000000
section
variable {r:World} {L:List HP} {w:World} {Z:Nat->Prop} {wz:World}
theorem aIi {a0 A0 n0 c0 y} (G:aBn a0=some y) (X:SH r (L) w) (qz:Nat) (c:L[qz]?=some (zone Z wz)) (f:RdL L (kI .u8) A0 n0 c0 a0) (d:Imm Z wz (kI .u32) (some ⟨0,0,none⟩) 16 16 bP) :
  Ret Tryz.prog 89 #[.slice A0 n0 c0] w λv w'=>v=bHt y/\SH r (L) w':=by
 refine enter Tryz.func89 rfl Tryz.ntmps89 [(0,_)] rfl (by simp) ?_;intro U J Qf R c2;unfold aBn at G;refine nz 1 J rfl λU J=>nz 1 J rfl λU J=>wp_seq_k λT m=>ws λW n=>xk 1 J rfl λU J=>aY cH (X.rdl 0 f rfl).2.1 J rfl λU J=>x_m J rfl λU J=>wn (n _ _ ?_);refine aA λg o=>?_;have S:∀e,aDc e=some y->∀U w,FR 36 [] U [(3,bHt e)]->SH r (L) w->g U w:=by intro e G U w J X;unfold aDc at G;refine o _ _ (m _ _ ?_);refine ws λY p=>xk 1 J rfl λU J=>x_v J (aX2 rfl (J.ev rfl)) rfl λU J=>x_m J rfl λU J=>wn (p _ _ ?_);cases G;exact wp_ret (R _ _ (lv Tryz.results89 J rfl ⟨rfl,X⟩))
 obtain⟨q,t,G⟩:=bnd G;have u:∀a,(a)=q->∀U w,FR 36 [] U [(3,bHt a)]->SH r (L) w->g U w:=by intro a ht U w J X;subst ht;replace G:aA6 a=some y:=G;unfold aA6 at G;exact S a G U w (J.sub _ rfl) X
 refine aR t (λs U w=>FR 36 [] U [(3,bHt s.1),(6,.slice A0 n0 c0),(7,bHq (a0.length:Int)),(8,bHq s.2)]/\SH r (L) w) ⟨J.sub _ rfl,X⟩ ?_;intro a1 x z G A B U w l;obtain⟨h,C⟩:=x;replace G:oK a0 h C=some z:=G;unfold oK at G
 try dsimp only at l
 obtain⟨J,X⟩:=l;refine nz 1 J rfl λU J=>wp_seq_k λa2 D=>aX J G rfl (λE G=>?_) λE G=>?_
 ·refine wp_skip (D _ _ ?_);refine wp_seq_k λa3 F=>aA λa4 H=>ws λa5 I=>?_;obtain⟨a6,i,G⟩:=bnd G;refine dO cH sz5 (X.rdl 0 f rfl) i J rfl λU J=>?_;obtain⟨cs,b,K⟩:=el (X.rdl 0 f rfl) i;obtain rfl:=b;refine aK uu5 (K 0 _ rfl) J rfl λU J=>x_m J rfl λU J=>wn (I _ _ ?_);refine ws λa7 M=>xk 2 J rfl λU J=>dW G J (aQ uu5 aFl rfl (J.ev rfl)) rfl λN O U J G=>x_l G J rfl λa8 _ U J G=>x_l G J rfl λa9 _ U J G=>?_;obtain⟨b1,j,G⟩:=bnd G;refine aDt aZ9 bEv (X.rdl 0 (d.rdl qz c) rfl) j J rfl λU J=>?_;obtain⟨cs,b,P⟩:=el (X.rdl 0 (d.rdl qz c) rfl) j;obtain rfl:=b;refine aK aFl (P 0 _ rfl) J rfl λU J=>x_m J rfl λU J=>dW G J (bHw uE J rfl (by decide)) rfl λb2 _ U J G=>x_l G J rfl λb3 _ U J G=>x_m J rfl λU J=>wn (M _ _ ?_);refine aB (xk 2 J rfl λU J=>?_);refine x_v (v:=bHt N) J (cG O (aQ uu5 aFl rfl (J.ev rfl))) rfl λU J=>dW G J (bHw uE J rfl (by decide)) rfl λb4 _ U J G=>x_l G J rfl λb5 _ U J G=>x_l G J rfl λb6 _ U J G=>?_;obtain⟨b7,k,G⟩:=bnd G;refine aDt aZ9 bEv (X.rdl 0 (d.rdl qz c) rfl) k J rfl λU J=>?_;obtain⟨cs,b,Q⟩:=el (X.rdl 0 (d.rdl qz c) rfl) k;obtain rfl:=b;refine aK aFl (Q 0 _ rfl) J rfl λU J=>x_m J rfl λU J=>dW G J (bHw uE J rfl (by decide)) rfl λb8 _ U J G=>x_l G J rfl λb9 _ U J G=>x_m J rfl λU J=>wpList_nil (H _ _ ?_);refine F _ _ (aB ?_);refine x_l G J rfl λc1 _ U J G=>x_m J rfl λU J=>wpList_nil ?_;cases G;exact⟨_,A _ rfl,J.sub _ rfl,X⟩
 cases G;exact wp_exit (u h (B _ rfl) U w (J.sub _ rfl) X)
theorem aEv {a0 A0 n0 c0 y} (G:vA a0=some y) (X:SH r (L) w) (a:RdL L (kI .u8) A0 n0 c0 a0) :
  Ret Tryz.prog 92 #[.slice A0 n0 c0] w λv w'=>v=bHt y/\SH r (L) w':=by
 refine enter Tryz.func92 rfl Tryz.ntmps92 [(0,_)] rfl (by simp) ?_;intro U J Qf Q S;unfold vA at G;refine nz 1 J rfl λU J=>wp_seq_k λR x=>wD [0,1,3,7,0,16,48,112,240,511,0,1024,3072,7168,15360,32767,0,65536,196608,458752,983040,2097151,4194303] [] rfl J X (by kernel_rfl) λw X=>?_;obtain⟨c,d,G⟩:=bnd G;obtain⟨cs,b,z⟩:=el (X.rdl 0 a rfl) d;obtain rfl:=b;obtain⟨e,A,G⟩:=gZ G;obtain⟨f,g,G⟩:=bnd G;obtain⟨cs,b,B⟩:=el (X.rdl 0 a rfl) g;obtain rfl:=b;obtain⟨h,C,G⟩:=gZ G;obtain⟨i,D,G⟩:=gZ G;obtain⟨j,E,G⟩:=gZ G;obtain⟨k,l,G⟩:=bnd G;obtain⟨cs,b,F⟩:=el (X.rdl 0 a rfl) l;obtain rfl:=b;obtain⟨m,H,G⟩:=gZ G;obtain⟨n,I,G⟩:=gZ G;obtain⟨o,K,G⟩:=gZ G;obtain⟨p,q,G⟩:=bnd G;obtain⟨cs,b,M⟩:=el (X.rdl 0 a rfl) q;obtain rfl:=b;obtain⟨s,N,G⟩:=gZ G;obtain⟨t,O,G⟩:=gZ G;obtain⟨u,P,G⟩:=gZ G;refine⟨[(0,.slice A0 n0 c0),(1,.pointer (some (ea A0 ((0:Int).toNat * 1)))),(2,bHs c),(3,bHt e),(4,.slice A0 n0 c0),(5,.pointer (some (ea A0 ((1:Int).toNat * 1)))),(6,bHs f),(7,bHt h),(8,bHt i),(9,bHt j),(10,.slice A0 n0 c0),(11,.pointer (some (ea A0 ((2:Int).toNat * 1)))),(12,bHs k),(13,bHt m),(14,bHt n),(15,bHt o),(16,.slice A0 n0 c0),(17,.pointer (some (ea A0 ((3:Int).toNat * 1)))),(18,bHs p),(19,bHt s),(20,bHt t),(21,bHt u),(22,bHt u)],?_⟩;refine dZ [0,1,2,3,4,5,6,7,8,9,10,11,12,13,14,15,16,17,18,19,20,21,22] (by kernel_rfl) ⟨pm rfl,pt [(3,.slice A0 n0 c0)] rfl (λU J=>fK cH sz5 (X.rdl 0 a rfl) d J rfl rfl rfl),pt [(4,.pointer (some (ea A0 ((0:Int).toNat * 1))))] rfl (λU J=>aS uu5 (z 0 _ rfl) J rfl rfl rfl),pt [(5,bHs c)] rfl λU J=>cG A (aQ uu5 aFl rfl (J.ev rfl)),pm rfl,pt [(7,.slice A0 n0 c0)] rfl (λU J=>fK cH sz5 (X.rdl 0 a rfl) g J rfl rfl rfl),pt [(8,.pointer (some (ea A0 ((1:Int).toNat * 1))))] rfl (λU J=>aS uu5 (B 0 _ rfl) J rfl rfl rfl),pt [(9,bHs f)] rfl λU J=>cG C (aQ uu5 aFl rfl (J.ev rfl)),pt [(10,bHt h)] rfl λU J=>cG D (bHw aEy J rfl (by decide)),pt [(6,bHt e),(11,bHt i)] rfl λU J=>cG E (bHw aM4 J rfl),pm rfl,pt [(13,.slice A0 n0 c0)] rfl (λU J=>fK cH sz5 (X.rdl 0 a rfl) l J rfl rfl rfl),pt [(14,.pointer (some (ea A0 ((2:Int).toNat * 1))))] rfl (λU J=>aS uu5 (F 0 _ rfl) J rfl rfl rfl),pt [(15,bHs k)] rfl λU J=>cG H (aQ uu5 aFl rfl (J.ev rfl)),pt [(16,bHt m)] rfl λU J=>cG I (bHw aEy J rfl (by decide)),pt [(12,bHt j),(17,bHt n)] rfl λU J=>cG K (bHw aM4 J rfl),pm rfl,pt [(19,.slice A0 n0 c0)] rfl (λU J=>fK cH sz5 (X.rdl 0 a rfl) q J rfl rfl rfl),pt [(20,.pointer (some (ea A0 ((3:Int).toNat * 1))))] rfl (λU J=>aS uu5 (M 0 _ rfl) J rfl rfl rfl),pt [(21,bHs p)] rfl λU J=>cG N (aQ uu5 aFl rfl (J.ev rfl)),pt [(22,bHt s)] rfl λU J=>cG O (bHw aEy J rfl (by decide)),pt [(18,bHt o),(23,bHt t)] rfl λU J=>cG P (bHw aM4 J rfl),pm rfl,trivial⟩ [(2,_)] rfl (λU J=>?_);cases G;refine x _ _ (wp_ret ?_);refine Q _ _ (lv Tryz.results92 J rfl ?_);exact⟨rfl,X⟩
theorem kV {a0 A0 n0 c0 y} (G:cK a0=some y) (X:SH r (L) w) (c:RdL L (kI .u8) A0 n0 c0 a0) :
  Ret Tryz.prog 45 #[.slice A0 n0 c0] w λv w'=>∃ (f:Option Addr) (g:Nat) (h:Nat),v=.slice f g h/\SH r (own (kI .u8) 5 f g h y::L) w':=by
 refine enter Tryz.func45 rfl Tryz.ntmps45 [(0,_)] rfl (by simp) ?_;intro U J Qf i z;unfold cK at G;refine nz 1 J rfl λU J=>wp_seq_k λs j=>ws λt a=>xk 1 J rfl λU J=>?_;rcases A0 with _ | k
 ·replace G:=aZp (RdL.none_nil c (X.sfx 0)) G;refine x_v (v:=.bool true) J (aGf (p:=none) cH rfl (J.ev rfl) (J.ev rfl)) rfl λU J=>wn (a _ _ ?_);refine c_t (b:=true) rfl J ?_ rfl;refine nz 1 J rfl λU J=>?_;replace X:=SH.nil_own (d:=(kI .u8)) (e:=5) X;cases G;exact wp_ret (i _ _ (lv Tryz.results45 J rfl ⟨none,0,0,rfl,X⟩))
 replace G:=aZq G;refine x_v (v:=.bool false) J (aGf (p:=some k) cH rfl (J.ev rfl) (J.ev rfl)) rfl λU J=>wn (a _ _ ?_);refine c_f (b:=false) rfl J ?_ rfl;refine wp_skip (j _ _ ?_);refine ws λu l=>jU (d:=(kI .u8)) (e:=5) (ps:=#[]) (cells:=[]) (xs:=[]) (λw=>by kernel_rfl) rfl rfl J X rfl λx U w X J=>x_m J rfl λU J=>?_;obtain⟨m,G⟩:=aD G;have hr:=X.rdl 1 c rfl;refine iS 0 aG1 cH J X hr.1 hr.2.1 m rfl rfl λn o q U w X J=>?_;rw [List.nil_append] at X;refine x_m J rfl λU J=>wn (l _ _ ?_);cases G;exact wp_ret (i _ _ (lv Tryz.results45 J rfl ⟨n,o,q,rfl,X⟩))
theorem aAp {a0 a1 A0 n0 c0 y} (G:tE a0 a1=some y) (X:SH r (L) w) (qz:Nat) (a:L[qz]?=some (zone Z wz)) (p:Imm Z wz (kI .u8) A0 n0 c0 a0) (e5:Imm Z wz (kI .u32) (some ⟨0,0,none⟩) 16 16 bP) :
  Ret Tryz.prog 64 #[.slice A0 n0 c0,bHq a1] w λv w'=>∃ (P:Option Addr) (Q:Nat) (R:Nat),v=.tuple #[(bHs y.1),(.slice P Q R),(bHq y.2.2.1),(bHq y.2.2.2)]/\SH r (own (kI .u8) 5 P Q R y.2.1::L) w':=by
 refine enter Tryz.func64 rfl Tryz.ntmps64 [(0,_),(1,_)] rfl (by simp) ?_;intro U J Qf m g1;unfold tE at G;refine nz 4 J rfl λU J=>wp_seq_k λe6 W=>wp_seq_k λY a2=>?_;have S:∀q,wJ a0 a1 q=some y->∀U w,FR 60 [] U [(0,.slice A0 n0 c0),(1,bHq a1),(18,.bool q)]->SH r (L) w->Y U w:=by
  intro q G U w J X;unfold wJ at G;refine a2 _ _ (aX J G rfl (λa3 G=>?_) λa3 G=>?_)
  ·refine nz 4 J rfl λU J=>?_;replace X:=SH.nil_own (d:=(kI .u8)) (e:=5) X;cases G;exact wp_ret (m _ _ (lv4 Tryz.results64 J rfl rfl rfl rfl ⟨none,0,0,rfl,X⟩))
  refine wp_skip (W _ _ ?_);refine ws λe7 a4=>xk 2 J rfl λU J=>?_;obtain⟨a5,s,G⟩:=bnd G;obtain⟨c,g,h,a6,b⟩:=aG0 p s;refine x_v (v:=.slice c g h) J (aEs a6 (lM cH sz5 rfl (J.ev rfl) (J.ev rfl) (mJ (X.rdl 0 (p.rdl qz a) rfl) s).1 (mJ (X.rdl 0 (p.rdl qz a) rfl) s).2.2.2.2.2)) rfl λU J=>x_m J rfl λU J=>wn (a4 _ _ ?_);refine wp_seq_k λe8 a7=>ws λe9 a8=>xk 1 J rfl λU J=>aY cH (X.rdl 0 (b.rdl qz a) rfl).2.1 J rfl λU J=>nk 1 J rfl λU J=>a8 _ _ (aX J G rfl (λa9 G=>?_) λa9 G=>?_)
  ·refine nz 4 J rfl λU J=>?_;replace X:=SH.nil_own (d:=(kI .u8)) (e:=5) X;cases G;exact wp_ret (m _ _ (lv4 Tryz.results64 J rfl rfl rfl rfl ⟨none,0,0,rfl,X⟩))
  refine wp_skip (a7 _ _ ?_);refine ws λf0 b1=>xk 1 J rfl λU J=>?_;obtain⟨z,b2,G⟩:=bnd G;refine x_c bD1 J rfl (aEv b2 X (RdL.sfx 0 rfl (b.rdl qz a)) :) λv U w i J=>?_;obtain⟨rfl,X⟩:=i;refine x_m J rfl λU J=>wn (b1 _ _ ?_);refine wp_seq_k λf1 b3=>wp_seq_k λb4 b5=>?_;have T:∀t,wK a1 a5 z t=some y->∀U w,FR 60 [] U [(1,bHq a1),(8,.slice c g h),(9,bHt z),(36,.bool t)]->SH r (L) w->b4 U w:=by
   intro t G U w J X;unfold wK at G;refine b5 _ _ (aX J G rfl (λb6 G=>?_) λb6 G=>?_)
   ·refine nz 4 J rfl λU J=>?_;replace X:=SH.nil_own (d:=(kI .u8)) (e:=5) X;cases G;exact wp_ret (m _ _ (lv4 Tryz.results64 J rfl rfl rfl rfl ⟨none,0,0,rfl,X⟩))
   refine wp_skip (b3 _ _ ?_);refine ws λf2 b7=>xk 1 J rfl λU J=>dW G J (aQ aFl uu3 rfl (J.ev rfl)) rfl λf3 _ U J G=>x_l G J rfl λj _ U J G=>x_m J rfl λU J=>wn (b7 _ _ ?_);refine wp_seq_k λf4 b8=>wp_seq_k λf5 b9=>wD [0,0,3,7,0,0,48,127,255] [3,7] rfl J X (by kernel_rfl) λw X=>?_;obtain⟨f6,u,G⟩:=bnd G;obtain⟨c1,c2,c3,c4,c5⟩:=aGz b u;obtain⟨f7,k,G⟩:=bnd G;obtain⟨c6,c7,c8,A,c9⟩:=aG0 b k;refine⟨[(0,.slice c g h),(1,bHq j),(2,.slice c1 c2 c3),(4,.slice c g h),(5,bHq j),(6,.slice c6 c7 c8)],?_⟩;refine dF [0,1,2,4,5,6] [3] (by kernel_rfl) ⟨pm rfl,pm rfl,pt [(40,_),(41,_)] rfl λU J=>aEs c4 (lL cH sz5 rfl (J.ev rfl) (J.ev rfl) (mJ (X.rdl 0 (b.rdl qz a) rfl) u).2.2.2.2.1 (mJ (X.rdl 0 (b.rdl qz a) rfl) u).2.2.1),pm rfl,pm rfl,pt [(44,_),(45,_)] rfl λU J=>aEs A (lM cH sz5 rfl (J.ev rfl) (J.ev rfl) (mJ (X.rdl 0 (b.rdl qz a) rfl) k).1 (mJ (X.rdl 0 (b.rdl qz a) rfl) k).2.2.2.2.2),trivial⟩ ⟨et [(42,_)] rfl (λU J K hK=>?_),trivial⟩;obtain⟨B,d0,G⟩:=bnd G;refine eD bDz J (aIi d0 X (qz+0) a (RdL.sfx 0 rfl (c5.rdl qz a)) e5 :) rfl λv w i=>?_;obtain⟨rfl,X⟩:=i;refine hK _ [] _ rfl (dF [4,5,6] [7] (by kernel_rfl) ⟨pm rfl,pm rfl,pt [(44,_),(45,_)] rfl λU J=>aEs A (lM cH sz5 rfl (J.ev rfl) (J.ev rfl) (mJ (X.rdl 0 (b.rdl qz a) rfl) k).1 (mJ (X.rdl 0 (b.rdl qz a) rfl) k).2.2.2.2.2),trivial⟩ ⟨et [(46,_)] rfl (λU J K hK=>?_),trivial⟩);obtain⟨C,d2,G⟩:=bnd G;refine eD bD1 J (aEv d2 X (RdL.sfx 0 rfl (c9.rdl qz a)) :) rfl λv w i=>?_;obtain⟨rfl,X⟩:=i;refine hK _ [(8,.bool (B != C))] _ rfl (dZ [8] (by kernel_rfl) ⟨pt [(43,bHt B),(47,bHt C)] rfl (λU J=>yO rfl (J.ev rfl) (J.ev rfl)),trivial⟩ [(1,_),(8,_),(10,_),(48,_)] rfl (λU J=>?_));refine b9 _ _ (aX J G rfl (λd3 G=>?_) λd3 G=>?_)
   ·refine nz 4 J rfl λU J=>?_;replace X:=SH.nil_own (d:=(kI .u8)) (e:=5) X;cases G;exact wp_ret (m _ _ (lv4 Tryz.results64 J rfl rfl rfl rfl ⟨none,0,0,rfl,X⟩))
   refine wp_skip (b8 _ _ ?_);refine wp_seq_k λf8 d4=>wD [0,1,3,0,0,24,56,0,0,384,896,127,2175,8191,16383] [6] rfl J X (by kernel_rfl) λw X=>?_;obtain⟨D,n,G⟩:=bnd G;obtain⟨cs,x,d5⟩:=el (X.rdl 0 (b.rdl qz a) rfl) n;obtain rfl:=x;obtain⟨f9,o,G⟩:=bnd G;obtain⟨d6,d7,d8,d9,e0⟩:=aRv b o;obtain⟨E,F,G⟩:=gZ G;obtain⟨H,I,G⟩:=gZ G;refine⟨[(0,.slice c g h),(1,.pointer (some (ea c ((4:Int).toNat * 1)))),(2,bHs D),(3,.slice c g h),(4,bHq j),(5,.slice d6 d7 d8),(7,bHq a1),(8,bHq j),(9,bHq E),(10,bHq H)],?_⟩;refine dF [0,1,2,3,4,5,7,8,9,10] [6] (by kernel_rfl) ⟨pm rfl,pt [(49,_)] rfl (λU J=>fK cH sz5 (X.rdl 0 (b.rdl qz a) rfl) n J rfl rfl rfl),pt [(50,_)] rfl (λU J=>aS uu5 (d5 0 _ rfl) J rfl rfl rfl),pm rfl,pm rfl,pt [(52,_),(53,_)] rfl λU J=>aEs d9 (aFf cH sz5 rfl (J.ev rfl) (J.ev rfl) (J.ev rfl) (mJ (X.rdl 0 (b.rdl qz a) rfl) o).1 (mJ (X.rdl 0 (b.rdl qz a) rfl) o).2.1 (mJ (X.rdl 0 (b.rdl qz a) rfl) o).2.2.1),pm rfl,pm rfl,pt [(56,_),(57,_)] rfl λU J=>cG F (bHw kD J rfl),pt [(58,_)] rfl λU J=>cG I (bHw kD J rfl),trivial⟩ ⟨et [(54,_)] rfl (λU J K hK=>?_),trivial⟩;obtain⟨g0,e1,G⟩:=bnd G;refine eD aXg J (kV e1 X (RdL.sfx 0 rfl (e0.rdl qz a)) :) rfl λv w i=>?_;obtain⟨M,N,O,rfl,X⟩:=i;obtain⟨cs,x,e2⟩:=el (X.rdl 1 (b.rdl qz a) rfl) n;obtain rfl:=x;refine hK _ [(11,bHs D),(12,.slice M N O),(13,bHq H),(14,bHq 0)] _ rfl (dZ [0,1,2,7,8,9,10,11,12,13,14] (by kernel_rfl) ⟨pm rfl,pt [(49,.slice c g h)] rfl (λU J=>fK cH sz5 (X.rdl 1 (b.rdl qz a) rfl) n J rfl rfl rfl),pt [(50,.pointer (some (ea c ((4:Int).toNat * 1))))] rfl (λU J=>aS uu5 (e2 0 _ rfl) J rfl rfl rfl),pm rfl,pm rfl,pt [(56,bHq a1),(57,bHq j)] rfl λU J=>cG F (bHw kD J rfl),pt [(58,bHq E)] rfl λU J=>cG I (bHw kD J rfl),pm rfl,pm rfl,pm rfl,pm rfl,trivial⟩ [(4,_),(5,_),(6,_),(7,_)] rfl (λU J=>?_));cases G;refine d4 _ _ (wp_ret ?_);refine m _ _ (lv4 Tryz.results64 J rfl rfl rfl rfl ?_);exact⟨M,N,O,rfl,X⟩
  refine aB (xk 3 J rfl λU J=>?_);refine bcG G (λf G=>?_) λf G=>?_
  ·exact ng 7 f J rfl rfl λU J=>T true G U w (J.sub _ rfl) X
  refine xg 1 f J rfl rfl λU J=>aI f J ?_ rfl;refine dW G J (aQ aFl uu3 rfl (J.ev rfl)) rfl λe3 _ U J G=>xg 1 f J rfl rfl λU J=>aI f J ?_ rfl;refine aY cH (X.rdl 0 (b.rdl qz a) rfl).2.1 J rfl λU J=>aI f J ?_ rfl;exact x_l G J rfl λe4 _ U J G=>ng 2 f J rfl rfl λU J=>T (decide (e4<e3)) G U w (J.sub _ rfl) X
 refine aB (xk 3 J rfl λU J=>?_);refine bcG G (λl G=>?_) λl G=>?_
 ·exact ng 5 l J rfl rfl λU J=>S true G U w (J.sub _ rfl) X
 refine xg 2 l J rfl rfl λU J=>aI l J ?_ rfl;exact aY cH (X.rdl 0 (p.rdl qz a) rfl).2.1 J rfl λU J=>ng 2 l J rfl rfl λU J=>S (decide ((a0.length:Int)<a1)) G U w (J.sub _ rfl) X
end
noncomputable section
set_option linter.unusedSimpArgs false
def zI (a0:Int):Option bHy:=ltt (IntKind.u8.wrap a0) λa=>(ltt (oG .u32 a0 8) λb=>(ltt (IntKind.u8.wrap b) λc=>(ltt (oG .u32 a0 16) λd=>(ltt (IntKind.u8.wrap d) λe=>(ltt (oG .u32 a0 24) λf=>(ltt (IntKind.u8.wrap f) λg=>(some [a,c,e,g])))))))
def xW (a0:List Int) (b:Int) (a2:List Int):Option bHy:=ltt (IntKind.u32.wrap (a2.length:Int)) λd=>((zI d).bind λa=>(chk (a.length+[b].length<=140737488355328 / 1) (chk ((a++[b]).length+a2.length<=140737488355328 / 1) (chk (a0.length+((a++[b])++a2).length<=140737488355328 / 1) ((aBn ((a++[b])++a2)).bind λe=>((zI e).bind λc=>(chk ((a0++((a++[b])++a2)).length+c.length<=140737488355328 / 1) (some ((a0++((a++[b])++a2))++c)))))))))
end
section
variable {r:World} {L:List HP} {w:World} {Z:Nat->Prop} {wz:World}
theorem aHe {a0 y} (G:zI a0=some y) (X:SH r (L) w) :
  Ret Tryz.prog 88 #[bHt a0] w λv w'=>∃ (g:Option Addr) (h:Nat) (i:Nat),v=.slice g h i/\SH r (own (kI .u8) 5 g h i y::L) w':=by
 refine enter Tryz.func88 rfl Tryz.ntmps88 [(0,_)] rfl (by simp) ?_;intro U J Qf l q;unfold zI at G;refine nz 1 J rfl λU J=>ws λm j=>xk 1 J rfl λU J=>dW G J (aQ aFl uu5 rfl (J.ev rfl)) rfl λa _ U J G=>x_m J rfl λU J=>dW G J (bHw uE J rfl (by decide)) rfl λn _ U J G=>dW G J (aQ aFl uu5 rfl (J.ev rfl)) rfl λb _ U J G=>x_m J rfl λU J=>dW G J (bHw uE J rfl (by decide)) rfl λo _ U J G=>dW G J (aQ aFl uu5 rfl (J.ev rfl)) rfl λc _ U J G=>x_m J rfl λU J=>dW G J (bHw uE J rfl (by decide)) rfl λp _ U J G=>dW G J (aQ aFl uu5 rfl (J.ev rfl)) rfl λf _ U J G=>jU (d:=(kI .u8)) (e:=5) (ps:=#[(0,bHs a),(1,bHs b),(2,bHs c),(3,bHs f)]) (cells:=[bHs a,bHs b,bHs c,bHs f]) (xs:=[a,b,c,f]) (λw=>by kernel_rfl) rfl ⟨[bHs a],_,rfl,rfl,⟨[bHs b],_,rfl,rfl,⟨[bHs c],_,rfl,rfl,⟨[bHs f],_,rfl,rfl,rfl⟩⟩⟩⟩ J X rfl λk U w X J=>x_m J rfl λU J=>wn (j _ _ ?_);cases G;exact wp_ret (l _ _ (lv Tryz.results88 J rfl ⟨some ⟨k,0,none⟩,4,4,rfl,X⟩))
theorem aB0 {a0 a1 a2 A0 n0 c0 A2 n2 c2 y} (G:xW a0 a1 a2=some y) (X:SH r (own (kI .u8) 5 A0 n0 c0 a0::L) w) (qz:Nat) (u:L[qz]?=some (zone Z wz)) (b:RdL L (kI .u8) A2 n2 c2 a2) (x:Imm Z wz (kI .u32) (some ⟨0,0,none⟩) 16 16 bP) :
  Ret Tryz.prog 61 #[.slice A0 n0 c0,bHs a1,.slice A2 n2 c2] w λv w'=>∃ (c:Option Addr) (f:Nat) (g:Nat),v=.slice c f g/\SH r (own (kI .u8) 5 c f g y::L) w':=by
 refine enter Tryz.func61 rfl Tryz.ntmps61 [(0,_),(1,_),(2,_)] rfl (by simp) ?_;intro U J Qf z a6;unfold xW at G;refine nz 1 J rfl λU J=>ws λA h=>xk 1 J rfl λU J=>aY cH (X.rdl 1 b rfl).2.1 J rfl λU J=>dW G J (aQ uu3 aFl rfl (J.ev rfl)) rfl λB _ U J G=>?_;obtain⟨C,i,G⟩:=bnd G;refine x_c bDy J rfl (aHe i X :) λv U w a J=>?_;obtain⟨D,E,F,rfl,X⟩:=a;refine x_m J rfl λU J=>jU (d:=(kI .u8)) (e:=5) (ps:=#[(0,bHs a1)]) (cells:=[bHs a1]) (xs:=[a1]) (λw=>by kernel_rfl) rfl ⟨[bHs a1],_,rfl,rfl,rfl⟩ J X rfl λH U w X J=>?_;obtain⟨j,G⟩:=aD G;have hr:=X.rd 0 rfl;refine iS 1 aG1 cH J X hr.1 hr.2.1 j rfl rfl λI K M U w X J=>x_m J rfl λU J=>?_;obtain⟨k,G⟩:=aD G;have hr:=X.rdl 3 b rfl;refine iS 0 aG1 cH J X hr.1 hr.2.1 k rfl rfl λN O P U w X J=>x_m J rfl λU J=>wn (h _ _ ?_);refine ws λQ l=>xk 2 J rfl λU J=>?_;obtain⟨m,G⟩:=aD G;have hr:=X.rd 0 rfl;refine iS 2 aG1 cH J X hr.1 hr.2.1 m rfl rfl λR S T U w X J=>x_m J rfl λU J=>?_;obtain⟨W,n,G⟩:=bnd G;refine x_c bDz J rfl (aIi n X (qz+3) u (RdL.own 1 rfl (X.dropN 0)) x :) λv U w a J=>?_;obtain⟨rfl,X⟩:=a;obtain⟨Y,o,G⟩:=bnd G;refine x_c bDy J rfl (aHe o X :) λv U w a J=>?_;obtain⟨a3,a4,a5,rfl,X⟩:=a;obtain⟨p,G⟩:=aD G;have hr:=X.rd 0 rfl;refine iS 1 aG1 cH J X hr.1 hr.2.1 p rfl rfl λq s t U w X J=>x_m J rfl λU J=>wn (l _ _ ?_);replace X:=X.drop 1 |>.drop 1 |>.drop 1;cases G;exact wp_ret (z _ _ (lv Tryz.results61 J rfl ⟨q,s,t,rfl,X⟩))
end
noncomputable section
set_option linter.unusedSimpArgs false
def vT (a:List Int) (c:Int):Option bHy:=ltt (IntKind.u8.wrap c) λb=>(chk (a.length+[b].length<=140737488355328 / 1) (some (a++[b])))
def sR (a:List Int) (b:Int):Option bHy:=vT a b
def mN (b:List Int) (a:Int):Option ((List Int×Int)⊕(List Int×Int)):=if decide (128<=a) then (ltt (IntKind.u8.wrap a) λd=>(ltt (ior .u8 d 128) λc=>(chk (b.length+[c].length<=140737488355328 / 1) (ltt (oG .u64 a 7) λe=>(some (.inl (b++[c],e))))))) else (some (.inr (b,a)))
def gM (a0:List Int) (a:Int):Option bHy:=(loop (λs=>mN s.1 s.2) (a0,a)).bind λt=>sR t.1 t.2
def lQ (a0:List Int) (a:Int):Option bHy:=ltt (xT .i64 a 1) λb=>(ltt (IntKind.u64.wrap b) λc=>(ltt (oG .i64 a 63) λd=>(ltt (IntKind.u64.wrap d) λe=>(ltt (aBi .u64 c e) λf=>((gM a0 f).bind λg=>(some g))))))
def nW (a0:List Int) (a:List UInt8):Option bHy:=ltt (IntKind.u64.wrap (a.length:Int)) λc=>((gM a0 c).bind λb=>(chk (b.length+a.length<=140737488355328 / 1) (some (b++stb a))))
def nM (a:Int):Option (Int):=some a
def mF (a:Int):Option (Int):=nM a
def dD (a0:List Int) (a b:Int):Option bHx:=if decide (b<(a0.length:Int)) then ((at_ a0 b).bind λc=>(ltt (IntKind.i64.wrap (b+1)) λd=>(some (.inl (if c<a then c else a,d))))) else (some (.inr (a)))
def jM (a0:List Int):Option (Int):=if decide ((a0.length:Int)<1) then (none) else ((at_ a0 0).bind λa=>((loop (λs=>dD a0 s.1 s.2) (a,1)).bind λt=>mF t))
def rB (a b:Int):Option (Int):=ltt (IntKind.u8.wrap a) λc=>((at_ ([0,1,2,2,3,3,3,3,4,4,4,4,4,4,4,4,5,5,5,5,5,5,5,5,5,5,5,5,5,5,5,5,6,6,6,6,6,6,6,6,6,6,6,6,6,6,6,6,6,6,6,6,6,6,6,6,6,6,6,6,6,6,6,6,7,7,7,7,7,7,7,7,7,7,7,7,7,7,7,7,7,7,7,7,7,7,7,7,7,7,7,7,7,7,7,7,7,7,7,7,7,7,7,7,7,7,7,7,7,7,7,7,7,7,7,7,7,7,7,7,7,7,7,7,7,7,7,7,8,8,8,8,8,8,8,8,8,8,8,8,8,8,8,8,8,8,8,8,8,8,8,8,8,8,8,8,8,8,8,8,8,8,8,8,8,8,8,8,8,8,8,8,8,8,8,8,8,8,8,8,8,8,8,8,8,8,8,8,8,8,8,8,8,8,8,8,8,8,8,8,8,8,8,8,8,8,8,8,8,8,8,8,8,8,8,8,8,8,8,8,8,8,8,8,8,8,8,8,8,8,8,8,8,8,8,8,8,8,8,8,8,8,8,8,8,8,8,8,8,8,8,8,8,8,8,8]:List UInt8) c).bind λd=>(ltt (IntKind.i64.wrap (d.toNat:Int)) λe=>(ltt (IntKind.i64.wrap (b+e)) λf=>(some f))))
def rA (a b:Int):Option (Int):=if decide (256<=a) then (ltt (oG .u64 a 8) λc=>(ltt (IntKind.i64.wrap (b+8)) λd=>(rB c d))) else (rB a b)
def qZ (a b:Int):Option (Int):=if decide (65536<=a) then (ltt (oG .u64 a 16) λc=>(ltt (IntKind.i64.wrap (b+16)) λd=>(rA c d))) else (rA a b)
def zQ (a0:Int):Option (Int):=if decide (4294967296<=a0) then (ltt (oG .u64 a0 32) λa=>(qZ a 32)) else (qZ a0 0)
def vV (a:List Int) (b:Int) (c:List Int):Option bHy:=chk ((a++[b]).length+c.length<=140737488355328 / 1) (some ((a++[b])++c))
def sS (a:List Int) (b:Int) (c:List Int):Option bHy:=vV a b c
abbrev bH0:=((Int×List Int×Int)⊕List Int)
def vW (a b:Int) (c:List Int):Option bH0:=ltt (IntKind.i64.wrap (a+1)) λd=>(some (.inl (b,c,d)))
def sT (a b:Int) (c:List Int):Option bH0:=vW a b c
def jE (f g:Int) (h a:Int) (c:List Int) (b:Int):Option ((Int×List Int×Int)⊕(Int×List Int)):=if decide (b<g) then (ltt (IntKind.i64.wrap (a.tdiv 8)) λd=>((at_ c d).bind λi=>(ltt (IntKind.i64.wrap (h - f)) λj=>(ltt (IntKind.u64.wrap j) λk=>(chk (0<=b) (ltt (oG .u64 k b) λl=>(ltt (aB7 .u64 l 1) λm=>(ltt (IntKind.u8.wrap m) λn=>(ltt (a.tmod 8) λe=>(chk (0<=e) (ltt (xT .u8 n e) λo=>(ltt (ior .u8 i o) λp=>(ltt (IntKind.i64.wrap (a+1)) λq=>(ltt (IntKind.i64.wrap (b+1)) λr=>(some (.inl (q,c.set d.toNat p,r))))))))))))))))) else (some (.inr (a,c)))
def jD (c:List Int) (d e f:Int) (b:List Int) (a:Int):Option bH0:=if decide (a<(c.length:Int)) then ((at_ c a).bind λg=>((loop (λs=>jE d e g s.1 s.2.1 s.2.2) (f,b,0)).bind λt=>sT a t.1 t.2)) else (some (.inr (b)))
def vU (a0 f:List Int) (c a:Int):Option bHy:=(lQ a0 c).bind λd=>(ltt (IntKind.u8.wrap a) λe=>(chk (d.length+[e].length<=140737488355328 / 1) (ltt (IntKind.i64.wrap ((f.length:Int) * a)) λg=>(ltt (IntKind.i64.wrap (g+7)) λh=>(ltt (IntKind.i64.wrap (h.tdiv 8)) λb=>(chk (0<=b/\(1:Int) * b<=140737488355328) ((loop (λs=>jD f c a s.1 s.2.1 s.2.2) (0,List.replicate b.toNat (0:Int),0)).bind λt=>sS d e t)))))))
def sU (a0 c:List Int) (a b:Int):Option bHy:=vU a0 c a b
def jF (d:List Int) (e a b:Int):Option bHx:=if decide (b<(d.length:Int)) then ((at_ d b).bind λf=>(ltt (IntKind.i64.wrap (f - e)) λg=>(ltt (IntKind.u64.wrap g) λh=>((zQ h).bind λc=>(ltt (IntKind.i64.wrap (b+1)) λi=>(some (.inl (if a<c then c else a,i)))))))) else (some (.inr (a)))
def uW (a0 a:List Int):Option bHy:=if (a.length:Int)==0 then (some a0) else ((jM a).bind λb=>((loop (λs=>jF a b s.1 s.2) (0,0)).bind λt=>sU a0 a b t))
def jB (a:List Int):Option bHy:=some a
def yS (a:List Int):Option bHy:=jB a
def vN (a:List Int):Option bHy:=yS a
abbrev bH1:=((List Int×Int)⊕List Int)
def lZ (c b:List Int) (a:Int):Option bH1:=if decide (a<(c.length:Int)) then ((at_ c a).bind λd=>((lQ b d).bind λe=>(ltt (IntKind.i64.wrap (a+1)) λf=>(some (.inl (e,f)))))) else (some (.inr (b)))
def yT (a:List Int):Option bHy:=jB a
def vO (a:List Int):Option bHy:=yT a
def mA (d b:List Int) (e a:Int):Option ((List Int×Int×Int)⊕List Int):=if decide (a<(d.length:Int)) then ((at_ d a).bind λc=>(ltt (IntKind.i64.wrap (c - e)) λf=>((lQ b f).bind λg=>(ltt (IntKind.i64.wrap (a+1)) λh=>(some (.inl (g,c,h))))))) else (some (.inr (b)))
def yU (a:List Int):Option bHy:=jB a
def vP (a:List Int):Option bHy:=yU a
def yV (j c:List Int) (a b:Int):Option bH1:=(at_ j a).bind λd=>((lQ c d).bind λe=>(ltt (IntKind.i64.wrap (b - 1)) λf=>(ltt (IntKind.u64.wrap f) λg=>((gM e g).bind λh=>(ltt (IntKind.i64.wrap (a+b)) λi=>(some (.inl (h,i))))))))
def vQ (d a:List Int) (b c:Int):Option bH1:=yV d a b c
def qF (a:Int) (b:Bool):Option (Int⊕Int):=if b=true then (ltt (IntKind.i64.wrap (a+1)) λc=>(some (.inl (c)))) else (some (.inr (a)))
def nU (b:List Int) (c a:Int):Option (Int⊕Int):=ltt (IntKind.i64.wrap (c+a)) λd=>(if decide (d<(b.length:Int)) then ((at_ b d).bind λe=>((at_ b c).bind λf=>(qF a (e==f)))) else (qF a false))
def nT (b c:List Int) (a:Int):Option bH1:=if decide (a<(b.length:Int)) then ((loop (λs=>nU b a s) (1)).bind λt=>vQ b c a t) else (some (.inr (c)))
def wS (a0:Int) (b:List Int):Option bHy:=ltt (IntKind.u64.wrap (b.length:Int)) λc=>((gM [a0] c).bind λa=>(if a0==0 then ((loop (λs=>lZ b s.1 s.2) (a,0)).bind λt=>vN t) else (if a0==1 then ((loop (λs=>mA b s.1 s.2.1 s.2.2) (a,0,0)).bind λt=>vO t) else (if a0==2 then ((loop (λs=>nT b s.1 s.2) (a,0)).bind λt=>vP t) else (if a0==3 then ((uW a b).bind λd=>(jB d)) else (jB a))))))
def zT (a:List Int):Option bHy:=some a
def wT (a:List Int):Option bHy:=zT a
def rX (a:Int) (b:List Int):Option bH1:=ltt (IntKind.u8.wrap (a+1)) λc=>(some (.inl (b,c)))
def gJ (a0 b:List Int) (a:Int):Option bH1:=if decide (a<=3) then ((wS a a0).bind λc=>(if decide ((c.length:Int)<(b.length:Int)) then (rX a c) else (rX a b))) else (some (.inr (b)))
def nV (a0:List Int):Option bHy:=(wS 0 a0).bind λa=>((loop (λs=>gJ a0 s.1 s.2) (a,1)).bind λt=>wT t)
end
section
variable {r:World} {L:List HP} {w:World} {Z:Nat->Prop} {wz:World}
theorem iV {a0 a1 A0 n0 c0 y} (G:gM a0 a1=some y) (X:SH r (own (kI .u8) 5 A0 n0 c0 a0::L) w) :
  Ret Tryz.prog 59 #[.slice A0 n0 c0,bHr a1] w λv w'=>∃ (z:Option Addr) (A:Nat) (B:Nat),v=.slice z A B/\SH r (own (kI .u8) 5 z A B y::L) w':=by
 refine enter Tryz.func59 rfl Tryz.ntmps59 [(0,_),(1,_)] rfl (by simp) ?_;intro U J Qf hQ c1;unfold gM at G;refine nz 1 J rfl λU J=>wp_seq_k λa9 D=>aA λt E=>?_;have a8:∀m n,vT m n=some y->∀o p q U w,FR 20 [] U [(0,.slice o p q),(1,bHr n)]->SH r (own (kI .u8) 5 o p q m::L) w->t U w:=by intro m n G o p q U w J X;unfold vT at G;refine E _ _ (D _ _ ?_);refine ws λb1 F=>xk 2 J rfl λU J=>dW G J (aQ bN uu5 rfl (J.ev rfl)) rfl λc _ U J G=>jU (d:=(kI .u8)) (e:=5) (ps:=#[(0,bHs c)]) (cells:=[bHs c]) (xs:=[c]) (λw=>by kernel_rfl) rfl ⟨[bHs c],_,rfl,rfl,rfl⟩ J X rfl λb2 U w X J=>?_;obtain⟨H,G⟩:=aD G;have hr:=X.rd 0 rfl;refine iS 1 aG1 cH J X hr.1 hr.2.1 H rfl rfl λI K M U w X J=>x_m J rfl λU J=>wn (F _ _ ?_);replace X:=X.drop 1;cases G;exact wp_ret (hQ _ _ (lv Tryz.results59 J rfl ⟨I,K,M,rfl,X⟩))
 obtain⟨N,O,G⟩:=bnd G;have P:∀a b,(a,b)=N->∀f g h U w,FR 20 [] U [(0,.slice f g h),(1,bHr b)]->SH r (own (kI .u8) 5 f g h a::L) w->t U w:=by intro a b ht f g h U w J X;subst ht;replace G:sR a b=some y:=G;unfold sR at G;exact a8 a b G f g h U w (J.sub _ rfl) X
 refine aR O (λs U w=>∃i j k,FR 20 [] U [(0,.slice i j k),(1,bHr s.2)]/\SH r (own (kI .u8) 5 i j k s.1::L) w) ⟨A0,n0,c0,J.sub _ rfl,X⟩ ?_;intro b3 Q R G S T U w C;obtain⟨u,x⟩:=Q;replace G:mN u x=some R:=G;unfold mN at G
 try dsimp only at C
 obtain⟨i,j,k,J,X⟩:=C;refine wp_seq_k λb4 W=>nz 2 J rfl λU J=>aX J G rfl (λY G=>?_) λY G=>?_
 ·refine wp_skip (W _ _ ?_);refine wp_seq_k λb5 Z=>aA λb6 a2=>aB (xk 2 J rfl λU J=>?_);refine dW G J (aQ bN uu5 rfl (J.ev rfl)) rfl λb7 _ U J G=>x_l G J rfl λl _ U J G=>jU (d:=(kI .u8)) (e:=5) (ps:=#[(0,bHs l)]) (cells:=[bHs l]) (xs:=[l]) (λw=>by kernel_rfl) rfl ⟨[bHs l],_,rfl,rfl,rfl⟩ J X rfl λb8 U w X J=>?_;obtain⟨a3,G⟩:=aD G;have hr:=X.rd 0 rfl;refine iS 1 aG1 cH J X hr.1 hr.2.1 a3 rfl rfl λa4 a5 a6 U w X J=>x_m J rfl λU J=>wpList_nil (a2 _ _ ?_);refine Z _ _ (aB ?_);refine x_m J rfl λU J=>dW G J (bHw uE J rfl (by decide)) rfl λb9 _ U J G=>x_m J rfl λU J=>wpList_nil ?_;replace X:=X.drop 1;cases G;exact⟨_,S _ rfl,a4,a5,a6,J.sub _ rfl,X⟩
 cases G;exact wp_exit (P u x (T _ rfl) i j k U w (J.sub _ rfl) X)
theorem nR {a0 a1 A0 n0 c0 y} (G:lQ a0 a1=some y) (X:SH r (own (kI .u8) 5 A0 n0 c0 a0::L) w) :
  Ret Tryz.prog 60 #[.slice A0 n0 c0,bHq a1] w λv w'=>∃ (a:Option Addr) (b:Nat) (c:Nat),v=.slice a b c/\SH r (own (kI .u8) 5 a b c y::L) w':=by
 refine enter Tryz.func60 rfl Tryz.ntmps60 [(0,_),(1,_)] rfl (by simp) ?_;intro U J Qf i s;unfold lQ at G;refine nz 1 J rfl λU J=>ws λk d=>xk 2 J rfl λU J=>dW G J (bHw aEy J rfl (by decide)) rfl λl _ U J G=>dW G J (aQ uu2 bN rfl (J.ev rfl)) rfl λm _ U J G=>x_m J rfl λU J=>dW G J (bHw uE J rfl (by decide)) rfl λn _ U J G=>dW G J (aQ uu2 bN rfl (J.ev rfl)) rfl λo _ U J G=>x_l G J rfl λp _ U J G=>?_;obtain⟨q,e,G⟩:=bnd G;refine x_c aKg J rfl (iV e X :) λv U w j J=>?_;obtain⟨f,g,h,rfl,X⟩:=j;refine x_m J rfl λU J=>wn (d _ _ ?_);cases G;exact wp_ret (i _ _ (lv Tryz.results60 J rfl ⟨f,g,h,rfl,X⟩))
theorem xI {a0 a1 A0 n0 c0 y} (G:nW a0 a1=some y) (X:SH r (own (kI .u8) 5 A0 n0 c0 a0::L) w) :
  Ret Tryz.prog 85 #[.slice A0 n0 c0,str a1] w λv w'=>∃ (a:Option Addr) (b:Nat) (c:Nat),v=.slice a b c/\SH r (own (kI .u8) 5 a b c y::L) w':=by
 refine enter Tryz.func85 rfl Tryz.ntmps85 [(0,_),(1,_)] rfl (by simp) ?_;intro U J Qf j s;unfold nW at G;refine nz 1 J rfl λU J=>ws λl d=>xk 2 J rfl λU J=>x_v J (aDj uu9 rfl (J.ev rfl)) rfl λU J=>dW G J (aQ uu3 bN rfl (J.ev rfl)) rfl λm _ U J G=>?_;obtain⟨n,e,G⟩:=bnd G;refine x_c aKg J rfl (iV e X :) λv U w k J=>?_;obtain⟨o,p,q,rfl,X⟩:=k;refine x_m J rfl λU J=>?_;obtain⟨f,G⟩:=aD G;refine aYl 0 aG1 cH uu9 J X f rfl rfl λg h i U w X J=>x_m J rfl λU J=>wn (d _ _ ?_);cases G;exact wp_ret (j _ _ (lv Tryz.results85 J rfl ⟨g,h,i,rfl,X⟩))
theorem aAz {a0 A0 n0 c0 y} (G:jM a0=some y) (X:SH r (L) w) (a:RdL L (kI .i64) A0 n0 c0 a0) :
  Ret Tryz.prog 148 #[.slice A0 n0 c0] w λv w'=>v=bHq y/\SH r (L) w':=by
 refine enter Tryz.func148 rfl Tryz.ntmps148 [(0,_)] rfl (by simp) ?_;intro U J Qf M a4;unfold jM at G;refine nz 1 J rfl λU J=>wp_seq_k λO j=>ws λP k=>xk 1 J rfl λU J=>aY bU (X.rdl 0 a rfl).2.1 J rfl λU J=>nk 1 J rfl λU J=>k _ _ (aX J G rfl (λl G=>?_) λl G=>?_)
 ·refine aB (x_v J (aR9 uu9 rfl rfl (J.ev rfl)) rfl λU J=>?_);cases G
 refine wp_skip (j _ _ ?_);refine ws λQ m=>xk 1 J rfl λU J=>?_;obtain⟨R,e,G⟩:=bnd G;refine dO bU sz2 (X.rdl 0 a rfl) e J rfl λU J=>?_;obtain⟨cs,d,n⟩:=el (X.rdl 0 a rfl) e;obtain rfl:=d;refine aK uu2 (n 0 _ rfl) J rfl λU J=>x_m J rfl λU J=>wn (m _ _ ?_);refine wp_seq_k λS o=>nz 1 J rfl λU J=>aA λf p=>?_;have N:∀c,nM c=some y->∀U w,FR 25 [] U [(3,bHq c)]->SH r (L) w->f U w:=by intro c G U w J X;unfold nM at G;refine p _ _ (o _ _ ?_);refine nz 2 J rfl λU J=>?_;cases G;exact wp_ret (M _ _ (lv Tryz.results148 J rfl ⟨rfl,X⟩))
 obtain⟨q,t,G⟩:=bnd G;have u:∀b,(b)=q->∀U w,FR 25 [] U [(3,bHq b)]->SH r (L) w->f U w:=by intro b ht U w J X;subst ht;replace G:mF b=some y:=G;unfold mF at G;exact N b G U w (J.sub _ rfl) X
 refine aR t (λs U w=>FR 25 [] U [(0,.slice A0 n0 c0),(3,bHq s.1),(4,bHq s.2)]/\SH r (L) w) ⟨J.sub _ rfl,X⟩ ?_;intro T x z G A B U w i;obtain⟨g,C⟩:=x;replace G:dD a0 g C=some z:=G;unfold dD at G
 try dsimp only at i
 obtain⟨J,X⟩:=i;refine wp_seq_k λW D=>ws λY E=>xk 2 J rfl λU J=>aY bU (X.rdl 0 a rfl).2.1 J rfl λU J=>nk 1 J rfl λU J=>E _ _ (aX J G rfl (λF G=>?_) λF G=>?_)
 ·refine wp_skip (D _ _ ?_);refine wp_seq_k λZ H=>aA λa1 I=>aB (xk 3 J rfl λU J=>?_);obtain⟨a2,h,G⟩:=bnd G;refine dO bU sz2 (X.rdl 0 a rfl) h J rfl λU J=>?_;obtain⟨cs,d,K⟩:=el (X.rdl 0 a rfl) h;obtain rfl:=d;refine aK uu2 (K 0 _ rfl) J rfl λU J=>x_v J (bHw aJu J rfl) rfl λU J=>x_m J rfl λU J=>wpList_nil (I _ _ ?_);refine H _ _ (aB ?_);refine x_m J rfl λU J=>x_l G J rfl λa3 _ U J G=>x_m J rfl λU J=>wpList_nil ?_;cases G;exact⟨_,A _ rfl,J.sub _ rfl,X⟩
 cases G;exact wp_exit (u g (B _ rfl) U w (J.sub _ rfl) X)
theorem aLz {a0 y} (G:zQ a0=some y) (X:SH r (L) w) :
  Ret Tryz.prog 134 #[bHr a0] w λv w'=>v=bHq y/\SH r (L) w':=by
 refine enter Tryz.func134 rfl Tryz.ntmps134 [(0,_)] rfl (by simp) ?_;intro U J Qf H S;unfold zQ at G;refine nz 1 J rfl λU J=>wp_seq_k λk l=>?_;have h:∀a b,qZ a b=some y->∀U w,FR 25 [] U [(0,bHr a),(2,bHq b)]->SH r (L) w->k U w:=by
  intro a b G U w J X;unfold qZ at G;refine l _ _ (wp_seq_k λm n=>?_);have i:∀c d,rA c d=some y->∀U w,FR 25 [] U [(0,bHr c),(2,bHq d)]->SH r (L) w->m U w:=by
   intro c d G U w J X;unfold rA at G;refine n _ _ (wp_seq_k λo p=>?_);have j:∀e f,rB e f=some y->∀U w,FR 25 [] U [(0,bHr e),(2,bHq f)]->SH r (L) w->o U w:=by intro e f G U w J X;unfold rB at G;refine p _ _ (ws λI q=>?_);refine xk 2 J rfl λU J=>dW G J (aQ bN uu5 rfl (J.ev rfl)) rfl λK _ U J G=>?_;obtain⟨M,g,G⟩:=bnd G;refine x_v J (aO5 uu9 rfl (J.ev rfl) (J.ev rfl) (iQ g).1 (iQ g).2.2) rfl λU J=>dW G J (aQ uu5 uu3 rfl (J.ev rfl)) rfl λN _ U J G=>x_l G J rfl λO _ U J G=>x_m J rfl λU J=>wn (q _ _ ?_);cases G;exact wp_ret (H _ _ (lv Tryz.results134 J rfl ⟨rfl,X⟩))
   refine nz 2 J rfl λU J=>aX J G rfl (λs G=>?_) λs G=>?_
   ·refine ws λP t=>xk 1 J rfl λU J=>dW G J (bHw uE J rfl (by decide)) rfl λu _ U J G=>x_m J rfl λU J=>wn (t _ _ ?_);refine aB (x_m J rfl λU J=>?_);exact x_l G J rfl λx _ U J G=>x_m J rfl λU J=>wpList_nil (j u x G U w (J.sub _ rfl) X)
   exact wp_skip (j c d G U w (J.sub _ rfl) X)
  refine nz 2 J rfl λU J=>aX J G rfl (λz G=>?_) λz G=>?_
  ·refine ws λQ A=>xk 1 J rfl λU J=>dW G J (bHw uE J rfl (by decide)) rfl λB _ U J G=>x_m J rfl λU J=>wn (A _ _ ?_);refine aB (x_m J rfl λU J=>?_);exact x_l G J rfl λC _ U J G=>x_m J rfl λU J=>wpList_nil (i B C G U w (J.sub _ rfl) X)
  exact wp_skip (i a b G U w (J.sub _ rfl) X)
 refine nz 2 J rfl λU J=>aX J G rfl (λD G=>?_) λD G=>?_
 ·refine ws λR E=>xk 1 J rfl λU J=>dW G J (bHw uE J rfl (by decide)) rfl λF _ U J G=>x_m J rfl λU J=>wn (E _ _ ?_);refine aB (x_m J rfl λU J=>?_);exact wpList_nil (h F 32 G U w (J.sub _ rfl) X)
 exact wp_skip (h a0 0 G U w (J.sub _ rfl) X)
theorem aKb {a0 a1 A0 n0 c0 A1 n1 c1 y} (G:uW a0 a1=some y) (X:SH r (own (kI .u8) 5 A0 n0 c0 a0::L) w) (m:RdL L (kI .i64) A1 n1 c1 a1) :
  Ret Tryz.prog 138 #[.slice A0 n0 c0,.slice A1 n1 c1] w λv w'=>∃ (B0:Option Addr) (m0:Nat) (d0:Nat),v=.slice B0 m0 d0/\SH r (own (kI .u8) 5 B0 m0 d0 y::L) w':=by
 refine enter Tryz.func138 rfl Tryz.ntmps138 [(0,_),(1,_)] rfl (by simp) ?_;intro U J Qf hQ n7;unfold uW at G;refine nz 1 J rfl λU J=>wp_seq_k λj5 a6=>ws λj6 a7=>xk 1 J rfl λU J=>aY bU (X.rdl 1 m rfl).2.1 J rfl λU J=>nk 1 J rfl λU J=>a7 _ _ (aX J G rfl (λa8 G=>?_) λa8 G=>?_)
 ·refine nz 2 J rfl λU J=>?_;cases G;exact wp_ret (hQ _ _ (lv Tryz.results138 J rfl ⟨A0,n0,c0,rfl,X⟩))
 refine wp_skip (a6 _ _ ?_);refine ws λj7 a9=>xk 1 J rfl λU J=>?_;obtain⟨f,b1,G⟩:=bnd G;refine x_c bDf J rfl (aAz b1 X (RdL.sfx 1 rfl m) :) λv U w z J=>?_;obtain⟨rfl,X⟩:=z;refine x_m J rfl λU J=>wn (a9 _ _ ?_);refine nz 1 J rfl λU J=>wp_seq_k λj8 b2=>ws λj9 b3=>xk 1 J rfl λU J=>aY bU (X.rdl 1 m rfl).2.1 J rfl λU J=>x_m J rfl λU J=>wn (b3 _ _ ?_);refine aA λO b4=>?_;have j2:∀l,vU a0 a1 f l=some y->∀U w,FR 83 [] U [(0,.slice A0 n0 c0),(1,.slice A1 n1 c1),(5,bHq f),(6,bHq l)]->SH r (own (kI .u8) 5 A0 n0 c0 a0::L) w->O U w:=by
  intro l G U w J X;unfold vU at G;refine b4 _ _ (b2 _ _ ?_);refine ws λk0 b5=>xk 2 J rfl λU J=>?_;obtain⟨n,b6,G⟩:=bnd G;refine x_c aOf J rfl (nR b6 X :) λv U w z J=>?_;obtain⟨k1,k2,k3,rfl,X⟩:=z;refine x_m J rfl λU J=>dW G J (aQ uu3 uu5 rfl (J.ev rfl)) rfl λg _ U J G=>jU (d:=(kI .u8)) (e:=5) (ps:=#[(0,bHs g)]) (cells:=[bHs g]) (xs:=[g]) (λw=>by kernel_rfl) rfl ⟨[bHs g],_,rfl,rfl,rfl⟩ J X rfl λk4 U w X J=>?_;obtain⟨b7,G⟩:=aD G;have hr:=X.rd 0 rfl;refine iS 1 aG1 cH J X hr.1 hr.2.1 b7 rfl rfl λi j k U w X J=>x_m J rfl λU J=>wn (b5 _ _ ?_);refine nz 1 J rfl λU J=>ws λk5 b8=>xk 1 J rfl λU J=>aY bU (X.rdl 2 m rfl).2.1 J rfl λU J=>x_m J rfl λU J=>x_l G J rfl λk6 _ U J G=>x_l G J rfl λk7 _ U J G=>dW G J (bHw aO6 J rfl (by decide)) rfl λa _ U J G=>?_;obtain⟨b9,G⟩:=aD G;refine aQ3 (d:=(kI .u8)) (bytes:=1) 0 aG1 rfl cH b9 J X rfl λb U w X J=>x_m J rfl λU J=>wn (b8 _ _ ?_);refine wp_seq_k λk8 c2=>ws λk9 c3=>xk 1 J rfl λU J=>aY bU (X.rdl 3 m rfl).2.1 J rfl λU J=>x_m J rfl λU J=>wn (c3 _ _ ?_);refine aA λP c4=>?_;have j3:∀D,vV n g D=some y->∀U w,FR 83 [] U [(0,.slice i j k),(10,.slice (some ⟨b,0,none⟩) a.toNat a.toNat)]->SH r (own (kI .u8) 5 i j k (n++[g])::own (kI .u8) 5 (some ⟨b,0,none⟩) a.toNat a.toNat D::L) w->P U w:=by intro D G U w J X;unfold vV at G;refine c4 _ _ (c2 _ _ ?_);refine ws λl0 c5=>xk 2 J rfl λU J=>?_;obtain⟨c6,G⟩:=aD G;have hr:=X.rd 1 rfl;refine iS 0 aG1 cH J X hr.1 hr.2.1 c6 rfl rfl λc7 c8 c9 U w X J=>x_m J rfl λU J=>wn (c5 _ _ ?_);replace X:=X.drop 1;cases G;exact wp_ret (hQ _ _ (lv Tryz.results138 J rfl ⟨c7,c8,c9,rfl,X⟩))
  obtain⟨d1,d2,G⟩:=bnd G;have d3:∀q,(q)=d1->∀U w,FR 83 [] U [(0,.slice i j k),(10,.slice (some ⟨b,0,none⟩) a.toNat a.toNat)]->SH r (own (kI .u8) 5 i j k (n++[g])::own (kI .u8) 5 (some ⟨b,0,none⟩) a.toNat a.toNat q::L) w->P U w:=by intro q ht U w J X;subst ht;replace G:sS n g q=some y:=G;unfold sS at G;exact j3 q G U w (J.sub _ rfl) X
  replace X:=X.drop 2 |>.pk 1;refine aR d2 (λs U w=>FR 83 [] U [(0,.slice i j k),(5,bHq f),(6,bHq l),(9,bHq s.1),(10,.slice (some ⟨b,0,none⟩) a.toNat a.toNat),(48,.slice A1 n1 c1),(49,bHq (a1.length:Int)),(50,bHq s.2.2)]/\SH r (own (kI .u8) 5 i j k (n++[g])::own (kI .u8) 5 (some ⟨b,0,none⟩) a.toNat a.toNat s.2.1::L) w) ⟨J.sub _ rfl,X⟩ ?_;intro l1 d4 E G d5 d6 U w o;obtain⟨d7,Q,p⟩:=d4;replace G:jD a1 f l d7 Q p=some E:=G;unfold jD at G
  try dsimp only at o
  obtain⟨J,X⟩:=o;refine nz 1 J rfl λU J=>wp_seq_k λl2 d8=>aX J G rfl (λd9 G=>?_) λd9 G=>?_
  ·refine wp_skip (d8 _ _ ?_);refine wp_seq_k λl3 e0=>aA λl4 e1=>ws λl5 e2=>?_;obtain⟨F,R,G⟩:=bnd G;refine dO bU sz2 (X.rdl 2 m rfl) R J rfl λU J=>?_;obtain⟨cs,A,e3⟩:=el (X.rdl 2 m rfl) R;obtain rfl:=A;refine aK uu2 (e3 0 _ rfl) J rfl λU J=>x_m J rfl λU J=>wn (e2 _ _ ?_);refine nz 2 J rfl λU J=>aA λS e4=>?_;have j4:∀H I,vW p H I=some E->∀U w,FR 83 [] U [(0,.slice i j k),(5,bHq f),(6,bHq l),(9,bHq H),(10,.slice (some ⟨b,0,none⟩) a.toNat a.toNat),(48,.slice A1 n1 c1),(49,bHq (a1.length:Int)),(50,bHq p)]->SH r (own (kI .u8) 5 i j k (n++[g])::own (kI .u8) 5 (some ⟨b,0,none⟩) a.toNat a.toNat I::L) w->S U w:=by intro H I G U w J X;unfold vW at G;refine e4 _ _ (e1 _ _ ?_);refine e0 _ _ (aB ?_);refine x_l G J rfl λl6 _ U J G=>x_m J rfl λU J=>wpList_nil ?_;cases G;exact⟨_,d5 _ rfl,J.sub _ rfl,X⟩
   obtain⟨e5,e6,G⟩:=bnd G;have e7:∀t u,(t,u)=e5->∀U w,FR 83 [] U [(0,.slice i j k),(5,bHq f),(6,bHq l),(9,bHq t),(10,.slice (some ⟨b,0,none⟩) a.toNat a.toNat),(48,.slice A1 n1 c1),(49,bHq (a1.length:Int)),(50,bHq p)]->SH r (own (kI .u8) 5 i j k (n++[g])::own (kI .u8) 5 (some ⟨b,0,none⟩) a.toNat a.toNat u::L) w->S U w:=by intro t u ht U w J X;subst ht;replace G:sT p t u=some E:=G;unfold sT at G;exact j4 t u G U w (J.sub _ rfl) X
   refine aR e6 (λs U w=>FR 83 [] U [(0,.slice i j k),(5,bHq f),(6,bHq l),(9,bHq s.1),(10,.slice (some ⟨b,0,none⟩) a.toNat a.toNat),(12,bHq F),(48,.slice A1 n1 c1),(49,bHq (a1.length:Int)),(50,bHq p),(54,bHq l),(55,bHq s.2.2)]/\SH r (own (kI .u8) 5 i j k (n++[g])::own (kI .u8) 5 (some ⟨b,0,none⟩) a.toNat a.toNat s.2.1::L) w) ⟨J.sub _ rfl,X⟩ ?_;intro l7 e8 e9 G f0 f1 U w o;obtain⟨B,T,W⟩:=e8;replace G:jE f l F B T W=some e9:=G;unfold jE at G
   try dsimp only at o
   obtain⟨J,X⟩:=o;refine nz 1 J rfl λU J=>wp_seq_k λl8 f2=>aX J G rfl (λf3 G=>?_) λf3 G=>?_
   ·refine wp_skip (f2 _ _ ?_);refine wp_seq_k λl9 f4=>aA λm1 f5=>nz 2 J rfl λU J=>wp_seq_k λm2 f6=>wD [0,0,2,7,15,0,0,96,224,0,992,2016,4064,0,8192,32736,65535,131071,262143] [18] rfl J X (by kernel_rfl) λw X=>?_;obtain⟨M,f7,G⟩:=gZ G;obtain⟨f8,C,G⟩:=bnd G;obtain⟨cs,A,f9⟩:=el (X.rd 1 rfl) C;obtain rfl:=A;obtain⟨g0,g1,G⟩:=gZ G;obtain⟨g2,g3,G⟩:=gZ G;obtain⟨g4,G⟩:=aD G;obtain⟨g5,g6,G⟩:=gZ G;obtain⟨g7,g8,G⟩:=gZ G;obtain⟨g9,h0,G⟩:=gZ G;obtain⟨h1,h2,G⟩:=gZ G;obtain⟨h3,G⟩:=aD G;obtain⟨h4,h5,G⟩:=gZ G;obtain⟨N,h6,G⟩:=gZ G;refine⟨[(0,.slice (some ⟨b,0,none⟩) a.toNat a.toNat),(1,bHq B),(2,bHq M),(3,.pointer (some (ea (some ⟨b,0,none⟩) (M.toNat * 1)))),(4,bHs f8),(5,bHq F),(6,bHq f),(7,bHq g0),(8,bHr g2),(9,bHq W),(10,bHr g5),(11,bHr g7),(12,bHs g9),(13,bHq B),(14,bHq h1),(15,bHs h4),(16,bHs N),(17,.pointer (some (ea (some ⟨b,0,none⟩) (M.toNat * 1))))],?_⟩;refine dF [0,1,2,3,4,5,6,7,8,9,10,11,12,13,14,15,16,17] [18] (by kernel_rfl) ⟨pm rfl,pm rfl,pt [(59,_)] rfl λU J=>cG f7 (bHw aO6 J rfl (by decide)),pt [(58,_),(60,_)] rfl (λU J=>fK cH sz5 (X.rd 1 rfl) C J rfl rfl rfl),pt [(61,_)] rfl (λU J=>aS uu5 (f9 0 _ rfl) J rfl rfl rfl),pm rfl,pm rfl,pt [(63,_),(64,_)] rfl λU J=>cG g1 (bHw aAh J rfl),pt [(65,_)] rfl λU J=>cG g3 (aQ uu2 bN rfl (J.ev rfl)),pm rfl,pt [(66,_),(67,_)] rfl λU J=>cG g6 (bHw uE J rfl g4),pt [(68,_)] rfl λU J=>cG g8 (bHw aZw J rfl),pt [(69,_)] rfl λU J=>cG h0 (aQ bN uu5 rfl (J.ev rfl)),pm rfl,pt [(71,_)] rfl λU J=>cG h2 (bHw aBs J rfl (by decide)),pt [(70,_),(72,_)] rfl λU J=>cG h5 (bHw aEy J rfl h3),pt [(62,_),(73,_)] rfl λU J=>cG h6 (bHw aM4 J rfl),pt [(58,_),(60,_)] rfl (λU J=>fK cH sz5 (X.rd 1 rfl) C J rfl rfl rfl),trivial⟩ ⟨et [(74,_),(75,_)] rfl (λU J K hK=>?_),trivial⟩;refine aLx (z':=N) (off:=0) (vs:=[bHs N]) 1 sz5 J X rfl (iQ C).2.2 (λc h=>by cases h;rfl) (λw X=>?_) rfl rfl rfl rfl rfl rfl;refine hK _ [] _ rfl (rV [] (by kernel_rfl) trivial ⟨by kernel_rfl,by kernel_rfl⟩ [(0,_),(5,_),(6,_),(9,_),(10,_),(12,_),(48,_),(49,_),(50,_),(54,_),(55,_)] rfl (λU J=>?_));refine f6 _ _ (aB ?_);refine x_m J rfl λU J=>x_l G J rfl λm3 _ U J G=>x_m J rfl λU J=>wpList_nil (f5 _ _ ?_);refine f4 _ _ (aB ?_);refine x_l G J rfl λm4 _ U J G=>x_m J rfl λU J=>wpList_nil ?_;replace X:=X.pk 1;cases G;exact⟨_,f0 _ rfl,J.sub _ rfl,X⟩
   cases G;exact wp_exit (e7 B T (f1 _ rfl) U w (J.sub _ rfl) X)
  cases G;exact wp_exit (d3 Q (d6 _ rfl) U w (J.sub _ rfl) X)
 obtain⟨h7,h8,G⟩:=bnd G;have h9:∀x,(x)=h7->∀U w,FR 83 [] U [(0,.slice A0 n0 c0),(1,.slice A1 n1 c1),(5,bHq f),(6,bHq x)]->SH r (own (kI .u8) 5 A0 n0 c0 a0::L) w->O U w:=by intro x ht U w J X;subst ht;replace G:sU a0 a1 f x=some y:=G;unfold sU at G;exact j2 x G U w (J.sub _ rfl) X
 refine aR h8 (λs U w=>FR 83 [] U [(0,.slice A0 n0 c0),(1,.slice A1 n1 c1),(5,bHq f),(6,bHq s.1),(20,.slice A1 n1 c1),(21,bHq (a1.length:Int)),(22,bHq s.2)]/\SH r (own (kI .u8) 5 A0 n0 c0 a0::L) w) ⟨J.sub _ rfl,X⟩ ?_;intro m5 i0 i1 G i2 i3 U w o;obtain⟨Y,i4⟩:=i0;replace G:jF a1 f Y i4=some i1:=G;unfold jF at G
 try dsimp only at o
 obtain⟨J,X⟩:=o;refine nz 1 J rfl λU J=>wp_seq_k λm6 i5=>aX J G rfl (λi6 G=>?_) λi6 G=>?_
 ·refine wp_skip (i5 _ _ ?_);refine wp_seq_k λm7 i7=>aA λm8 i8=>ws λm9 i9=>?_;obtain⟨n2,Z,G⟩:=bnd G;refine dO bU sz2 (X.rdl 1 m rfl) Z J rfl λU J=>?_;obtain⟨cs,A,j0⟩:=el (X.rdl 1 m rfl) Z;obtain rfl:=A;refine aK uu2 (j0 0 _ rfl) J rfl λU J=>x_m J rfl λU J=>wn (i9 _ _ ?_);refine aB (xk 3 J rfl λU J=>?_);refine x_l G J rfl λn3 _ U J G=>dW G J (aQ uu2 bN rfl (J.ev rfl)) rfl λn4 _ U J G=>?_;obtain⟨n5,j1,G⟩:=bnd G;refine x_c bDb J rfl (aLz j1 X :) λv U w z J=>?_;obtain⟨rfl,X⟩:=z;refine x_v J (bHw aFe J rfl) rfl λU J=>x_m J rfl λU J=>wpList_nil (i8 _ _ ?_);refine i7 _ _ (aB ?_);refine x_l G J rfl λn6 _ U J G=>x_m J rfl λU J=>wpList_nil ?_;cases G;exact⟨_,i2 _ rfl,J.sub _ rfl,X⟩
 cases G;exact wp_exit (h9 Y (i3 _ rfl) U w (J.sub _ rfl) X)
theorem aHc {a0 a1 A1 n1 c1 y} (G:wS a0 a1=some y) (X:SH r (L) w) (f:RdL L (kI .i64) A1 n1 c1 a1) :
  Ret Tryz.prog 122 #[bHs a0,.slice A1 n1 c1] w λv w'=>∃ (B0:Option Addr) (m0:Nat) (d0:Nat),v=.slice B0 m0 d0/\SH r (own (kI .u8) 5 B0 m0 d0 y::L) w':=by
 refine enter Tryz.func122 rfl Tryz.ntmps122 [(0,_),(1,_)] rfl (by simp) ?_;intro U J Qf hQ s0;unfold wS at G;refine nz 1 J rfl λU J=>ws λn7 e0=>xk 1 J rfl λU J=>jU (d:=(kI .u8)) (e:=5) (ps:=#[(0,bHs a0)]) (cells:=[bHs a0]) (xs:=[a0]) (λw=>by kernel_rfl) rfl ⟨[bHs a0],_,rfl,rfl,rfl⟩ J X rfl λn8 U w X J=>x_m J rfl λU J=>aY bU (X.rdl 1 f rfl).2.1 J rfl λU J=>dW G J (aQ uu3 bN rfl (J.ev rfl)) rfl λn9 _ U J G=>?_;obtain⟨e1,e2,G⟩:=bnd G;refine x_c aKg J rfl (iV e2 X :) λv U w k J=>?_;obtain⟨B,C,D,rfl,X⟩:=k;refine x_m J rfl λU J=>wn (e0 _ _ ?_);refine wp_seq_k λo0 e3=>nz 1 J rfl λU J=>aA λe4 e5=>?_;have A:∀b7,jB b7=some y->∀E F H U w,FR 93 [] U [(5,.slice E F H)]->SH r (own (kI .u8) 5 E F H b7::L) w->e4 U w:=by intro b7 G E F H U w J X;unfold jB at G;refine e5 _ _ (e3 _ _ ?_);refine nz 2 J rfl λU J=>?_;cases G;exact wp_ret (hQ _ _ (lv Tryz.results122 J rfl ⟨E,F,H,rfl,X⟩))
 refine nz 2 J rfl λU J=>aX J G rfl (λe6 G=>?_) λe6 G=>?_
 ·refine ws λo1 e7=>xk 1 J rfl λU J=>aY bU (X.rdl 1 f rfl).2.1 J rfl λU J=>x_m J rfl λU J=>wn (e7 _ _ ?_);refine aA λc3 e8=>?_;have n3:∀I,yS I=some y->∀K M N U w,FR 93 [] U [(5,.slice K M N)]->SH r (own (kI .u8) 5 K M N I::L) w->c3 U w:=by intro I G K M N U w J X;unfold yS at G;exact e8 _ _ (A I G K M N U w (J.sub _ rfl) X)
  obtain⟨e9,f0,G⟩:=bnd G;have f1:∀t,(t)=e9->∀O P Q U w,FR 93 [] U [(5,.slice O P Q)]->SH r (own (kI .u8) 5 O P Q t::L) w->c3 U w:=by intro t ht O P Q U w J X;subst ht;replace G:vN t=some y:=G;unfold vN at G;exact n3 t G O P Q U w (J.sub _ rfl) X
  refine aR f0 (λs U w=>∃R S T,FR 93 [] U [(5,.slice R S T),(22,.slice A1 n1 c1),(23,bHq (a1.length:Int)),(24,bHq s.2)]/\SH r (own (kI .u8) 5 R S T s.1::L) w) ⟨B,C,D,J.sub _ rfl,X⟩ ?_;intro o2 f2 f3 G f4 f5 U w l;obtain⟨c4,f6⟩:=f2;replace G:lZ a1 c4 f6=some f3:=G;unfold lZ at G
  try dsimp only at l
  obtain⟨R,S,T,J,X⟩:=l;refine nz 1 J rfl λU J=>wp_seq_k λo3 f7=>aX J G rfl (λf8 G=>?_) λf8 G=>?_
  ·refine wp_skip (f7 _ _ ?_);refine wp_seq_k λo4 f9=>aA λo5 g0=>ws λo6 g1=>?_;obtain⟨o7,c5,G⟩:=bnd G;refine dO bU sz2 (X.rdl 1 f rfl) c5 J rfl λU J=>?_;obtain⟨cs,m,g2⟩:=el (X.rdl 1 f rfl) c5;obtain rfl:=m;refine aK uu2 (g2 0 _ rfl) J rfl λU J=>x_m J rfl λU J=>wn (g1 _ _ ?_);refine aB (xk 2 J rfl λU J=>?_);obtain⟨o8,g3,G⟩:=bnd G;refine x_c aOf J rfl (nR g3 X :) λv U w k J=>?_;obtain⟨g4,g5,g6,rfl,X⟩:=k;refine x_m J rfl λU J=>wpList_nil (g0 _ _ ?_);refine f9 _ _ (aB ?_);refine x_l G J rfl λo9 _ U J G=>x_m J rfl λU J=>wpList_nil ?_;cases G;exact⟨_,f4 _ rfl,g4,g5,g6,J.sub _ rfl,X⟩
  cases G;exact wp_exit (f1 c4 (f5 _ rfl) R S T U w (J.sub _ rfl) X)
 refine nz 2 J rfl λU J=>aX J G rfl (λg7 G=>?_) λg7 G=>?_
 ·refine nz 1 J rfl λU J=>ws λp0 g8=>xk 1 J rfl λU J=>aY bU (X.rdl 1 f rfl).2.1 J rfl λU J=>x_m J rfl λU J=>wn (g8 _ _ ?_);refine aA λc6 g9=>?_;have n4:∀W,yT W=some y->∀Y Z a2 U w,FR 93 [] U [(5,.slice Y Z a2)]->SH r (own (kI .u8) 5 Y Z a2 W::L) w->c6 U w:=by intro W G Y Z a2 U w J X;unfold yT at G;exact g9 _ _ (A W G Y Z a2 U w (J.sub _ rfl) X)
  obtain⟨h0,h1,G⟩:=bnd G;have h2:∀u,(u)=h0->∀a3 a4 a5 U w,FR 93 [] U [(5,.slice a3 a4 a5)]->SH r (own (kI .u8) 5 a3 a4 a5 u::L) w->c6 U w:=by intro u ht a3 a4 a5 U w J X;subst ht;replace G:vO u=some y:=G;unfold vO at G;exact n4 u G a3 a4 a5 U w (J.sub _ rfl) X
  refine aR h1 (λs U w=>∃a6 a7 a8,FR 93 [] U [(5,.slice a6 a7 a8),(8,bHq s.2.1),(34,.slice A1 n1 c1),(35,bHq (a1.length:Int)),(36,bHq s.2.2)]/\SH r (own (kI .u8) 5 a6 a7 a8 s.1::L) w) ⟨B,C,D,J.sub _ rfl,X⟩ ?_;intro p1 h3 h4 G h5 h6 U w l;obtain⟨c7,h7,h8⟩:=h3;replace G:mA a1 c7 h7 h8=some h4:=G;unfold mA at G
  try dsimp only at l
  obtain⟨a6,a7,a8,J,X⟩:=l;refine nz 1 J rfl λU J=>wp_seq_k λp2 h9=>aX J G rfl (λi0 G=>?_) λi0 G=>?_
  ·refine wp_skip (h9 _ _ ?_);refine wp_seq_k λp3 i1=>aA λp4 i2=>ws λp5 i3=>?_;obtain⟨p6,c8,G⟩:=bnd G;refine dO bU sz2 (X.rdl 1 f rfl) c8 J rfl λU J=>?_;obtain⟨cs,m,i4⟩:=el (X.rdl 1 f rfl) c8;obtain rfl:=m;refine aK uu2 (i4 0 _ rfl) J rfl λU J=>x_m J rfl λU J=>wn (i3 _ _ ?_);refine ws λp7 i5=>xk 3 J rfl λU J=>x_l G J rfl λp8 _ U J G=>?_;obtain⟨p9,i6,G⟩:=bnd G;refine x_c aOf J rfl (nR i6 X :) λv U w k J=>?_;obtain⟨i7,i8,i9,rfl,X⟩:=k;refine x_m J rfl λU J=>wn (i5 _ _ ?_);refine aB (nk 2 J rfl λU J=>?_);refine i2 _ _ (i1 _ _ ?_);refine aB (x_l G J rfl λq0 _ U J G=>?_);refine x_m J rfl λU J=>wpList_nil ?_;cases G;exact⟨_,h5 _ rfl,i7,i8,i9,J.sub _ rfl,X⟩
  cases G;exact wp_exit (h2 c7 (h6 _ rfl) a6 a7 a8 U w (J.sub _ rfl) X)
 refine nz 2 J rfl λU J=>aX J G rfl (λj0 G=>?_) λj0 G=>?_
 ·refine nz 1 J rfl λU J=>aA λc9 j1=>?_;have n5:∀a9,yU a9=some y->∀b1 b2 b3 U w,FR 93 [] U [(5,.slice b1 b2 b3)]->SH r (own (kI .u8) 5 b1 b2 b3 a9::L) w->c9 U w:=by intro a9 G b1 b2 b3 U w J X;unfold yU at G;exact j1 _ _ (A a9 G b1 b2 b3 U w (J.sub _ rfl) X)
  obtain⟨j2,j3,G⟩:=bnd G;have j4:∀x,(x)=j2->∀b4 b5 b6 U w,FR 93 [] U [(5,.slice b4 b5 b6)]->SH r (own (kI .u8) 5 b4 b5 b6 x::L) w->c9 U w:=by intro x ht b4 b5 b6 U w J X;subst ht;replace G:vP x=some y:=G;unfold vP at G;exact n5 x G b4 b5 b6 U w (J.sub _ rfl) X
  refine aR j3 (λs U w=>∃g h i,FR 93 [] U [(1,.slice A1 n1 c1),(5,.slice g h i),(11,bHq s.2)]/\SH r (own (kI .u8) 5 g h i s.1::L) w) ⟨B,C,D,J.sub _ rfl,X⟩ ?_;intro q1 j5 b8 G j6 j7 U w l;obtain⟨n,c⟩:=j5;replace G:nT a1 n c=some b8:=G;unfold nT at G
  try dsimp only at l
  obtain⟨g,h,i,J,X⟩:=l;refine wp_seq_k λq2 j8=>ws λq3 j9=>xk 2 J rfl λU J=>aY bU (X.rdl 1 f rfl).2.1 J rfl λU J=>nk 1 J rfl λU J=>j9 _ _ (aX J G rfl (λk0 G=>?_) λk0 G=>?_)
  ·refine wp_skip (j8 _ _ ?_);refine aA λq4 k1=>nz 1 J rfl λU J=>wp_seq_k λq5 k2=>aA λd1 k3=>?_;have n6:∀b9,yV a1 n c b9=some b8->∀U w,FR 93 [] U [(1,.slice A1 n1 c1),(5,.slice g h i),(11,bHq c),(12,bHq b9)]->SH r (own (kI .u8) 5 g h i n::L) w->d1 U w:=by intro b9 G U w J X;unfold yV at G;refine k3 _ _ (k2 _ _ ?_);refine ws λq6 k4=>xk 3 J rfl λU J=>?_;obtain⟨q7,d2,G⟩:=bnd G;refine dO bU sz2 (X.rdl 1 f rfl) d2 J rfl λU J=>?_;obtain⟨cs,m,k5⟩:=el (X.rdl 1 f rfl) d2;obtain rfl:=m;refine aK uu2 (k5 0 _ rfl) J rfl λU J=>?_;obtain⟨q8,k6,G⟩:=bnd G;refine x_c aOf J rfl (nR k6 X :) λv U w k J=>?_;obtain⟨q9,r0,r1,rfl,X⟩:=k;refine x_m J rfl λU J=>x_l G J rfl λr2 _ U J G=>dW G J (aQ uu3 bN rfl (J.ev rfl)) rfl λr3 _ U J G=>?_;obtain⟨r4,k7,G⟩:=bnd G;refine x_c aKg J rfl (iV k7 X :) λv U w k J=>?_;obtain⟨k8,k9,l0,rfl,X⟩:=k;refine x_m J rfl λU J=>wn (k4 _ _ ?_);refine aB (xk 2 J rfl λU J=>?_);refine x_l G J rfl λr5 _ U J G=>x_m J rfl λU J=>wpList_nil ?_;cases G;exact k1 _ _ ⟨_,j6 _ rfl,k8,k9,l0,J.sub _ rfl,X⟩
   obtain⟨l1,l2,G⟩:=bnd G;have l3:∀z,(z)=l1->∀U w,FR 93 [] U [(1,.slice A1 n1 c1),(5,.slice g h i),(11,bHq c),(12,bHq z)]->SH r (own (kI .u8) 5 g h i n::L) w->d1 U w:=by intro z ht U w J X;subst ht;replace G:vQ a1 n c z=some b8:=G;unfold vQ at G;exact n6 z G U w (J.sub _ rfl) X
   refine aR l2 (λs U w=>FR 93 [] U [(1,.slice A1 n1 c1),(5,.slice g h i),(11,bHq c),(12,bHq s)]/\SH r (own (kI .u8) 5 g h i n::L) w) ⟨J.sub _ rfl,X⟩ ?_;intro r6 l4 d3 G l5 l6 U w l;obtain⟨j,rfl⟩:∃ q,q=l4:=⟨_,rfl⟩;replace G:nU a1 c j=some d3:=G;unfold nU at G
   try dsimp only at l
   obtain⟨J,X⟩:=l;refine wp_seq_k λr7 l7=>wp_seq_k λl8 l9=>?_;have d9:∀c0,qF j c0=some d3->∀U w,FR 93 [] U [(1,.slice A1 n1 c1),(5,.slice g h i),(11,bHq c),(12,bHq j),(71,.bool c0)]->SH r (own (kI .u8) 5 g h i n::L) w->l8 U w:=by
    intro c0 G U w J X;unfold qF at G;refine l9 _ _ (aX J G rfl (λm1 G=>?_) λm1 G=>?_)
    ·refine wp_skip (l7 _ _ ?_);refine aA λr8 m2=>aB (x_m J rfl λU J=>?_);refine x_l G J rfl λr9 _ U J G=>x_m J rfl λU J=>wpList_nil ?_;cases G;exact m2 _ _ ⟨_,l5 _ rfl,J.sub _ rfl,X⟩
    cases G;exact wp_exit (l3 j (l6 _ rfl) U w (J.sub _ rfl) X)
   refine wD [0,0,3,0,8,31,63,127,127,127,895,2047,4095,127,127,24703,57471,131071,262143] [] rfl J X (by kernel_rfl) λw X=>?_;obtain⟨a,c2,G⟩:=gZ G;refine bcG G (λb G=>?_) λb G=>?_
   ·obtain⟨o,d4,G⟩:=bnd G;obtain⟨cs,m,m3⟩:=el (X.rdl 1 f rfl) d4;obtain rfl:=m;obtain⟨p,d5,G⟩:=bnd G;obtain⟨cs,m,m4⟩:=el (X.rdl 1 f rfl) d5;obtain rfl:=m;refine⟨[(0,bHq c),(1,bHq j),(2,bHq a),(3,.slice A1 n1 c1),(4,bHq (a1.length:Int)),(5,.bool (decide (a<(a1.length:Int)))),(6,.bool (decide (a<(a1.length:Int)))),(7,.slice A1 n1 c1),(8,bHq c),(9,bHq j),(10,bHq a),(11,.pointer (some (ea A1 (a.toNat * 1)))),(12,bHq o),(13,.slice A1 n1 c1),(14,bHq c),(15,.pointer (some (ea A1 (c.toNat * 1)))),(16,bHq p),(17,.bool (o==p)),(18,.bool (o==p))],?_⟩;refine dZ [0,1,2,3,4,5,6,7,8,9,10,11,12,13,14,15,16,17,18] (by kernel_rfl) ⟨pm rfl,pm rfl,pt [(53,bHq c),(54,bHq j)] rfl λU J=>cG c2 (bHw kD J rfl),pm rfl,pt [(56,.slice A1 n1 c1)] rfl (λU J=>sK bU (X.rdl 1 f rfl).2.1 J rfl rfl),pt [(55,bHq a),(57,bHq (a1.length:Int))] rfl (λU J=>aDk rfl (J.ev rfl) (J.ev rfl)),pm rfl,bY rfl rfl rfl rfl [(1,.slice A1 n1 c1),(59,.bool (decide (a<(a1.length:Int))))] rfl b (λU J=>fM J rfl rfl) rfl,bY rfl rfl rfl rfl [(11,bHq c),(59,.bool (decide (a<(a1.length:Int))))] rfl b (λU J=>fM J rfl rfl) rfl,bY rfl rfl rfl rfl [(12,bHq j),(59,.bool (decide (a<(a1.length:Int))))] rfl b (λU J=>fM J rfl rfl) rfl,bY rfl rfl rfl rfl [(59,.bool (decide (a<(a1.length:Int)))),(61,bHq c),(62,bHq j)] rfl b (λU J=>(cG c2 (bHw kD J rfl):RunV _ _ _ _ (bHq a))) rfl,bY rfl rfl rfl rfl [(59,.bool (decide (a<(a1.length:Int)))),(60,.slice A1 n1 c1),(63,bHq a)] rfl b (λU J=>fK bU sz2 (X.rdl 1 f rfl) d4 J rfl rfl rfl) rfl,bY rfl rfl rfl rfl [(59,.bool (decide (a<(a1.length:Int)))),(64,.pointer (some (ea A1 (a.toNat * 1))))] rfl b (λU J=>aS uu2 (m3 0 _ rfl) J rfl rfl rfl) rfl,bY rfl rfl rfl rfl [(1,.slice A1 n1 c1),(59,.bool (decide (a<(a1.length:Int))))] rfl b (λU J=>fM J rfl rfl) rfl,bY rfl rfl rfl rfl [(11,bHq c),(59,.bool (decide (a<(a1.length:Int))))] rfl b (λU J=>fM J rfl rfl) rfl,bY rfl rfl rfl rfl [(59,.bool (decide (a<(a1.length:Int)))),(66,.slice A1 n1 c1),(67,bHq c)] rfl b (λU J=>fK bU sz2 (X.rdl 1 f rfl) d5 J rfl rfl rfl) rfl,bY rfl rfl rfl rfl [(59,.bool (decide (a<(a1.length:Int)))),(68,.pointer (some (ea A1 (c.toNat * 1))))] rfl b (λU J=>aS uu2 (m4 0 _ rfl) J rfl rfl rfl) rfl,bY rfl rfl rfl rfl [(59,.bool (decide (a<(a1.length:Int)))),(65,bHq o),(69,bHq p)] rfl b (λU J=>aAv rfl (J.ev rfl) (J.ev rfl)) rfl,pt [(59,.bool (decide (a<(a1.length:Int)))),(70,.bool (o==p))] rfl (λU J=>nA b J rfl rfl rfl),trivial⟩ [(1,_),(5,_),(11,_),(12,_),(60,_),(61,_),(62,_),(63,_),(65,_),(66,_),(67,_),(69,_),(70,_),(71,_)] rfl (λU J=>?_);exact d9 (o==p) G U w (J.sub _ rfl) X
   refine⟨[(0,bHq c),(1,bHq j),(2,bHq a),(3,.slice A1 n1 c1),(4,bHq (a1.length:Int)),(5,.bool (decide (a<(a1.length:Int)))),(6,.bool (decide (a<(a1.length:Int)))),(7,undef),(8,undef),(9,undef),(10,undef),(11,undef),(12,undef),(13,undef),(14,undef),(15,undef),(16,undef),(17,undef),(18,.bool false)],?_⟩;refine dZ [0,1,2,3,4,5,6,7,8,9,10,11,12,13,14,15,16,17,18] (by kernel_rfl) ⟨pm rfl,pm rfl,pt [(53,bHq c),(54,bHq j)] rfl λU J=>cG c2 (bHw kD J rfl),pm rfl,pt [(56,.slice A1 n1 c1)] rfl (λU J=>sK bU (X.rdl 1 f rfl).2.1 J rfl rfl),pt [(55,bHq a),(57,bHq (a1.length:Int))] rfl (λU J=>aDk rfl (J.ev rfl) (J.ev rfl)),pm rfl,bC rfl rfl rfl rfl [(1,.slice A1 n1 c1),(59,.bool (decide (a<(a1.length:Int))))] rfl b rfl,bC rfl rfl rfl rfl [(11,bHq c),(59,.bool (decide (a<(a1.length:Int))))] rfl b rfl,bC rfl rfl rfl rfl [(12,bHq j),(59,.bool (decide (a<(a1.length:Int))))] rfl b rfl,bC rfl rfl rfl rfl [(59,.bool (decide (a<(a1.length:Int)))),(61,undef),(62,undef)] rfl b rfl,bC rfl rfl rfl rfl [(59,.bool (decide (a<(a1.length:Int)))),(60,undef),(63,undef)] rfl b rfl,bC rfl rfl rfl rfl [(59,.bool (decide (a<(a1.length:Int)))),(64,undef)] rfl b rfl,bC rfl rfl rfl rfl [(1,.slice A1 n1 c1),(59,.bool (decide (a<(a1.length:Int))))] rfl b rfl,bC rfl rfl rfl rfl [(11,bHq c),(59,.bool (decide (a<(a1.length:Int))))] rfl b rfl,bC rfl rfl rfl rfl [(59,.bool (decide (a<(a1.length:Int)))),(66,undef),(67,undef)] rfl b rfl,bC rfl rfl rfl rfl [(59,.bool (decide (a<(a1.length:Int)))),(68,undef)] rfl b rfl,bC rfl rfl rfl rfl [(59,.bool (decide (a<(a1.length:Int)))),(65,undef),(69,undef)] rfl b rfl,pt [(59,.bool (decide (a<(a1.length:Int)))),(70,undef)] rfl (λU J=>oM b J rfl rfl rfl),trivial⟩ [(1,_),(5,_),(11,_),(12,_),(71,_)] rfl (λU J=>?_);exact d9 false G U w (J.sub _ rfl) X
  cases G;exact wp_exit (j4 n (j7 _ rfl) g h i U w (J.sub _ rfl) X)
 refine nz 2 J rfl λU J=>aX J G rfl (λm5 G=>?_) λm5 G=>?_
 ·refine aB (xk 2 J rfl λU J=>?_);obtain⟨m6,m7,G⟩:=bnd G;refine x_c bDc J rfl (aKb m7 X (RdL.sfx 0 rfl f) :) λv U w k J=>?_;obtain⟨m8,m9,n0,rfl,X⟩:=k;exact x_m J rfl λU J=>wpList_nil (A m6 G m8 m9 n0 U w (J.sub _ rfl) X)
 exact wp_skip (A e1 G B C D U w (J.sub _ rfl) X)
theorem tT {a0 A0 n0 c0 y} (G:nV a0=some y) (X:SH r (L) w) (z:RdL L (kI .i64) A0 n0 c0 a0) :
  Ret Tryz.prog 103 #[.slice A0 n0 c0] w λv w'=>∃ (A:Option Addr) (B:Nat) (C:Nat),v=.slice A B C/\SH r (own (kI .u8) 5 A B C y::L) w':=by
 refine enter Tryz.func103 rfl Tryz.ntmps103 [(0,_)] rfl (by simp) ?_;intro U J Qf hQ c5;unfold nV at G;refine nz 1 J rfl λU J=>ws λb5 F=>xk 1 J rfl λU J=>?_;obtain⟨b6,H,G⟩:=bnd G;refine x_c aZe J rfl (aHc H X (RdL.sfx 0 rfl z) :) λv U w t J=>?_;obtain⟨I,K,M,rfl,X⟩:=t;refine x_m J rfl λU J=>wn (F _ _ ?_);refine wp_seq_k λb7 N=>nz 1 J rfl λU J=>aA λu O=>?_;have b4:∀n,zT n=some y->∀e f g U w,FR 22 [] U [(3,.slice e f g)]->SH r (own (kI .u8) 5 e f g n::L) w->u U w:=by intro n G e f g U w J X;unfold zT at G;refine O _ _ (N _ _ ?_);refine nz 2 J rfl λU J=>?_;cases G;exact wp_ret (hQ _ _ (lv Tryz.results103 J rfl ⟨e,f,g,rfl,X⟩))
 obtain⟨P,Q,G⟩:=bnd G;have R:∀a,(a)=P->∀h i j U w,FR 22 [] U [(3,.slice h i j)]->SH r (own (kI .u8) 5 h i j a::L) w->u U w:=by intro a ht h i j U w J X;subst ht;replace G:wT a=some y:=G;unfold wT at G;exact b4 a G h i j U w (J.sub _ rfl) X
 refine aR Q (λs U w=>∃b c d,FR 22 [] U [(0,.slice A0 n0 c0),(3,.slice b c d),(4,bHs s.2)]/\SH r (own (kI .u8) 5 b c d s.1::L) w) ⟨I,K,M,J.sub _ rfl,X⟩ ?_;intro b8 S x G T W U w D;obtain⟨o,p⟩:=S;replace G:gJ a0 o p=some x:=G;unfold gJ at G
 try dsimp only at D
 obtain⟨b,c,d,J,X⟩:=D;refine wp_seq_k λb9 Y=>nz 2 J rfl λU J=>aX J G rfl (λZ G=>?_) λZ G=>?_
 ·refine wp_skip (Y _ _ ?_);refine wp_seq_k λc1 a1=>aA λa2 a3=>?_;have E:∀q,rX p q=some x->∀k l m U w,FR 22 [] U [(0,.slice A0 n0 c0),(3,.slice k l m),(4,bHs p)]->SH r (own (kI .u8) 5 k l m q::L) w->a2 U w:=by intro q G k l m U w J X;unfold rX at G;refine a3 _ _ (a1 _ _ ?_);refine aB (x_m J rfl λU J=>?_);refine x_l G J rfl λc2 _ U J G=>x_m J rfl λU J=>wpList_nil ?_;cases G;exact⟨_,T _ rfl,k,l,m,J.sub _ rfl,X⟩
  refine ws λc3 a4=>xk 2 J rfl λU J=>?_;obtain⟨a5,a6,G⟩:=bnd G;refine x_c aZe J rfl (aHc a6 X (RdL.sfx 1 rfl z) :) λv U w t J=>?_;obtain⟨a7,a8,a9,rfl,X⟩:=t;refine x_m J rfl λU J=>wn (a4 _ _ ?_);refine ws λc4 b1=>xk 1 J rfl λU J=>aY cH (X.rd 0 rfl).2.1 J rfl λU J=>x_m J rfl λU J=>aY cH (X.rd 1 rfl).2.1 J rfl λU J=>nk 1 J rfl λU J=>b1 _ _ (aX J G rfl (λb2 G=>?_) λb2 G=>?_)
  ·refine aB (nk 2 J rfl λU J=>?_);replace X:=X.drop 1;exact E a5 G a7 a8 a9 U w (J.sub _ rfl) X
  replace X:=X.drop 0;exact wp_skip (E o G b c d U w (J.sub _ rfl) X)
 cases G;exact wp_exit (R o (W _ rfl) b c d U w (J.sub _ rfl) X)
end
theorem aSx {r:World} {L:List HP} {g:Nat} {b:Bool} {w:World} (hS:SH r (blk g 4 [.bool b]::L) w) :
    CallsD Tryz.prog 73 #[pP g] (.panicking aEq) w λe d w'=>e=.returned (.tuple #[])/\d=.panicking [{ v:=.iface 137 (.agg #[]),recovered:=true }]/\SH r (blk g 4 [.bool false]::L) w':=by
  refine callsD_of_wpS Tryz.func73 rfl λc₀ cs hu=>?_;apply wpS_seq;apply wpS_region;simp only [List.size_toArray,List.length_cons,List.length_nil,Nat.zero_add];rw [show List.range (1+1)=[0,1] from rfl];simp [wpOpsS,go_sem,recoverD,hu,aEq,Tryz.ntmps73,Exit.thenS];generalize f:({ tmps:=_,defers:=_ }:Act)=ac;have hA:FR 15 [] ac [(0,pP g),(1,.iface 137 (.agg #[]))]:=by
    subst f;refine⟨by simp,rfl,λt v c=>?_⟩;simp only [lk] at c;by_cases e0:t=0
    · subst e0;cases c;rfl
    by_cases i:t=1
    · subst i;cases c;rfl
    · exfalso
      rw [show Nat.beq 0 t=false by cases h:Nat.beq 0 t;rfl;exact absurd (Nat.eq_of_beq_eq_true h).symm e0,show Nat.beq 1 t=false by cases h:Nat.beq 1 t;rfl;exact absurd (Nat.eq_of_beq_eq_true h).symm i] at c;cases c
  clear f;refine wpS_of_wp ?_;have fin:∀ (a:Act) (w:World),FR 15 [] a []->SH r (blk g 4 [.bool false]::L) w->bodyPostS Tryz.prog Tryz.f73 c₀ cs (λe d w'=>e=.returned (.tuple #[])/\d=.panicking [{ v:=.iface 137 (.agg #[]),recovered:=true }]/\SH r (blk g 4 [.bool false]::L) w') .normal a ({ c₀ with mode:=.panicking [{ v:=.iface 137 (.agg #[]),recovered:=true }] }::cs) w:=by intro a w hA hS;exact⟨hA.defers,_,rfl,_,results_none Tryz.results73 _ _ _,rfl,rfl,hS⟩
  refine wp_seq_k λo j=>?_;refine aB ?_;refine eE hA (λac hA=>?_);refine eQ (v:=.bool true) hA (aTh Tryz.underlying20 rfl (hA.ev rfl) (hA.ev rfl)) (λac hA=>?_);refine wpList_nil ?_;refine j _ _ ?_;refine c_t (b:=true) rfl hA ?_;refine wp_seq_k λp k=>?_;refine wp_seq_k λq l=>?_;refine aB ?_;refine eE hA (λac hA=>?_);refine eQ (v:=.tuple #[.agg #[],.bool true]) hA (aM5 Tryz.underlying137 rfl rfl (hA.ev rfl)) (λac hA=>?_);refine eE hA (λac hA=>?_);refine eQ hA (vB rfl (hA.ev rfl) rfl) (λac hA=>?_);refine eQ hA (vB rfl (hA.ev rfl) rfl) (λac hA=>?_);refine aNj (cs:=[]) bFp hA hS (λs ac w hS hA=>?_);refine aSm (vs:=[]) 0 bEs hA hS rfl (λac w hS hA=>?_);refine fC hA (λac hA=>?_);refine wpList_nil ?_;refine l _ _ ?_;refine wp_seq_k λu m=>?_;refine aB ?_;refine eE hA (λac hA=>?_);refine eQ hA (aLg rfl (hA.ev rfl)) (λac hA=>?_);refine wpList_nil ?_;refine m _ _ ?_;refine c_f (b := !true) rfl hA ?_;refine wp_skip ?_;refine k _ _ ?_;refine aB ?_;refine aSm (vs:=[.bool false]) 1 sz4 hA hS rfl (λac w hS hA=>?_);refine wpList_nil ?_;have n:=hS.pk 1;exact fin _ _ (hA.sub _ rfl) (n.tail)
theorem aPw {g:Nat} {w:World} :
    CallsD Tryz.prog 73 #[pP g] .returning w λe f w'=>e=.returned (.tuple #[])/\f=.returning/\w'=w:=by
  refine callsD_of_wpS Tryz.func73 rfl λc₀ cs hu=>?_;apply wpS_seq;apply wpS_region;simp only [List.size_toArray,List.length_cons,List.length_nil,Nat.zero_add];rw [show List.range (1+1)=[0,1] from rfl];simp [wpOpsS,go_sem,recoverD,hu,Tryz.ntmps73,Exit.thenS];generalize c:({ tmps:=_,defers:=_ }:Act)=ac;have hA:FR 15 [] ac [(0,pP g),(1,.nilIface)]:=by
    subst c;refine⟨by simp,rfl,λt v a=>?_⟩;simp only [lk] at a;by_cases e0:t=0
    · subst e0;cases a;rfl
    by_cases d:t=1
    · subst d;cases a;rfl
    · exfalso
      rw [show Nat.beq 0 t=false by cases h:Nat.beq 0 t;rfl;exact absurd (Nat.eq_of_beq_eq_true h).symm e0,show Nat.beq 1 t=false by cases h:Nat.beq 1 t;rfl;exact absurd (Nat.eq_of_beq_eq_true h).symm d] at a;cases a
  clear c;refine wpS_of_wp ?_;refine wp_seq_k λj i=>?_;refine aB ?_;refine eE hA (λac hA=>?_);refine eQ (v:=.bool false) hA (aTi Tryz.underlying20 rfl (hA.ev rfl)) (λac hA=>?_);refine wpList_nil ?_;refine i _ _ ?_;refine c_f (b:=false) rfl hA ?_;refine wp_skip ?_;refine⟨hA.defers,c₀.mode,rfl,_,results_none Tryz.results73 _ _ _,rfl,hu,rfl⟩
theorem aGi {r:World} {L:List HP} {w:World} {g:Nat} {b:Bool} {a:Act} {n:Nat} {D:List Deferred} {F:List (Nat×Value)} (hA:FR n D a F) (c:lk F 4=some (pP g)) (hS:SH r (blk g 4 [.bool b]::L) w) :
    (results Tryz.f47 a.tmps).run Tryz.prog w=.ok (.bool b) w:=by
  have d:a.tmps.getD 4 undef=.pointer (some ⟨g,0,none⟩):=hA.ev (x:=.tmp 4) c;have e:a.tmps[4]?.getD undef=.pointer (some ⟨g,0,none⟩):=by rw [← Array.getD_eq_getD_getElem?];exact d
  have hc:=hS.cell 0 rfl 0 (.bool b) rfl;have f:(isAgg 4).run Tryz.prog w=.ok false w:=by rw [pW Tryz.underlying4];rfl
  have h:(loadVar 4 ⟨g,0,none⟩).run Tryz.prog w=.ok (.bool b) w:=by simp [loadVar,f,hc]
  simp [results,Tryz.results47,e,asAddr,h]
section
variable {r:World} {L:List HP} {w:World} {A:Option Addr} {n c f:Nat} {fs caps:Array Value}
theorem aDn {R:Value->World->Prop} (hf:EN Tryz.prog f) (hS:SH r L w)
    (o:∀ g a j,SH r (blk g 140 [.slice A n c]::blk a 4 [.bool false]::L) j ->
      (Ret Tryz.prog f (fs++#[pP g]++caps) j λv k=>∃ b l i m,SH r (blk g 140 [.slice l i m]::blk a 4 [.bool false]::b) k/\∀ h,SH r b h->R (.bool ((i:Int)==0)) h) \/
      (Calls Tryz.prog f (fs++#[pP g]++caps) j λe k=>e=.panicked aEq/\∃ b,SH r (blk a 4 [.bool false]::b) k/\∀ h,SH r b h->R (.bool false) h)) :
    Ret Tryz.prog 47 #[.slice A n c,.func (.func f) fs caps] w R:=by
  refine bA5 Tryz.func47 rfl Tryz.ntmps47 [(0,.slice A n c),(1,.func (.func f) fs caps)] rfl (by simp) ?_;intro ac hA;refine wp_seq_k λx h0=>?_;refine aB ?_;refine aNj (cs:=[.bool false]) zr4 hA hS (λa ac w hS hA=>?_);refine wpList_nil ?_;refine h0 _ _ ?_;refine wp_seq_k λy p=>?_;refine aB ?_;refine eQ hA (hM rfl (mH (vals:=#[]) hA rfl) (mH (vals:=#[pP a]) hA rfl)) (λac hA=>?_);refine aYp (vs:=#[]) hA (λac hA=>?_);refine wpList_nil ?_;refine p _ _ ?_;refine wp_seq_k λz q=>?_;refine aB ?_;refine eE hA (λac hA=>?_);refine eQ (v:=.agg #[.slice A n c]) hA (jK (ps:=#[(0,.slice A n c)]) rfl (mC hA rfl) (λw=>by kernel_rfl)) (λac hA=>?_);refine aPl hA hS (λg ac w hS hA=>?_);refine fC hA (λac hA=>?_);refine wpList_nil ?_;refine q _ _ ?_;refine wp_seq_k λB s=>?_;refine aB ?_;refine eE hA (λac hA=>?_);refine eE hA (λac hA=>?_);rcases o g a w hS with hr | hp
  · refine aSk (vs:=#[pP g]) hf hA hr (λv ac w d hA=>?_)
    obtain⟨b,l,i,m,hS,d⟩:=d;refine wpList_nil ?_;refine s _ _ ?_;refine wp_seq_k λC t=>?_;refine aB ?_;refine eE hA (λac hA=>?_);refine eQ hA (aL rfl (hA.ev rfl)) (λac hA=>?_);refine bAd sW hA (λac hA=>?_);refine aQ2 Tryz.underlying23 (hS.cell 0 rfl 0 _ rfl) hA (λac hA=>?_);refine eQ hA (aDi Tryz.underlying23 rfl (hA.ev rfl)) (λac hA=>?_);refine eQ hA (aAv rfl (hA.ev rfl) (hA.ev rfl)) (λac hA=>?_);refine aSm (vs:=[.bool ((i:Int)==0)]) 1 sz4 hA hS rfl (λac w hS hA=>?_);refine wpList_nil ?_;refine t _ _ ?_;refine wp_ret ?_;show Leaves _ _ _ _ _ _ _;rw [hA.defers];refine leaves_cons (f:=73) (args:=#[pP a]) (by simp) (by simp [invoke,(bDt _ _:_=_)]) ?_;refine CallsD.mono aPw ?_;rintro e u w' ⟨rfl,rfl,rfl⟩;exact⟨_,aGi hA rfl hS,_,rfl,d _ (hS.tail.tail)⟩
  · refine aSj (vs:=#[pP g]) hf hA hp (λw d=>?_)
    obtain⟨b,hS,d⟩:=d;show Leaves _ _ _ _ _ _ _;rw [hA.defers];refine leaves_cons (f:=73) (args:=#[pP a]) (by simp) (by simp [invoke,(bDt _ _:_=_)]) ?_;refine CallsD.mono (aSx hS) ?_;rintro e u w' ⟨rfl,rfl,hS⟩;exact⟨_,aGi hA rfl hS,_,rfl,d _ hS.tail⟩
end
noncomputable section
set_option linter.unusedSimpArgs false
def aJ (a0:S140) (a:Bool):Option ((S140)⊕(S140)):=if !a then (some (.inr a0)) else (some (.inl a0))
abbrev bH2:=((Int×S140)⊕(S140))
def gK (a0:S140):Option bH2:=(aJ a0 (decide (0<(a0.f0.length:Int)))).bind λa=>(fV a (λa=>((at_ a.f0 0).bind λb=>((kN a.f0 1 (a.f0.length:Int)).bind λc=>(some (.inl (b,(⟨c⟩:S140))))))) (λa=>(some (.inr a))))
abbrev bH3:=((List Int×Int×Int)⊕(((Int×S140)⊕(S140))))
def jX (a:Int) (b:List Int):Option bH3:=some (.inr (.inl (a,(⟨b⟩:S140))))
def eF (n i f:Int) (g:(Int×S140)) (e:List Int):Option bH3:=ltt (aB7 .u8 g.1 127) λj=>(ltt (IntKind.u64.wrap j) λk=>(ltt (IntKind.i64.wrap (7 * f)) λh=>(chk (0<=h) (ltt (xT .u64 k h) λl=>(ltt (ior .u64 i l) λa=>(if decide (g.1<128) then (if decide (a<=n) then (if f==0 then ((aJ (⟨e⟩:S140) true).bind λb=>(fV b (λb=>(jX a b.f0)) (λb=>(some (.inr (.inr b)))))) else ((aJ (⟨e⟩:S140) (decide (0<g.1))).bind λc=>(fV c (λc=>(jX a c.f0)) (λc=>(some (.inr (.inr c))))))) else ((aJ (⟨e⟩:S140) false).bind λd=>(fV d (λd=>(jX a d.f0)) (λd=>(some (.inr (.inr d))))))) else (ltt (IntKind.i64.wrap (f+1)) λm=>(some (.inl (e,a,m))))))))))
def eG (g:Int) (h:List Int) (f b:Int):Option bH3:=(gK (⟨h⟩:S140)).bind λa=>(fV a (λa=>(if decide (b<9) then ((aJ a.2 true).bind λc=>(fV c (λc=>(eF g f b a c.f0)) (λc=>(some (.inr (.inr c)))))) else (if b==9 then ((aJ a.2 (decide (a.1<2))).bind λd=>(fV d (λd=>(eF g f b a d.f0)) (λd=>(some (.inr (.inr d)))))) else ((aJ a.2 false).bind λe=>(fV e (λe=>(eF g f b a e.f0)) (λe=>(some (.inr (.inr e))))))))) (λa=>(some (.inr (.inr a)))))
def bF (a0:S140) (a:Int):Option bH2:=(loop (λs=>eG a s.1 s.2.1 s.2.2) (a0.f0,0,0)).bind λt=>some t
def cU (a0:S140):Option bH2:=(bF a0 18446744073709551615).bind λa=>(fV a (λa=>(ltt (oG .u64 a.1 1) λb=>(ltt (IntKind.i64.wrap b) λc=>(ltt (aB7 .u64 a.1 1) λd=>(ltt (IntKind.i64.wrap d) λe=>(ltt (aBi .i64 c (IntKind.i64.wrap (0 - e))) λf=>(some (.inl (f,a.2))))))))) (λa=>(some (.inr a))))
def fI (a0:S140) (g:Int):Option ((List UInt8×S140)⊕(S140)):=ltt (IntKind.u64.wrap g) λc=>((bF a0 c).bind λa=>(fV a (λa=>(ltt (IntKind.u64.wrap (a.2.f0.length:Int)) λd=>((aJ a.2 (decide (a.1<=d))).bind λb=>(fV b (λb=>((kN b.f0 0 a.1).bind λe=>((kN b.f0 a.1 (b.f0.length:Int)).bind λf=>(some (.inl (bts e,(⟨f⟩:S140))))))) (λb=>(some (.inr b))))))) (λa=>(some (.inr a)))))
abbrev bH4:=((List Int×S140)⊕(S140))
def rY (a b:List Int):Option bH4:=some (.inl (b,(⟨a⟩:S140)))
def qG (a b:List Int):Option bH4:=rY a b
abbrev bH5:=((List Int×List Int×Int)⊕((List Int×List Int)⊕((List Int×S140)⊕(S140))))
def dJ (a0:Int) (c b:List Int) (d:Int):Option bH5:=if decide (d<a0) then ((cU (⟨c⟩:S140)).bind λa=>(fV a (λa=>(chk (b.length+[a.1].length<=140737488355328 / 8) (ltt (IntKind.i64.wrap (d+1)) λe=>(some (.inl (a.2.f0,b++[a.1],e)))))) (λa=>(some (.inr (.inr (.inr a))))))) else (some (.inr (.inl (c,b))))
def nX (a0:Int) (a:S140):Option bH4:=(loop (λs=>dJ a0 s.1 s.2.1 s.2.2) (a.f0,[],0)).bind λt=>match t with | (.inl t)=>qG t.1 t.2 | (.inr t)=>some t
def wX (a:List Int):Option bH4:=some (.inl (a,(⟨[]⟩:S140)))
def uN (a:List Int):Option bH4:=wX a
def gR (c:(Int×S140)) (d b:List Int) (a:Int):Option bH1:=if decide (a<(d.length:Int)) then ((at_ b a).bind λe=>(ltt (IntKind.i64.wrap (e+c.1)) λf=>(ltt (IntKind.i64.wrap (a+1)) λg=>(some (.inl (b.set a.toNat f,g)))))) else (some (.inr (b)))
def sV (b:(Int×S140)) (c a:List Int):Option bH4:=(loop (λs=>gR b a s.1 s.2) (a,0)).bind λt=>uN t
def qH (a:(Int×S140)) (b c:List Int):Option bH4:=sV a b c
def mI (a:Int) (b c:List Int):Option bH5:=ltt (IntKind.i64.wrap (a+1)) λd=>(some (.inl (b,c,d)))
def iK (t b j:Int) (d e:List Int) (a:Int):Option bH5:=if decide (a<j) then (ltt (IntKind.i64.wrap (a.tdiv 8)) λk=>((at_ d k).bind λl=>(ltt (a.tmod 8) λf=>(chk (0<=f) (ltt (oG .u8 l f) λm=>(ltt (IntKind.u64.wrap m) λn=>(ltt (aB7 .u64 n 1) λg=>(ltt (IntKind.i64.wrap (t * b)) λo=>(if decide (o<=a) then ((aJ (⟨d⟩:S140) (g==0)).bind λc=>(fV c (λc=>(mI a c.f0 e)) (λc=>(some (.inr (.inr (.inr c))))))) else (chk (b≠0) (ltt (IntKind.i64.wrap (a.tdiv b)) λh=>((at_ e h).bind λp=>(chk (b≠0) (ltt (a.tmod b) λi=>(chk (0<=i) (ltt (xT .u64 g i) λq=>(ltt (IntKind.i64.wrap q) λr=>(ltt (ior .i64 p r) λs=>(mI a d (e.set h.toNat s)))))))))))))))))))) else (some (.inr (.inl (d,e))))
def pG (a:Int) (c:(Int×S140)) (d:Int) (b:List Int):Option bH4:=chk (0<=a/\(8:Int) * a<=140737488355328) (ltt (IntKind.i64.wrap (8 * (b.length:Int))) λe=>((loop (λs=>iK a d e s.1 s.2.1 s.2.2) (b,List.replicate a.toNat (0:Int),0)).bind λt=>match t with | (.inl t)=>qH c t.1 t.2 | (.inr t)=>some t))
def tW (a0:S140) (f:Int):Option bH4:=(cU a0).bind λb=>(fV b (λb=>((gK b.2).bind λa=>(fV a (λa=>(ltt (IntKind.i64.wrap a.1) λe=>(if decide (e<=64) then (ltt (IntKind.i64.wrap (f * e)) λg=>(ltt (IntKind.i64.wrap (g+7)) λh=>(ltt (IntKind.i64.wrap (h.tdiv 8)) λi=>((aJ a.2 ((a.2.f0.length:Int)==i)).bind λc=>(fV c (λc=>(pG f b e c.f0)) (λc=>(some (.inr c)))))))) else ((aJ a.2 false).bind λd=>(fV d (λd=>(pG f b e d.f0)) (λd=>(some (.inr d)))))))) (λa=>(some (.inr a)))))) (λb=>(some (.inr b))))
def lC (a b:List Int):Option bH4:=some (.inl (b,(⟨a⟩:S140)))
def zU (a b:List Int):Option bH4:=lC a b
def wU (a b:List Int):Option bH4:=zU a b
def iB (f:Int) (d b:List Int) (g e:Int):Option ((List Int×List Int×Int×Int)⊕((List Int×List Int)⊕((List Int×S140)⊕(S140)))):=if decide (e<f) then ((cU (⟨d⟩:S140)).bind λa=>(fV a (λa=>(ltt (IntKind.i64.wrap (g+a.1)) λc=>(chk (b.length+[c].length<=140737488355328 / 8) (ltt (IntKind.i64.wrap (e+1)) λh=>(some (.inl (a.2.f0,b++[c],c,h))))))) (λa=>(some (.inr (.inr (.inr a))))))) else (some (.inr (.inl (d,b))))
def zV (a b:List Int):Option bH4:=lC a b
def wV (a b:List Int):Option bH4:=zV a b
abbrev bH6:=((List Int×List Int)⊕((List Int×List Int)⊕((List Int×S140)⊕(S140))))
def zW (a:(Int×S140)) (b:List Int):Option bH6:=some (.inl (a.2.f0,b))
def wW (a:(Int×S140)) (b:List Int):Option bH6:=zW a b
def jC (b:(Int×S140)) (d:Int) (a:List Int) (c:Int):Option bH1:=if decide (c<d) then (chk (a.length+[b.1].length<=140737488355328 / 8) (ltt (IntKind.u64.wrap (c+1)) λe=>(some (.inl (a++[b.1],e))))) else (some (.inr (a)))
def dX (d:Int) (e c:List Int):Option bH6:=if decide ((c.length:Int)<d) then ((cU (⟨e⟩:S140)).bind λa=>(fV a (λa=>(ltt (IntKind.i64.wrap (d - (c.length:Int))) λf=>(ltt (IntKind.i64.wrap (f - 1)) λg=>(ltt (IntKind.u64.wrap g) λh=>((bF a.2 h).bind λb=>(fV b (λb=>(ltt (IntKind.u64.wrap (1+b.1)) λi=>((loop (λs=>jC a i s.1 s.2) (c,0)).bind λt=>wW b t))) (λb=>(some (.inr (.inr (.inr b))))))))))) (λa=>(some (.inr (.inr (.inr a))))))) else (some (.inr (.inl (e,c))))
def uV (a0:S140):Option bH4:=(gK a0).bind λb=>(fV b (λb=>((aJ b.2 (decide (b.1<=3))).bind λe=>(fV e (λe=>((bF e 4096).bind λa=>(fV a (λa=>(ltt (IntKind.i64.wrap a.1) λf=>(if b.1==0 then ((nX f a.2).bind λc=>(fV c (λc=>(lC c.2.f0 c.1)) (λc=>(some (.inr c))))) else (if b.1==1 then ((loop (λs=>iB f s.1 s.2.1 s.2.2.1 s.2.2.2) (a.2.f0,[],0,0)).bind λt=>match t with | (.inl t)=>wU t.1 t.2 | (.inr t)=>some t) else (if b.1==2 then ((loop (λs=>dX f s.1 s.2) (a.2.f0,[])).bind λt=>match t with | (.inl t)=>wV t.1 t.2 | (.inr t)=>some t) else (if b.1==3 then (if decide (0<f) then ((tW a.2 f).bind λd=>(fV d (λd=>(lC d.2.f0 d.1)) (λd=>(some (.inr d))))) else (lC a.2.f0 [])) else (lC a.2.f0 []))))))) (λa=>(some (.inr a)))))) (λe=>(some (.inr e)))))) (λb=>(some (.inr b))))
def rN (a0:S140) (b:List Int):Option ((S140×List Int)⊕(S140×List Int)):=(uV a0).bind λa=>(fV a (λa=>(some (.inl (a.2,a.1)))) (λa=>(some (.inr (a,b)))))
def rG (a0 a:List Int):Option (Bool×List Int):=(rN (⟨a0⟩:S140) a).bind λy=>(fV y (λy=>some ((((y.1.f0.length:Int)==0),y.2))) (λy=>some ((false,y.2))))
def jO (a0:List Int):Option (List Int×Int):=(rG a0 []).bind λa=>(if !a.1 then (some ([],3)) else (some (a.2,0)))
end
end Go.Proofs.YtdkpjpoajlmmfaaGreatDoor.M
