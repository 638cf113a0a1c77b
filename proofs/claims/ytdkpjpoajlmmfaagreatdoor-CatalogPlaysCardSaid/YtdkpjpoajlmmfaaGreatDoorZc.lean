/- Texts of the claim, joined: what it uses of Gr, Op, Dpg, Mpg, Dpl, Mpl, Dce, Mce, Tr, Dcr. -/
import Derived.Test.YtdkpjpoajlmmfaaGreatDoorZb
import Derived.Test.YtdkpjpoajlmmfaaGreatDoorProg
namespace Go.Proofs.YtdkpjpoajlmmfaaGreatDoor.M
open Go Go.RowKit Go.Proofs.YtdkpjpoajlmmfaaGreatDoor.E
set_option linter.unusedVariables false
set_option linter.unusedSimpArgs false
def aD3:List PanicEntry:=[{ v:=.iface 137 (.agg #[]),recovered:=false }]
theorem by3:Tryz.prog.bytesOf 3=8:=by kernel_rfl
theorem bEm:Tryz.prog.bytesOf 52=32:=by kernel_rfl
theorem bEn:Tryz.prog.bytesOf 61=48:=by kernel_rfl
theorem ce2:Tryz.prog.cellsOf 2=1:=by kernel_rfl
theorem bBc:Tryz.prog.cellsOf 24=1:=by kernel_rfl
theorem ce3:Tryz.prog.cellsOf 3=1:=by kernel_rfl
theorem ce5:Tryz.prog.cellsOf 5=1:=by kernel_rfl
theorem bEo:Tryz.prog.cellsOf 50=1:=by kernel_rfl
theorem bBd:Tryz.prog.cellsOf 52=3:=by kernel_rfl
theorem bEp:Tryz.prog.cellsOf 59=1:=by kernel_rfl
theorem bBe:Tryz.prog.cellsOf 61=5:=by kernel_rfl
theorem bEq:Tryz.prog.cellsOf 67=1:=by kernel_rfl
theorem ce9:Tryz.prog.cellsOf 9=1:=by kernel_rfl
theorem bBj:EN Tryz.prog 10:=aZ Tryz.func10 (by kernel_rfl) rfl
theorem bBk:EN Tryz.prog 100:=aZ Tryz.func100 (by kernel_rfl) rfl
theorem aQg:EN Tryz.prog 101:=aZ Tryz.func101 (by kernel_rfl) rfl
theorem bBl:EN Tryz.prog 102:=aZ Tryz.func102 (by kernel_rfl) rfl
theorem aNd:EN Tryz.prog 103:=aZ Tryz.func103 (by kernel_rfl) rfl
theorem bBm:EN Tryz.prog 104:=aZ Tryz.func104 (by kernel_rfl) rfl
theorem bBn:EN Tryz.prog 105:=aZ Tryz.func105 (by kernel_rfl) rfl
theorem bBo:EN Tryz.prog 106:=aZ Tryz.func106 (by kernel_rfl) rfl
theorem bBp:EN Tryz.prog 107:=aZ Tryz.func107 (by kernel_rfl) rfl
theorem aZp:EN Tryz.prog 11:=aZ Tryz.func11 (by kernel_rfl) rfl
theorem bBq:EN Tryz.prog 110:=aZ Tryz.func110 (by kernel_rfl) rfl
theorem aX9:EN Tryz.prog 111:=aZ Tryz.func111 (by kernel_rfl) rfl
theorem bBr:EN Tryz.prog 112:=aZ Tryz.func112 (by kernel_rfl) rfl
theorem bBs:EN Tryz.prog 113:=aZ Tryz.func113 (by kernel_rfl) rfl
theorem bBt:EN Tryz.prog 114:=aZ Tryz.func114 (by kernel_rfl) rfl
theorem aYa:EN Tryz.prog 115:=aZ Tryz.func115 (by kernel_rfl) rfl
theorem bBu:EN Tryz.prog 116:=aZ Tryz.func116 (by kernel_rfl) rfl
theorem aRw:EN Tryz.prog 12:=aZ Tryz.func12 (by kernel_rfl) rfl
theorem aYb:EN Tryz.prog 122:=aZ Tryz.func122 (by kernel_rfl) rfl
theorem bBv:EN Tryz.prog 123:=aZ Tryz.func123 (by kernel_rfl) rfl
theorem bBw:EN Tryz.prog 124:=aZ Tryz.func124 (by kernel_rfl) rfl
theorem bBx:EN Tryz.prog 125:=aZ Tryz.func125 (by kernel_rfl) rfl
theorem bBy:EN Tryz.prog 126:=aZ Tryz.func126 (by kernel_rfl) rfl
theorem bBz:EN Tryz.prog 128:=aZ Tryz.func128 (by kernel_rfl) rfl
theorem bB0:EN Tryz.prog 129:=aZ Tryz.func129 (by kernel_rfl) rfl
theorem aWc:EN Tryz.prog 13:=aZ Tryz.func13 (by kernel_rfl) rfl
theorem bB1:EN Tryz.prog 130:=aZ Tryz.func130 (by kernel_rfl) rfl
theorem aYc:EN Tryz.prog 131:=aZ Tryz.func131 (by kernel_rfl) rfl
theorem bB2:EN Tryz.prog 134:=aZ Tryz.func134 (by kernel_rfl) rfl
theorem bB3:EN Tryz.prog 138:=aZ Tryz.func138 (by kernel_rfl) rfl
theorem aZq:EN Tryz.prog 14:=aZ Tryz.func14 (by kernel_rfl) rfl
theorem bB4:EN Tryz.prog 142:=aZ Tryz.func142 (by kernel_rfl) rfl
theorem aYd:EN Tryz.prog 143:=aZ Tryz.func143 (by kernel_rfl) rfl
theorem bB5:EN Tryz.prog 145:=aZ Tryz.func145 (by kernel_rfl) rfl
theorem bB6:EN Tryz.prog 148:=aZ Tryz.func148 (by kernel_rfl) rfl
theorem bB7:EN Tryz.prog 15:=aZ Tryz.func15 (by kernel_rfl) rfl
theorem aYe:EN Tryz.prog 152:=aZ Tryz.func152 (by kernel_rfl) rfl
theorem bB8:EN Tryz.prog 16:=aZ Tryz.func16 (by kernel_rfl) rfl
theorem bEx:EN Tryz.prog 18:=aZ Tryz.func18 (by kernel_rfl) rfl
theorem bB9:EN Tryz.prog 19:=aZ Tryz.func19 (by kernel_rfl) rfl
theorem bCa:EN Tryz.prog 20:=aZ Tryz.func20 (by kernel_rfl) rfl
theorem bEy:EN Tryz.prog 21:=aZ Tryz.func21 (by kernel_rfl) rfl
theorem bEz:EN Tryz.prog 22:=aZ Tryz.func22 (by kernel_rfl) rfl
theorem bE0:EN Tryz.prog 23:=aZ Tryz.func23 (by kernel_rfl) rfl
theorem bE1:EN Tryz.prog 24:=aZ Tryz.func24 (by kernel_rfl) rfl
theorem bE2:EN Tryz.prog 26:=aZ Tryz.func26 (by kernel_rfl) rfl
theorem bE3:EN Tryz.prog 29:=aZ Tryz.func29 (by kernel_rfl) rfl
theorem bE4:EN Tryz.prog 30:=aZ Tryz.func30 (by kernel_rfl) rfl
theorem aZr:EN Tryz.prog 31:=aZ Tryz.func31 (by kernel_rfl) rfl
theorem bCb:EN Tryz.prog 32:=aZ Tryz.func32 (by kernel_rfl) rfl
theorem aZs:EN Tryz.prog 33:=aZ Tryz.func33 (by kernel_rfl) rfl
theorem aZt:EN Tryz.prog 34:=aZ Tryz.func34 (by kernel_rfl) rfl
theorem bCc:EN Tryz.prog 35:=aZ Tryz.func35 (by kernel_rfl) rfl
theorem bE5:EN Tryz.prog 36:=aZ Tryz.func36 (by kernel_rfl) rfl
theorem bCd:EN Tryz.prog 37:=aZ Tryz.func37 (by kernel_rfl) rfl
theorem bCe:EN Tryz.prog 38:=aZ Tryz.func38 (by kernel_rfl) rfl
theorem bCf:EN Tryz.prog 39:=aZ Tryz.func39 (by kernel_rfl) rfl
theorem bE6:EN Tryz.prog 40:=aZ Tryz.func40 (by kernel_rfl) rfl
theorem bE7:EN Tryz.prog 41:=aZ Tryz.func41 (by kernel_rfl) rfl
theorem bE8:EN Tryz.prog 42:=aZ Tryz.func42 (by kernel_rfl) rfl
theorem aLj:EN Tryz.prog 43:=aZ Tryz.func43 (by kernel_rfl) rfl
theorem aRx:EN Tryz.prog 44:=aZ Tryz.func44 (by kernel_rfl) rfl
theorem aZu:EN Tryz.prog 45:=aZ Tryz.func45 (by kernel_rfl) rfl
theorem bE9:EN Tryz.prog 46:=aZ Tryz.func46 (by kernel_rfl) rfl
theorem aTn:EN Tryz.prog 47:=aZ Tryz.func47 (by kernel_rfl) rfl
theorem bFa:EN Tryz.prog 48:=aZ Tryz.func48 (by kernel_rfl) rfl
theorem rG:EN Tryz.prog 49:=aZ Tryz.func49 (by kernel_rfl) rfl
theorem xX:EN Tryz.prog 50:=aZ Tryz.func50 (by kernel_rfl) rfl
theorem aNe:EN Tryz.prog 51:=aZ Tryz.func51 (by kernel_rfl) rfl
theorem aZv:EN Tryz.prog 52:=aZ Tryz.func52 (by kernel_rfl) rfl
theorem bFb:EN Tryz.prog 53:=aZ Tryz.func53 (by kernel_rfl) rfl
theorem bFc:EN Tryz.prog 54:=aZ Tryz.func54 (by kernel_rfl) rfl
theorem bFd:EN Tryz.prog 55:=aZ Tryz.func55 (by kernel_rfl) rfl
theorem bFe:EN Tryz.prog 56:=aZ Tryz.func56 (by kernel_rfl) rfl
theorem bFf:EN Tryz.prog 57:=aZ Tryz.func57 (by kernel_rfl) rfl
theorem bCg:EN Tryz.prog 58:=aZ Tryz.func58 (by kernel_rfl) rfl
theorem aJm:EN Tryz.prog 59:=aZ Tryz.func59 (by kernel_rfl) rfl
theorem aNf:EN Tryz.prog 60:=aZ Tryz.func60 (by kernel_rfl) rfl
theorem aWd:EN Tryz.prog 61:=aZ Tryz.func61 (by kernel_rfl) rfl
theorem bFg:EN Tryz.prog 62:=aZ Tryz.func62 (by kernel_rfl) rfl
theorem aWe:EN Tryz.prog 64:=aZ Tryz.func64 (by kernel_rfl) rfl
theorem bFh:EN Tryz.prog 65:=aZ Tryz.func65 (by kernel_rfl) rfl
theorem bFi:EN Tryz.prog 66:=aZ Tryz.func66 (by kernel_rfl) rfl
theorem bCh:EN Tryz.prog 67:=aZ Tryz.func67 (by kernel_rfl) rfl
theorem bFj:EN Tryz.prog 68:=aZ Tryz.func68 (by kernel_rfl) rfl
theorem bFk:EN Tryz.prog 69:=aZ Tryz.func69 (by kernel_rfl) rfl
theorem bCi:EN Tryz.prog 70:=aZ Tryz.func70 (by kernel_rfl) rfl
theorem bFl:EN Tryz.prog 71:=aZ Tryz.func71 (by kernel_rfl) rfl
theorem bCj:EN Tryz.prog 72:=aZ Tryz.func72 (by kernel_rfl) rfl
theorem bCk:EN Tryz.prog 73:=aZ Tryz.func73 (by kernel_rfl) rfl
theorem aZw:EN Tryz.prog 74:=aZ Tryz.func74 (by kernel_rfl) rfl
theorem bCl:EN Tryz.prog 75:=aZ Tryz.func75 (by kernel_rfl) rfl
theorem bFm:EN Tryz.prog 76:=aZ Tryz.func76 (by kernel_rfl) rfl
theorem bFn:EN Tryz.prog 77:=aZ Tryz.func77 (by kernel_rfl) rfl
theorem aZx:EN Tryz.prog 78:=aZ Tryz.func78 (by kernel_rfl) rfl
theorem bFo:EN Tryz.prog 79:=aZ Tryz.func79 (by kernel_rfl) rfl
theorem en8:EN Tryz.prog 8:=aZ Tryz.func8 (by kernel_rfl) rfl
theorem bCm:EN Tryz.prog 80:=aZ Tryz.func80 (by kernel_rfl) rfl
theorem bCn:EN Tryz.prog 81:=aZ Tryz.func81 (by kernel_rfl) rfl
theorem bFp:EN Tryz.prog 82:=aZ Tryz.func82 (by kernel_rfl) rfl
theorem bFq:EN Tryz.prog 83:=aZ Tryz.func83 (by kernel_rfl) rfl
theorem bCo:EN Tryz.prog 84:=aZ Tryz.func84 (by kernel_rfl) rfl
theorem aWf:EN Tryz.prog 85:=aZ Tryz.func85 (by kernel_rfl) rfl
theorem bFr:EN Tryz.prog 86:=aZ Tryz.func86 (by kernel_rfl) rfl
theorem bFs:EN Tryz.prog 87:=aZ Tryz.func87 (by kernel_rfl) rfl
theorem bCp:EN Tryz.prog 88:=aZ Tryz.func88 (by kernel_rfl) rfl
theorem bCq:EN Tryz.prog 89:=aZ Tryz.func89 (by kernel_rfl) rfl
theorem en9:EN Tryz.prog 9:=aZ Tryz.func9 (by kernel_rfl) rfl
theorem bFt:EN Tryz.prog 90:=aZ Tryz.func90 (by kernel_rfl) rfl
theorem bCr:EN Tryz.prog 91:=aZ Tryz.func91 (by kernel_rfl) rfl
theorem bCs:EN Tryz.prog 92:=aZ Tryz.func92 (by kernel_rfl) rfl
theorem aWg:EN Tryz.prog 93:=aZ Tryz.func93 (by kernel_rfl) rfl
theorem bFu:EN Tryz.prog 94:=aZ Tryz.func94 (by kernel_rfl) rfl
theorem aWh:EN Tryz.prog 95:=aZ Tryz.func95 (by kernel_rfl) rfl
theorem bFv:EN Tryz.prog 96:=aZ Tryz.func96 (by kernel_rfl) rfl
theorem bFw:EN Tryz.prog 97:=aZ Tryz.func97 (by kernel_rfl) rfl
theorem bFx:EN Tryz.prog 98:=aZ Tryz.func98 (by kernel_rfl) rfl
theorem bCt:EN Tryz.prog 99:=aZ Tryz.func99 (by kernel_rfl) rfl
theorem aYf (b:Nat):EXT Tryz.prog 117 #[.float .f64 b] (.int .u64 b):=λw=>by kernel_rfl
theorem aYg (n:Int):EXT Tryz.prog 132 #[.int .u64 n] (.float .f64 n.toNat):=λw=>by kernel_rfl
theorem aBj:FA Tryz.prog 128 0 0:=λad w=>by kernel_rfl
theorem aHf:FA Tryz.prog 128 1 1:=λad w=>by kernel_rfl
theorem tJ:FA Tryz.prog 128 2 2:=λad w=>by kernel_rfl
theorem sA:FA Tryz.prog 140 0 0:=λad w=>by kernel_rfl
theorem aO5:FA Tryz.prog 26 0 0:=λad w=>by kernel_rfl
theorem aO6:FA Tryz.prog 26 1 1:=λad w=>by kernel_rfl
theorem aO7:FA Tryz.prog 26 2 2:=λad w=>by kernel_rfl
theorem aO8:FA Tryz.prog 26 3 3:=λad w=>by kernel_rfl
theorem aH7:FA Tryz.prog 46 0 0:=λad w=>by kernel_rfl
theorem rH:FA Tryz.prog 46 1 1:=λad w=>by kernel_rfl
theorem vB:FA Tryz.prog 46 2 2:=λad w=>by kernel_rfl
theorem aF4:FA Tryz.prog 46 3 3:=λad w=>by kernel_rfl
theorem aEk:FA Tryz.prog 46 4 4:=λad w=>by kernel_rfl
theorem aO9:FA Tryz.prog 52 0 0:=λad w=>by kernel_rfl
theorem aTu:FA Tryz.prog 52 1 1:=λad w=>by kernel_rfl
theorem lC:FA Tryz.prog 61 0 0:=λad w=>by kernel_rfl
theorem tP:FA Tryz.prog 61 1 1:=λad w=>by kernel_rfl
theorem dU:FA Tryz.prog 61 2 2:=λad w=>by kernel_rfl
theorem wA:FA Tryz.prog 61 3 3:=λad w=>by kernel_rfl
theorem aH8:FA Tryz.prog 61 4 4:=λad w=>by kernel_rfl
theorem nZ:FA Tryz.prog 77 0 0:=λad w=>by kernel_rfl
theorem aLl:FA Tryz.prog 77 1 1:=λad w=>by kernel_rfl
theorem aLm:FA Tryz.prog 77 2 2:=λad w=>by kernel_rfl
theorem aPa:FA Tryz.prog 77 3 3:=λad w=>by kernel_rfl
theorem aTv:FA Tryz.prog 77 4 4:=λad w=>by kernel_rfl
theorem aF5:FA Tryz.prog 79 0 0:=λad w=>by kernel_rfl
theorem aEl:FA Tryz.prog 79 1 1:=λad w=>by kernel_rfl
theorem iJ:FA Tryz.prog 79 2 2:=λad w=>by kernel_rfl
theorem aH9:FA Tryz.prog 90 0 0:=λad w=>by kernel_rfl
theorem aEm:FA Tryz.prog 90 1 1:=λad w=>by kernel_rfl
theorem zC:FA Tryz.prog 90 2 2:=λad w=>by kernel_rfl
theorem aAh:FA Tryz.prog 90 3 3:=λad w=>by kernel_rfl
theorem aIa:FA Tryz.prog 90 4 4:=λad w=>by kernel_rfl
theorem aF6:FA Tryz.prog 90 5 5:=λad w=>by kernel_rfl
theorem aLn:FA Tryz.prog 90 6 6:=λad w=>by kernel_rfl
theorem aIb:FA Tryz.prog 90 7 7:=λad w=>by kernel_rfl
theorem aLo:FA Tryz.prog 98 0 0:=λad w=>by kernel_rfl
theorem aIc:FA Tryz.prog 98 1 1:=λad w=>by kernel_rfl
theorem aZ0:FA Tryz.prog 98 2 2:=λad w=>by kernel_rfl
theorem bF0:Tryz.prog.eqGuardType Tryz.prog.depth 90=false:=by kernel_rfl
theorem mA:(Tryz.prog.info? 2).map (λi=>(i.zero,i.size,i.bytes))=some (some (.int .i64 0),1,8):=by kernel_rfl
theorem aQq:(Tryz.prog.info? 24).map (λi=>(i.zero,i.size,i.bytes))=some (some (.int .u64 0),1,8):=by kernel_rfl
theorem bF1:(Tryz.prog.info? 4).map (λi=>(i.zero,i.size,i.bytes))=some (some (.bool false),1,1):=by kernel_rfl
theorem aNp:(Tryz.prog.info? 46).map (λi=>(i.zero,i.size,i.bytes))=some (some (.agg #[(str []),(.int .u64 0),(.int .u64 0),(.int .i64 0),(.int .i64 0)]),5,48):=by kernel_rfl
theorem aF9:(Tryz.prog.info? 5).map (λi=>(i.zero,i.size,i.bytes))=some (some (.int .u8 0),1,1):=by kernel_rfl
theorem aQr:(Tryz.prog.info? 59).map (λi=>(i.zero,i.size,i.bytes))=some (some (.float .f64 0),1,8):=by kernel_rfl
theorem aNq:(Tryz.prog.info? 61).map (λi=>(i.zero,i.size,i.bytes))=some (some (.agg #[(.int .u64 0),(.int .i64 0),(.int .i64 0),(str []),(.float .f64 0)]),5,48):=by kernel_rfl
theorem aR1:(Tryz.prog.info? 9).map (λi=>(i.zero,i.size,i.bytes))=some (some (str []),1,16):=by kernel_rfl
theorem aYh:(Tryz.prog.info? 90).map (λi=>(i.zero,i.size,i.bytes))=some (some (.agg #[(.int .i64 0),(.int .i64 0),(.int .u64 0),(.int .u64 0),(.int .i64 0),(.int .i64 0),(str []),(str [])]),8,80):=by kernel_rfl
theorem aYi:(Tryz.prog.info? 98).map (λi=>(i.zero,i.size,i.bytes))=some (some (.agg #[(str []),(.slice none 0 0),(.int .i64 0)]),3,48):=by kernel_rfl
theorem aZ9 {args:Array Value} {w:World} (h:(Extern.SlicesOverlaps.overlaps #[75,75] #[4] args).run Tryz.prog w=.ok (.bool false) w):(callFunc 108 args).run Tryz.prog w=.ok (.value (.bool false)) w:=by rw [run_callFunc_extern Tryz.func108 (by kernel_rfl) (by kernel_rfl) (by kernel_rfl) (e:=Extern.SlicesOverlaps.overlaps #[75,75] #[4]) (by kernel_rfl),h];rfl
theorem bF4:Tryz.prog.stoodInHeld 90=false:=by kernel_rfl
theorem aYy:(Tryz.prog.info? 126).map (·.size)=some 1:=by kernel_rfl
theorem bDi:(Tryz.prog.info? 137).map (·.size)=some 0:=by kernel_rfl
theorem bDj:(Tryz.prog.info? 158).map (·.size)=some 1:=by kernel_rfl
theorem sz2:(Tryz.prog.info? 2).map (·.size)=some 1:=by kernel_rfl
theorem aFt:(Tryz.prog.info? 23).map (·.size)=some 1:=by kernel_rfl
theorem aJb:(Tryz.prog.info? 24).map (·.size)=some 1:=by kernel_rfl
theorem aSi:(Tryz.prog.info? 26).map (·.size)=some 4:=by kernel_rfl
theorem sz3:(Tryz.prog.info? 3).map (·.size)=some 1:=by kernel_rfl
theorem bF5:(Tryz.prog.info? 30).map (·.size)=some 1:=by kernel_rfl
theorem bDk:(Tryz.prog.info? 38).map (·.size)=some 1:=by kernel_rfl
theorem sz4:(Tryz.prog.info? 4).map (·.size)=some 1:=by kernel_rfl
theorem hX:(Tryz.prog.info? 46).map (·.size)=some 5:=by kernel_rfl
theorem sz5:(Tryz.prog.info? 5).map (·.size)=some 1:=by kernel_rfl
theorem bAj:(Tryz.prog.info? 52).map (·.size)=some 3:=by kernel_rfl
theorem bF6:(Tryz.prog.info? 53).map (·.size)=some 1:=by kernel_rfl
theorem bAk:(Tryz.prog.info? 59).map (·.size)=some 1:=by kernel_rfl
theorem gU:(Tryz.prog.info? 61).map (·.size)=some 5:=by kernel_rfl
theorem bDl:(Tryz.prog.info? 67).map (·.size)=some 1:=by kernel_rfl
theorem aW8:(Tryz.prog.info? 75).map (·.size)=some 1:=by kernel_rfl
theorem sz9:(Tryz.prog.info? 9).map (·.size)=some 1:=by kernel_rfl
theorem zP:(Tryz.prog.info? 90).map (·.size)=some 8:=by kernel_rfl
theorem oD:(Tryz.prog.info? 98).map (·.size)=some 3:=by kernel_rfl
theorem bEf:(Tryz.prog.info? 126).bind (·.zero)=some (.slice none 0 0):=by kernel_rfl
theorem bEg:(Tryz.prog.info? 137).bind (·.zero)=some (.agg #[]):=by kernel_rfl
theorem bEh:(Tryz.prog.info? 157).bind (·.zero)=some (.agg #[(.slice none 0 0),(.slice none 0 0),(.slice none 0 0),(.slice none 0 0),(.slice none 0 0)]):=by kernel_rfl
theorem bEi:(Tryz.prog.info? 158).bind (·.zero)=some (.slice none 0 0):=by kernel_rfl
theorem bGb:(Tryz.prog.info? 23).bind (·.zero)=some (.slice none 0 0):=by kernel_rfl
theorem bGc:(Tryz.prog.info? 26).bind (·.zero)=some (.agg #[(.int .u64 0),(.int .u64 0),(.int .i64 0),(.int .i64 0)]):=by kernel_rfl
theorem zr4:(Tryz.prog.info? 4).bind (·.zero)=some (.bool false):=by kernel_rfl
theorem aG8:(Tryz.prog.info? 46).bind (·.zero)=some (.agg #[(str []),(.int .u64 0),(.int .u64 0),(.int .i64 0),(.int .i64 0)]):=by kernel_rfl
theorem bGd:(Tryz.prog.info? 52).bind (·.zero)=some (.agg #[(.int .u8 0),(.int .u8 0),(.slice none 0 0)]):=by kernel_rfl
theorem bGe:(Tryz.prog.info? 53).bind (·.zero)=some (.slice none 0 0):=by kernel_rfl
theorem aOk:(Tryz.prog.info? 61).bind (·.zero)=some (.agg #[(.int .u64 0),(.int .i64 0),(.int .i64 0),(str []),(.float .f64 0)]):=by kernel_rfl
theorem zr9:(Tryz.prog.info? 9).bind (·.zero)=some (str []):=by kernel_rfl
theorem aP1:(Tryz.prog.info? 90).bind (·.zero)=some (.agg #[(.int .i64 0),(.int .i64 0),(.int .u64 0),(.int .u64 0),(.int .i64 0),(.int .i64 0),(str []),(str [])]):=by kernel_rfl
theorem aXu:(Tryz.prog.info? 98).bind (·.zero)=some (.agg #[(str []),(.slice none 0 0),(.int .i64 0)]):=by kernel_rfl
set_option maxRecDepth 100000 in
theorem bCu (x y:S90) (w:World):(Op.equalIn 10000 90 (.agg #[.int .i64 x.f0,.int .i64 x.f1,.int .u64 x.f2,.int .u64 x.f3,.int .i64 x.f4,.int .i64 x.f5,str x.f6,str x.f7]) (.agg #[.int .i64 y.f0,.int .i64 y.f1,.int .u64 y.f2,.int .u64 y.f3,.int .i64 y.f4,.int .i64 y.f5,str y.f6,str y.f7])).run Tryz.prog w=.ok (aJn x y) w :=
  eqs Tryz.underlying90 bF4 (eqf (jE Tryz.underlying3 rfl rfl) (jE Tryz.underlying3 rfl rfl) (run_equalIn_int w 9998 3 .i64 .i64 _ _ Tryz.underlying3) (eqf (jE Tryz.underlying3 rfl rfl) (jE Tryz.underlying3 rfl rfl) (run_equalIn_int w 9998 3 .i64 .i64 _ _ Tryz.underlying3) (eqf (jE Tryz.underlying24 rfl rfl) (jE Tryz.underlying24 rfl rfl) (run_equalIn_int w 9998 24 .u64 .u64 _ _ Tryz.underlying24) (eqf (jE Tryz.underlying24 rfl rfl) (jE Tryz.underlying24 rfl rfl) (run_equalIn_int w 9998 24 .u64 .u64 _ _ Tryz.underlying24) (eqf (jE Tryz.underlying2 rfl rfl) (jE Tryz.underlying2 rfl rfl) (run_equalIn_int w 9998 2 .i64 .i64 _ _ Tryz.underlying2) (eqf (jE Tryz.underlying2 rfl rfl) (jE Tryz.underlying2 rfl rfl) (run_equalIn_int w 9998 2 .i64 .i64 _ _ Tryz.underlying2) (eqf (jE Tryz.underlying9 rfl rfl) (jE Tryz.underlying9 rfl rfl) (aTq (d:=9998) Tryz.underlying9) (eqf (jE Tryz.underlying9 rfl rfl) (jE Tryz.underlying9 rfl rfl) (aTq (d:=9998) Tryz.underlying9) eqn rfl) rfl) rfl) rfl) rfl) rfl) rfl) rfl)
abbrev _root_.Go.Proofs.YtdkpjpoajlmmfaaGreatDoor.E.pP (g:Nat):Value:=.pointer (some ⟨g,0,none⟩)
abbrev _root_.Go.Proofs.YtdkpjpoajlmmfaaGreatDoor.E.bGj (x:Int):Value:=.int .i64 x
abbrev _root_.Go.Proofs.YtdkpjpoajlmmfaaGreatDoor.E.bGk (x:Int):Value:=.int .u64 x
abbrev _root_.Go.Proofs.YtdkpjpoajlmmfaaGreatDoor.E.bGl (x:Int):Value:=.int .u8 x
abbrev _root_.Go.Proofs.YtdkpjpoajlmmfaaGreatDoor.E.bGm (x:Int):Value:=.int .u32 x
abbrev bGn:=own2 kp98 (kI .u8) 5 (λx:S98=>x.f1) 98
def _root_.Go.Proofs.YtdkpjpoajlmmfaaGreatDoor.E.bGo':List Nat->List HP->List HP
 | [],L=>L
 | i::l,L=>bGo' l (pk i L)
theorem _root_.Go.Proofs.YtdkpjpoajlmmfaaGreatDoor.E.SH.bGo {r L w} (h:SH r L w) (l:List Nat):SH r (bGo' l L) w:=by
 induction l generalizing L with
 | nil=>exact h
 | cons i l ih=>exact ih (h.pk i)
theorem _root_.Go.Proofs.YtdkpjpoajlmmfaaGreatDoor.E.bGp {o:Oper} {A:Op} {D F n} {a:Act} {x y:Operand} {u v:Value} {C:Prop} (r:o.op=A->a.eval x=u->a.eval y=v->C) (J:FR n D a F) (h:(o.op,ev F x,ev F y)=(A,some u,some v)):C:=r (congrArg (·.1) h) (J.ev (congrArg (·.2.1) h)) (J.ev (congrArg (·.2.2) h))
abbrev uu2:=Tryz.underlying2
abbrev uu3:=Tryz.underlying3
abbrev uu4:=Tryz.underlying4
abbrev uu5:=Tryz.underlying5
abbrev uu9:=Tryz.underlying9
abbrev gH:=Tryz.underlying22
abbrev cN:=Tryz.underlying23
abbrev bN:=Tryz.underlying24
abbrev aVe:=Tryz.underlying26
abbrev pE:=Tryz.underlying29
abbrev bF7:=Tryz.underlying30
abbrev aFy:=Tryz.underlying33
abbrev fI:=Tryz.underlying38
abbrev zQ:=Tryz.underlying46
abbrev bDo:=Tryz.underlying49
abbrev bF8:=Tryz.underlying52
abbrev uL:=Tryz.underlying53
abbrev aFz:=Tryz.underlying58
abbrev aOf:=Tryz.underlying59
abbrev aC4:=Tryz.underlying61
abbrev aEv:=Tryz.underlying67
abbrev iK:=Tryz.underlying75
abbrev aOg:=Tryz.underlying90
abbrev aSm:=Tryz.underlying91
abbrev aPy:=Tryz.underlying98
abbrev aQ8:=Tryz.underlying125
abbrev mF:=Tryz.underlying126
abbrev bDn:=Tryz.underlying137
abbrev aKw:=Tryz.underlying157
abbrev bV:=Tryz.underlying158
abbrev aFx:=Tryz.underlying163
abbrev aY1:=Tryz.underlying167
abbrev aY2:=Tryz.underlying173
abbrev aY3:=Tryz.underlying174
abbrev aQ9:=Tryz.underlying178
def g52 (x:S52):Prop:=(gI .u8) x.f0/\(gI .u8) x.f1/\(gL 8 (gI .i64)) x.f2
set_option maxRecDepth 100000 in
theorem op52 {W:World}:Opens Tryz.prog W 52 (kz52 (aE0 W) W) g52:=by
  intro H enc m fuel cs x h hw;obtain⟨ys,n,_,rfl,hl,a,hf⟩:=DataW.trod_struct Tryz.underlying52 h;rw [bBd] at hl
  match cs,hl with
  | [c0,c1,c2],_ =>
    obtain⟨a0,h0,d⟩:=fld Tryz.underlying52 hf a hw 0 rfl (o:=0) (c:=1) (t:=5) rfl rfl ce5 (opI Tryz.underlying5);cases (show [c0]=[bGl a0] from h0);obtain⟨b,e,f⟩:=fld Tryz.underlying52 hf a hw 1 rfl (o:=1) (c:=1) (t:=5) rfl rfl ce5 (opI Tryz.underlying5);cases (show [c1]=[bGl b] from e);obtain⟨a2,g,i⟩:=fld Tryz.underlying52 hf a hw 2 rfl (o:=2) (c:=1) (t:=50) rfl rfl bEo (aZ7 Tryz.underlying50 ce3 (Nat.succ_pos _) by3 (opI Tryz.underlying3));obtain⟨A2,n2,j,k,l⟩:=g;cases (show [c2]=[.slice A2 n2 j] from k);exact⟨⟨a0,b,a2⟩,⟨_,_,_,rfl,l⟩,d,f,i⟩
def g61 (x:S61):Prop:=(gI .u64) x.f0/\(gI .i64) x.f1/\(gI .i64) x.f2/\gS x.f3/\gF x.f4
set_option maxRecDepth 100000 in
theorem op61 {W:World}:Opens Tryz.prog W 61 k61 g61:=by
  intro H enc p fuel cs x h hw;obtain⟨ys,n,_,rfl,hl,a,hf⟩:=DataW.trod_struct Tryz.underlying61 h;rw [bBe] at hl
  match cs,hl with
  | [c0,c1,c2,c3,c4],_ =>
    obtain⟨a0,h0,d⟩:=fld Tryz.underlying61 hf a hw 0 rfl (o:=0) (c:=1) (t:=24) rfl rfl bBc (opI Tryz.underlying24);cases (show [c0]=[bGk a0] from h0);obtain⟨b,e,f⟩:=fld Tryz.underlying61 hf a hw 1 rfl (o:=1) (c:=1) (t:=3) rfl rfl ce3 (opI Tryz.underlying3);cases (show [c1]=[bGj b] from e);obtain⟨a2,g,i⟩:=fld Tryz.underlying61 hf a hw 2 rfl (o:=2) (c:=1) (t:=2) rfl rfl ce2 (opI Tryz.underlying2);cases (show [c2]=[bGj a2] from g);obtain⟨a3,j,k⟩:=fld Tryz.underlying61 hf a hw 3 rfl (o:=3) (c:=1) (t:=9) rfl rfl ce9 (opS Tryz.underlying9);cases (show [c3]=[str a3] from j);obtain⟨a4,l,m⟩:=fld Tryz.underlying61 hf a hw 4 rfl (o:=4) (c:=1) (t:=59) rfl rfl bEp (opF Tryz.underlying59);cases (show [c4]=[.float .f64 a4] from l);exact⟨⟨a0,b,a2,a3,a4⟩,rfl,d,f,i,k,m⟩
noncomputable section
set_option linter.unusedSimpArgs false
def aCp (a:Int):Option (Int):=some (aAx .u32 (IntKind.u32.max) a)
def aAm (a:Int):Option (Int):=aCp a
abbrev bGq:=((Int×Int)⊕Int)
def nR (a0:List Int) (a b:Int):Option bGq:=if decide (b<(a0.length:Int)) then ((at_ a0 b).bind λe=>(ltt (IntKind.u32.wrap e) λc=>(ltt (aAx .u32 a c) λf=>(ltt (aBk .u32 f 15) λg=>((at_ bQ g).bind λh=>(ltt (oC .u32 a 4) λi=>(ltt (aAx .u32 h i) λd=>(ltt (oC .u32 c 4) λj=>(ltt (aAx .u32 d j) λk=>(ltt (aBk .u32 k 15) λl=>((at_ bQ l).bind λm=>(ltt (oC .u32 d 4) λn=>(ltt (aAx .u32 m n) λo=>(ltt (IntKind.i64.wrap (b+1)) λp=>(some (.inl (o,p))))))))))))))))) else (some (.inr (a)))
def aA2 (a0:List Int):Option (Int):=(loop (λs=>nR a0 s.1 s.2) (4294967295,0)).bind λt=>aAm t
def uE (a0:List Int):Option (Int):=(at_ a0 0).bind λa=>(ltt (IntKind.u32.wrap a) λb=>((at_ a0 1).bind λc=>(ltt (IntKind.u32.wrap c) λd=>(ltt (wT .u32 d 8) λe=>(ltt (ior .u32 b e) λf=>((at_ a0 2).bind λg=>(ltt (IntKind.u32.wrap g) λh=>(ltt (wT .u32 h 16) λi=>(ltt (ior .u32 f i) λj=>((at_ a0 3).bind λk=>(ltt (IntKind.u32.wrap k) λl=>(ltt (wT .u32 l 24) λm=>(ltt (ior .u32 j m) λn=>(some n))))))))))))))
abbrev bGr:=(List Int)
def dH (a0:List Int):Option bGr:=tE (a0).isEmpty (some []) (chk (([]:List Int).length+a0.length<=140737488355328 / 1) (some a0))
abbrev bGs:=(Int×List Int×Int×Int)
def vK (o:Int) (a:List Int) (c:Int) (d:Bool):Option bGs:=if d=true then (some (0,[],0,3)) else (ltt (IntKind.i64.wrap c) λe=>(ltt (IntKind.i64.wrap (5+e)) λb=>((kD a 0 b).bind λf=>((kD a b (a.length:Int)).bind λg=>((aA2 f).bind λh=>((uE g).bind λi=>(if h != i then (some (0,[],0,4)) else ((at_ a 4).bind λj=>((kD a 5 b).bind λk=>(ltt (IntKind.i64.wrap (o+b)) λl=>(ltt (IntKind.i64.wrap (l+4)) λm=>((dH k).bind λn=>(some (j,n,m,0))))))))))))))
def vJ (a0:List Int) (c:Int) (d:Bool):Option bGs:=if d=true then (some (0,[],0,1)) else ((kD a0 c (a0.length:Int)).bind λa=>(if decide ((a.length:Int)<9) then (some (0,[],0,3)) else ((uE a).bind λb=>(if decide (1048576<b) then (vK c a b true) else (ltt (IntKind.i64.wrap b) λe=>(ltt (IntKind.i64.wrap ((a.length:Int) - 9)) λf=>(vK c a b (decide (f<e)))))))))
def sI (a0:List Int) (a:Int):Option bGs:=if decide (a<0) then (vJ a0 a true) else (vJ a0 a (decide ((a0.length:Int)<a)))
end
set_option maxRecDepth 100000
set_option maxHeartbeats 4000000
section
variable {r:World} {L:List HP} {w:World} {Z:Nat->Prop} {wz:World}
theorem aHo {a0 A0 n0 c0 y} (G:aA2 a0=some y) (X:SH r (L) w) (qz:Nat) (c:L[qz]?=some (zone Z wz)) (f:RdL L (kI .u8) A0 n0 c0 a0) (d:Imm Z wz (kI .u32) (some ⟨0,0,none⟩) 16 16 bQ) :
  Ret Tryz.prog 89 #[.slice A0 n0 c0] w λv w'=>v=bGm y/\SH r (L) w':=by
 refine enter Tryz.func89 rfl Tryz.ntmps89 [(0,_)] rfl (by simp) ?_;intro U J Qf R c2;unfold aA2 at G;refine nz 1 J rfl λU J=>nz 1 J rfl λU J=>wp_seq_k λT m=>ws λW n=>xk 1 J rfl λU J=>aX cN (X.rdl 0 f rfl).2.1 J rfl λU J=>x_m J rfl λU J=>wn (n _ _ ?_);refine aA λg o=>?_;have S:∀e,aCp e=some y->∀U w,FR 36 [] U [(3,bGm e)]->SH r (L) w->g U w:=by intro e G U w J X;unfold aCp at G;refine o _ _ (m _ _ ?_);refine ws λY p=>xk 1 J rfl λU J=>x_v J (aWy rfl (J.ev rfl)) rfl λU J=>x_m J rfl λU J=>wn (p _ _ ?_);cases G;exact wp_ret (R _ _ (lv Tryz.results89 J rfl ⟨rfl,X⟩))
 obtain⟨q,t,G⟩:=bnd G;have u:∀a,(a)=q->∀U w,FR 36 [] U [(3,bGm a)]->SH r (L) w->g U w:=by intro a ht U w J X;subst ht;replace G:aAm a=some y:=G;unfold aAm at G;exact S a G U w (J.sub _ rfl) X
 refine aT t (λs U w=>FR 36 [] U [(3,bGm s.1),(6,.slice A0 n0 c0),(7,bGj (a0.length:Int)),(8,bGj s.2)]/\SH r (L) w) ⟨J.sub _ rfl,X⟩ ?_;intro a1 x z G A B U w l;obtain⟨h,C⟩:=x;replace G:nR a0 h C=some z:=G;unfold nR at G
 try dsimp only at l
 obtain⟨J,X⟩:=l;refine nz 1 J rfl λU J=>wp_seq_k λa2 D=>aY J G rfl (λE G=>?_) λE G=>?_
 ·refine wp_skip (D _ _ ?_);refine wp_seq_k λa3 F=>aA λa4 H=>ws λa5 I=>?_;obtain⟨a6,i,G⟩:=bnd G;refine dT cN sz5 (X.rdl 0 f rfl) i J rfl λU J=>?_;obtain⟨cs,b,K⟩:=el (X.rdl 0 f rfl) i;obtain rfl:=b;refine aK uu5 (K 0 _ rfl) J rfl λU J=>x_m J rfl λU J=>wn (I _ _ ?_);refine ws λa7 M=>xk 2 J rfl λU J=>eD G J (aQ uu5 aEv rfl (J.ev rfl)) rfl λN O U J G=>x_l G J rfl λa8 _ U J G=>x_l G J rfl λa9 _ U J G=>?_;obtain⟨b1,j,G⟩:=bnd G;refine aC8 aY3 bDl (X.rdl 0 (d.rdl qz c) rfl) j J rfl λU J=>?_;obtain⟨cs,b,P⟩:=el (X.rdl 0 (d.rdl qz c) rfl) j;obtain rfl:=b;refine aK aEv (P 0 _ rfl) J rfl λU J=>x_m J rfl λU J=>eD G J (bGp uG J rfl (by decide)) rfl λb2 _ U J G=>x_l G J rfl λb3 _ U J G=>x_m J rfl λU J=>wn (M _ _ ?_);refine aC (xk 2 J rfl λU J=>?_);refine x_v (v:=bGm N) J (cM O (aQ uu5 aEv rfl (J.ev rfl))) rfl λU J=>eD G J (bGp uG J rfl (by decide)) rfl λb4 _ U J G=>x_l G J rfl λb5 _ U J G=>x_l G J rfl λb6 _ U J G=>?_;obtain⟨b7,k,G⟩:=bnd G;refine aC8 aY3 bDl (X.rdl 0 (d.rdl qz c) rfl) k J rfl λU J=>?_;obtain⟨cs,b,Q⟩:=el (X.rdl 0 (d.rdl qz c) rfl) k;obtain rfl:=b;refine aK aEv (Q 0 _ rfl) J rfl λU J=>x_m J rfl λU J=>eD G J (bGp uG J rfl (by decide)) rfl λb8 _ U J G=>x_l G J rfl λb9 _ U J G=>x_m J rfl λU J=>wpList_nil (H _ _ ?_);refine F _ _ (aC ?_);refine x_l G J rfl λc1 _ U J G=>x_m J rfl λU J=>wpList_nil ?_;cases G;exact⟨_,A _ rfl,J.sub _ rfl,X⟩
 cases G;exact wp_exit (u h (B _ rfl) U w (J.sub _ rfl) X)
theorem aD7 {a0 A0 n0 c0 y} (G:uE a0=some y) (X:SH r (L) w) (a:RdL L (kI .u8) A0 n0 c0 a0) :
  Ret Tryz.prog 92 #[.slice A0 n0 c0] w λv w'=>v=bGm y/\SH r (L) w':=by
 refine enter Tryz.func92 rfl Tryz.ntmps92 [(0,_)] rfl (by simp) ?_;intro U J Qf Q S;unfold uE at G;refine nz 1 J rfl λU J=>wp_seq_k λR x=>wD [0,1,3,7,0,16,48,112,240,511,0,1024,3072,7168,15360,32767,0,65536,196608,458752,983040,2097151,4194303] [] rfl J X (by kernel_rfl) λw X=>?_;obtain⟨c,d,G⟩:=bnd G;obtain⟨cs,b,z⟩:=el (X.rdl 0 a rfl) d;obtain rfl:=b;obtain⟨e,A,G⟩:=gX G;obtain⟨f,g,G⟩:=bnd G;obtain⟨cs,b,B⟩:=el (X.rdl 0 a rfl) g;obtain rfl:=b;obtain⟨h,C,G⟩:=gX G;obtain⟨i,D,G⟩:=gX G;obtain⟨j,E,G⟩:=gX G;obtain⟨k,l,G⟩:=bnd G;obtain⟨cs,b,F⟩:=el (X.rdl 0 a rfl) l;obtain rfl:=b;obtain⟨m,H,G⟩:=gX G;obtain⟨n,I,G⟩:=gX G;obtain⟨o,K,G⟩:=gX G;obtain⟨p,q,G⟩:=bnd G;obtain⟨cs,b,M⟩:=el (X.rdl 0 a rfl) q;obtain rfl:=b;obtain⟨s,N,G⟩:=gX G;obtain⟨t,O,G⟩:=gX G;obtain⟨u,P,G⟩:=gX G;refine⟨[(0,.slice A0 n0 c0),(1,.pointer (some (ea A0 ((0:Int).toNat * 1)))),(2,bGl c),(3,bGm e),(4,.slice A0 n0 c0),(5,.pointer (some (ea A0 ((1:Int).toNat * 1)))),(6,bGl f),(7,bGm h),(8,bGm i),(9,bGm j),(10,.slice A0 n0 c0),(11,.pointer (some (ea A0 ((2:Int).toNat * 1)))),(12,bGl k),(13,bGm m),(14,bGm n),(15,bGm o),(16,.slice A0 n0 c0),(17,.pointer (some (ea A0 ((3:Int).toNat * 1)))),(18,bGl p),(19,bGm s),(20,bGm t),(21,bGm u),(22,bGm u)],?_⟩;refine dZ [0,1,2,3,4,5,6,7,8,9,10,11,12,13,14,15,16,17,18,19,20,21,22] (by kernel_rfl) ⟨pm rfl,pt [(3,.slice A0 n0 c0)] rfl (λU J=>fE cN sz5 (X.rdl 0 a rfl) d J rfl rfl rfl),pt [(4,.pointer (some (ea A0 ((0:Int).toNat * 1))))] rfl (λU J=>aS uu5 (z 0 _ rfl) J rfl rfl rfl),pt [(5,bGl c)] rfl λU J=>cM A (aQ uu5 aEv rfl (J.ev rfl)),pm rfl,pt [(7,.slice A0 n0 c0)] rfl (λU J=>fE cN sz5 (X.rdl 0 a rfl) g J rfl rfl rfl),pt [(8,.pointer (some (ea A0 ((1:Int).toNat * 1))))] rfl (λU J=>aS uu5 (B 0 _ rfl) J rfl rfl rfl),pt [(9,bGl f)] rfl λU J=>cM C (aQ uu5 aEv rfl (J.ev rfl)),pt [(10,bGm h)] rfl λU J=>cM D (bGp aEb J rfl (by decide)),pt [(6,bGm e),(11,bGm i)] rfl λU J=>cM E (bGp aL7 J rfl),pm rfl,pt [(13,.slice A0 n0 c0)] rfl (λU J=>fE cN sz5 (X.rdl 0 a rfl) l J rfl rfl rfl),pt [(14,.pointer (some (ea A0 ((2:Int).toNat * 1))))] rfl (λU J=>aS uu5 (F 0 _ rfl) J rfl rfl rfl),pt [(15,bGl k)] rfl λU J=>cM H (aQ uu5 aEv rfl (J.ev rfl)),pt [(16,bGm m)] rfl λU J=>cM I (bGp aEb J rfl (by decide)),pt [(12,bGm j),(17,bGm n)] rfl λU J=>cM K (bGp aL7 J rfl),pm rfl,pt [(19,.slice A0 n0 c0)] rfl (λU J=>fE cN sz5 (X.rdl 0 a rfl) q J rfl rfl rfl),pt [(20,.pointer (some (ea A0 ((3:Int).toNat * 1))))] rfl (λU J=>aS uu5 (M 0 _ rfl) J rfl rfl rfl),pt [(21,bGl p)] rfl λU J=>cM N (aQ uu5 aEv rfl (J.ev rfl)),pt [(22,bGm s)] rfl λU J=>cM O (bGp aEb J rfl (by decide)),pt [(18,bGm o),(23,bGm t)] rfl λU J=>cM P (bGp aL7 J rfl),pm rfl,trivial⟩ [(2,_)] rfl (λU J=>?_);cases G;refine x _ _ (wp_ret ?_);refine Q _ _ (lv Tryz.results92 J rfl ?_);exact⟨rfl,X⟩
theorem nU {a0 A0 n0 c0 y} (G:dH a0=some y) (X:SH r (L) w) (c:RdL L (kI .u8) A0 n0 c0 a0) :
  Ret Tryz.prog 45 #[.slice A0 n0 c0] w λv w'=>∃ (f:Option Addr) (g:Nat) (h:Nat),v=.slice f g h/\SH r (own (kI .u8) 5 f g h y::L) w':=by
 refine enter Tryz.func45 rfl Tryz.ntmps45 [(0,_)] rfl (by simp) ?_;intro U J Qf i z;unfold dH at G;refine nz 1 J rfl λU J=>wp_seq_k λs j=>ws λt a=>xk 1 J rfl λU J=>?_;rcases A0 with _ | k
 ·replace G:=aYm (RdL.none_nil c (X.sfx 0)) G;refine x_v (v:=.bool true) J (aFl (p:=none) cN rfl (J.ev rfl) (J.ev rfl)) rfl λU J=>wn (a _ _ ?_);refine c_t (b:=true) rfl J ?_ rfl;refine nz 1 J rfl λU J=>?_;replace X:=SH.nil_own (d:=(kI .u8)) (e:=5) X;cases G;exact wp_ret (i _ _ (lv Tryz.results45 J rfl ⟨none,0,0,rfl,X⟩))
 replace G:=aYn G;refine x_v (v:=.bool false) J (aFl (p:=some k) cN rfl (J.ev rfl) (J.ev rfl)) rfl λU J=>wn (a _ _ ?_);refine c_f (b:=false) rfl J ?_ rfl;refine wp_skip (j _ _ ?_);refine ws λu l=>jD (d:=(kI .u8)) (e:=5) (ps:=#[]) (cells:=[]) (xs:=[]) (λw=>by kernel_rfl) rfl rfl J X rfl λx U w X J=>x_m J rfl λU J=>?_;obtain⟨m,G⟩:=aD G;have hr:=X.rdl 1 c rfl;refine jC 0 aF9 cN J X hr.1 hr.2.1 m rfl rfl λn o q U w X J=>?_;rw [List.nil_append] at X;refine x_m J rfl λU J=>wn (l _ _ ?_);cases G;exact wp_ret (i _ _ (lv Tryz.results45 J rfl ⟨n,o,q,rfl,X⟩))
theorem zU {a0 a1 A0 n0 c0 y} (G:sI a0 a1=some y) (X:SH r (L) w) (qz:Nat) (a:L[qz]?=some (zone Z wz)) (p:Imm Z wz (kI .u8) A0 n0 c0 a0) (e5:Imm Z wz (kI .u32) (some ⟨0,0,none⟩) 16 16 bQ) :
  Ret Tryz.prog 64 #[.slice A0 n0 c0,bGj a1] w λv w'=>∃ (P:Option Addr) (Q:Nat) (R:Nat),v=.tuple #[(bGl y.1),(.slice P Q R),(bGj y.2.2.1),(bGj y.2.2.2)]/\SH r (own (kI .u8) 5 P Q R y.2.1::L) w':=by
 refine enter Tryz.func64 rfl Tryz.ntmps64 [(0,_),(1,_)] rfl (by simp) ?_;intro U J Qf m g1;unfold sI at G;refine nz 4 J rfl λU J=>wp_seq_k λe6 W=>wp_seq_k λY a2=>?_;have S:∀q,vJ a0 a1 q=some y->∀U w,FR 60 [] U [(0,.slice A0 n0 c0),(1,bGj a1),(18,.bool q)]->SH r (L) w->Y U w:=by
  intro q G U w J X;unfold vJ at G;refine a2 _ _ (aY J G rfl (λa3 G=>?_) λa3 G=>?_)
  ·refine nz 4 J rfl λU J=>?_;replace X:=SH.nil_own (d:=(kI .u8)) (e:=5) X;cases G;exact wp_ret (m _ _ (lv4 Tryz.results64 J rfl rfl rfl rfl ⟨none,0,0,rfl,X⟩))
  refine wp_skip (W _ _ ?_);refine ws λe7 a4=>xk 2 J rfl λU J=>?_;obtain⟨a5,s,G⟩:=bnd G;obtain⟨c,g,h,a6,b⟩:=aIh p s;refine x_v (v:=.slice c g h) J (aFq a6 (kX cN sz5 rfl (J.ev rfl) (J.ev rfl) (mP (X.rdl 0 (p.rdl qz a) rfl) s).1 (mP (X.rdl 0 (p.rdl qz a) rfl) s).2.2.2.2.2)) rfl λU J=>x_m J rfl λU J=>wn (a4 _ _ ?_);refine wp_seq_k λe8 a7=>ws λe9 a8=>xk 1 J rfl λU J=>aX cN (X.rdl 0 (b.rdl qz a) rfl).2.1 J rfl λU J=>nk 1 J rfl λU J=>a8 _ _ (aY J G rfl (λa9 G=>?_) λa9 G=>?_)
  ·refine nz 4 J rfl λU J=>?_;replace X:=SH.nil_own (d:=(kI .u8)) (e:=5) X;cases G;exact wp_ret (m _ _ (lv4 Tryz.results64 J rfl rfl rfl rfl ⟨none,0,0,rfl,X⟩))
  refine wp_skip (a7 _ _ ?_);refine ws λf0 b1=>xk 1 J rfl λU J=>?_;obtain⟨z,b2,G⟩:=bnd G;refine x_c bCs J rfl (aD7 b2 X (RdL.sfx 0 rfl (b.rdl qz a)) :) λv U w i J=>?_;obtain⟨rfl,X⟩:=i;refine x_m J rfl λU J=>wn (b1 _ _ ?_);refine wp_seq_k λf1 b3=>wp_seq_k λb4 b5=>?_;have T:∀t,vK a1 a5 z t=some y->∀U w,FR 60 [] U [(1,bGj a1),(8,.slice c g h),(9,bGm z),(36,.bool t)]->SH r (L) w->b4 U w:=by
   intro t G U w J X;unfold vK at G;refine b5 _ _ (aY J G rfl (λb6 G=>?_) λb6 G=>?_)
   ·refine nz 4 J rfl λU J=>?_;replace X:=SH.nil_own (d:=(kI .u8)) (e:=5) X;cases G;exact wp_ret (m _ _ (lv4 Tryz.results64 J rfl rfl rfl rfl ⟨none,0,0,rfl,X⟩))
   refine wp_skip (b3 _ _ ?_);refine ws λf2 b7=>xk 1 J rfl λU J=>eD G J (aQ aEv uu3 rfl (J.ev rfl)) rfl λf3 _ U J G=>x_l G J rfl λj _ U J G=>x_m J rfl λU J=>wn (b7 _ _ ?_);refine wp_seq_k λf4 b8=>wp_seq_k λf5 b9=>wD [0,0,3,7,0,0,48,127,255] [3,7] rfl J X (by kernel_rfl) λw X=>?_;obtain⟨f6,u,G⟩:=bnd G;obtain⟨c1,c2,c3,c4,c5⟩:=aIg b u;obtain⟨f7,k,G⟩:=bnd G;obtain⟨c6,c7,c8,A,c9⟩:=aIh b k;refine⟨[(0,.slice c g h),(1,bGj j),(2,.slice c1 c2 c3),(4,.slice c g h),(5,bGj j),(6,.slice c6 c7 c8)],?_⟩;refine dF [0,1,2,4,5,6] [3] (by kernel_rfl) ⟨pm rfl,pm rfl,pt [(40,_),(41,_)] rfl λU J=>aFq c4 (lV cN sz5 rfl (J.ev rfl) (J.ev rfl) (mP (X.rdl 0 (b.rdl qz a) rfl) u).2.2.2.2.1 (mP (X.rdl 0 (b.rdl qz a) rfl) u).2.2.1),pm rfl,pm rfl,pt [(44,_),(45,_)] rfl λU J=>aFq A (kX cN sz5 rfl (J.ev rfl) (J.ev rfl) (mP (X.rdl 0 (b.rdl qz a) rfl) k).1 (mP (X.rdl 0 (b.rdl qz a) rfl) k).2.2.2.2.2),trivial⟩ ⟨et [(42,_)] rfl (λU J K hK=>?_),trivial⟩;obtain⟨B,d0,G⟩:=bnd G;refine eM bCq J (aHo d0 X (qz+0) a (RdL.sfx 0 rfl (c5.rdl qz a)) e5 :) rfl λv w i=>?_;obtain⟨rfl,X⟩:=i;refine hK _ [] _ rfl (dF [4,5,6] [7] (by kernel_rfl) ⟨pm rfl,pm rfl,pt [(44,_),(45,_)] rfl λU J=>aFq A (kX cN sz5 rfl (J.ev rfl) (J.ev rfl) (mP (X.rdl 0 (b.rdl qz a) rfl) k).1 (mP (X.rdl 0 (b.rdl qz a) rfl) k).2.2.2.2.2),trivial⟩ ⟨et [(46,_)] rfl (λU J K hK=>?_),trivial⟩);obtain⟨C,d2,G⟩:=bnd G;refine eM bCs J (aD7 d2 X (RdL.sfx 0 rfl (c9.rdl qz a)) :) rfl λv w i=>?_;obtain⟨rfl,X⟩:=i;refine hK _ [(8,.bool (B != C))] _ rfl (dZ [8] (by kernel_rfl) ⟨pt [(43,bGm B),(47,bGm C)] rfl (λU J=>xP rfl (J.ev rfl) (J.ev rfl)),trivial⟩ [(1,_),(8,_),(10,_),(48,_)] rfl (λU J=>?_));refine b9 _ _ (aY J G rfl (λd3 G=>?_) λd3 G=>?_)
   ·refine nz 4 J rfl λU J=>?_;replace X:=SH.nil_own (d:=(kI .u8)) (e:=5) X;cases G;exact wp_ret (m _ _ (lv4 Tryz.results64 J rfl rfl rfl rfl ⟨none,0,0,rfl,X⟩))
   refine wp_skip (b8 _ _ ?_);refine wp_seq_k λf8 d4=>wD [0,1,3,0,0,24,56,0,0,384,896,127,2175,8191,16383] [6] rfl J X (by kernel_rfl) λw X=>?_;obtain⟨D,n,G⟩:=bnd G;obtain⟨cs,x,d5⟩:=el (X.rdl 0 (b.rdl qz a) rfl) n;obtain rfl:=x;obtain⟨f9,o,G⟩:=bnd G;obtain⟨d6,d7,d8,d9,e0⟩:=aQp b o;obtain⟨E,F,G⟩:=gX G;obtain⟨H,I,G⟩:=gX G;refine⟨[(0,.slice c g h),(1,.pointer (some (ea c ((4:Int).toNat * 1)))),(2,bGl D),(3,.slice c g h),(4,bGj j),(5,.slice d6 d7 d8),(7,bGj a1),(8,bGj j),(9,bGj E),(10,bGj H)],?_⟩;refine dF [0,1,2,3,4,5,7,8,9,10] [6] (by kernel_rfl) ⟨pm rfl,pt [(49,_)] rfl (λU J=>fE cN sz5 (X.rdl 0 (b.rdl qz a) rfl) n J rfl rfl rfl),pt [(50,_)] rfl (λU J=>aS uu5 (d5 0 _ rfl) J rfl rfl rfl),pm rfl,pm rfl,pt [(52,_),(53,_)] rfl λU J=>aFq d9 (aEs cN sz5 rfl (J.ev rfl) (J.ev rfl) (J.ev rfl) (mP (X.rdl 0 (b.rdl qz a) rfl) o).1 (mP (X.rdl 0 (b.rdl qz a) rfl) o).2.1 (mP (X.rdl 0 (b.rdl qz a) rfl) o).2.2.1),pm rfl,pm rfl,pt [(56,_),(57,_)] rfl λU J=>cM F (bGp kW J rfl),pt [(58,_)] rfl λU J=>cM I (bGp kW J rfl),trivial⟩ ⟨et [(54,_)] rfl (λU J K hK=>?_),trivial⟩;obtain⟨g0,e1,G⟩:=bnd G;refine eM aZu J (nU e1 X (RdL.sfx 0 rfl (e0.rdl qz a)) :) rfl λv w i=>?_;obtain⟨M,N,O,rfl,X⟩:=i;obtain⟨cs,x,e2⟩:=el (X.rdl 1 (b.rdl qz a) rfl) n;obtain rfl:=x;refine hK _ [(11,bGl D),(12,.slice M N O),(13,bGj H),(14,bGj 0)] _ rfl (dZ [0,1,2,7,8,9,10,11,12,13,14] (by kernel_rfl) ⟨pm rfl,pt [(49,.slice c g h)] rfl (λU J=>fE cN sz5 (X.rdl 1 (b.rdl qz a) rfl) n J rfl rfl rfl),pt [(50,.pointer (some (ea c ((4:Int).toNat * 1))))] rfl (λU J=>aS uu5 (e2 0 _ rfl) J rfl rfl rfl),pm rfl,pm rfl,pt [(56,bGj a1),(57,bGj j)] rfl λU J=>cM F (bGp kW J rfl),pt [(58,bGj E)] rfl λU J=>cM I (bGp kW J rfl),pm rfl,pm rfl,pm rfl,pm rfl,trivial⟩ [(4,_),(5,_),(6,_),(7,_)] rfl (λU J=>?_));cases G;refine d4 _ _ (wp_ret ?_);refine m _ _ (lv4 Tryz.results64 J rfl rfl rfl rfl ?_);exact⟨M,N,O,rfl,X⟩
  refine aC (xk 3 J rfl λU J=>?_);refine bcG G (λf G=>?_) λf G=>?_
  ·exact ng 7 f J rfl rfl λU J=>T true G U w (J.sub _ rfl) X
  refine xg 1 f J rfl rfl λU J=>aI f J ?_ rfl;refine eD G J (aQ aEv uu3 rfl (J.ev rfl)) rfl λe3 _ U J G=>xg 1 f J rfl rfl λU J=>aI f J ?_ rfl;refine aX cN (X.rdl 0 (b.rdl qz a) rfl).2.1 J rfl λU J=>aI f J ?_ rfl;exact x_l G J rfl λe4 _ U J G=>ng 2 f J rfl rfl λU J=>T (decide (e4<e3)) G U w (J.sub _ rfl) X
 refine aC (xk 3 J rfl λU J=>?_);refine bcG G (λl G=>?_) λl G=>?_
 ·exact ng 5 l J rfl rfl λU J=>S true G U w (J.sub _ rfl) X
 refine xg 2 l J rfl rfl λU J=>aI l J ?_ rfl;exact aX cN (X.rdl 0 (p.rdl qz a) rfl).2.1 J rfl λU J=>ng 2 l J rfl rfl λU J=>S (decide ((a0.length:Int)<a1)) G U w (J.sub _ rfl) X
end
noncomputable section
set_option linter.unusedSimpArgs false
def yJ (a0:Int):Option bGr:=ltt (IntKind.u8.wrap a0) λa=>(ltt (oC .u32 a0 8) λb=>(ltt (IntKind.u8.wrap b) λc=>(ltt (oC .u32 a0 16) λd=>(ltt (IntKind.u8.wrap d) λe=>(ltt (oC .u32 a0 24) λf=>(ltt (IntKind.u8.wrap f) λg=>(some [a,c,e,g])))))))
def wW (a0:List Int) (b:Int) (a2:List Int):Option bGr:=ltt (IntKind.u32.wrap (a2.length:Int)) λd=>((yJ d).bind λa=>(chk (a.length+[b].length<=140737488355328 / 1) (chk ((a++[b]).length+a2.length<=140737488355328 / 1) (chk (a0.length+((a++[b])++a2).length<=140737488355328 / 1) ((aA2 ((a++[b])++a2)).bind λe=>((yJ e).bind λc=>(chk ((a0++((a++[b])++a2)).length+c.length<=140737488355328 / 1) (some ((a0++((a++[b])++a2))++c)))))))))
end
section
variable {r:World} {L:List HP} {w:World} {Z:Nat->Prop} {wz:World}
theorem aGk {a0 y} (G:yJ a0=some y) (X:SH r (L) w) :
  Ret Tryz.prog 88 #[bGm a0] w λv w'=>∃ (g:Option Addr) (h:Nat) (i:Nat),v=.slice g h i/\SH r (own (kI .u8) 5 g h i y::L) w':=by
 refine enter Tryz.func88 rfl Tryz.ntmps88 [(0,_)] rfl (by simp) ?_;intro U J Qf l q;unfold yJ at G;refine nz 1 J rfl λU J=>ws λm j=>xk 1 J rfl λU J=>eD G J (aQ aEv uu5 rfl (J.ev rfl)) rfl λa _ U J G=>x_m J rfl λU J=>eD G J (bGp uG J rfl (by decide)) rfl λn _ U J G=>eD G J (aQ aEv uu5 rfl (J.ev rfl)) rfl λb _ U J G=>x_m J rfl λU J=>eD G J (bGp uG J rfl (by decide)) rfl λo _ U J G=>eD G J (aQ aEv uu5 rfl (J.ev rfl)) rfl λc _ U J G=>x_m J rfl λU J=>eD G J (bGp uG J rfl (by decide)) rfl λp _ U J G=>eD G J (aQ aEv uu5 rfl (J.ev rfl)) rfl λf _ U J G=>jD (d:=(kI .u8)) (e:=5) (ps:=#[(0,bGl a),(1,bGl b),(2,bGl c),(3,bGl f)]) (cells:=[bGl a,bGl b,bGl c,bGl f]) (xs:=[a,b,c,f]) (λw=>by kernel_rfl) rfl ⟨[bGl a],_,rfl,rfl,⟨[bGl b],_,rfl,rfl,⟨[bGl c],_,rfl,rfl,⟨[bGl f],_,rfl,rfl,rfl⟩⟩⟩⟩ J X rfl λk U w X J=>x_m J rfl λU J=>wn (j _ _ ?_);cases G;exact wp_ret (l _ _ (lv Tryz.results88 J rfl ⟨some ⟨k,0,none⟩,4,4,rfl,X⟩))
theorem aBe {a0 a1 a2 A0 n0 c0 A2 n2 c2 y} (G:wW a0 a1 a2=some y) (X:SH r (own (kI .u8) 5 A0 n0 c0 a0::L) w) (qz:Nat) (u:L[qz]?=some (zone Z wz)) (b:RdL L (kI .u8) A2 n2 c2 a2) (x:Imm Z wz (kI .u32) (some ⟨0,0,none⟩) 16 16 bQ) :
  Ret Tryz.prog 61 #[.slice A0 n0 c0,bGl a1,.slice A2 n2 c2] w λv w'=>∃ (c:Option Addr) (f:Nat) (g:Nat),v=.slice c f g/\SH r (own (kI .u8) 5 c f g y::L) w':=by
 refine enter Tryz.func61 rfl Tryz.ntmps61 [(0,_),(1,_),(2,_)] rfl (by simp) ?_;intro U J Qf z a6;unfold wW at G;refine nz 1 J rfl λU J=>ws λA h=>xk 1 J rfl λU J=>aX cN (X.rdl 1 b rfl).2.1 J rfl λU J=>eD G J (aQ uu3 aEv rfl (J.ev rfl)) rfl λB _ U J G=>?_;obtain⟨C,i,G⟩:=bnd G;refine x_c bCp J rfl (aGk i X :) λv U w a J=>?_;obtain⟨D,E,F,rfl,X⟩:=a;refine x_m J rfl λU J=>jD (d:=(kI .u8)) (e:=5) (ps:=#[(0,bGl a1)]) (cells:=[bGl a1]) (xs:=[a1]) (λw=>by kernel_rfl) rfl ⟨[bGl a1],_,rfl,rfl,rfl⟩ J X rfl λH U w X J=>?_;obtain⟨j,G⟩:=aD G;have hr:=X.rd 0 rfl;refine jC 1 aF9 cN J X hr.1 hr.2.1 j rfl rfl λI K M U w X J=>x_m J rfl λU J=>?_;obtain⟨k,G⟩:=aD G;have hr:=X.rdl 3 b rfl;refine jC 0 aF9 cN J X hr.1 hr.2.1 k rfl rfl λN O P U w X J=>x_m J rfl λU J=>wn (h _ _ ?_);refine ws λQ l=>xk 2 J rfl λU J=>?_;obtain⟨m,G⟩:=aD G;have hr:=X.rd 0 rfl;refine jC 2 aF9 cN J X hr.1 hr.2.1 m rfl rfl λR S T U w X J=>x_m J rfl λU J=>?_;obtain⟨W,n,G⟩:=bnd G;refine x_c bCq J rfl (aHo n X (qz+3) u (RdL.own 1 rfl (X.dropN 0)) x :) λv U w a J=>?_;obtain⟨rfl,X⟩:=a;obtain⟨Y,o,G⟩:=bnd G;refine x_c bCp J rfl (aGk o X :) λv U w a J=>?_;obtain⟨a3,a4,a5,rfl,X⟩:=a;obtain⟨p,G⟩:=aD G;have hr:=X.rd 0 rfl;refine jC 1 aF9 cN J X hr.1 hr.2.1 p rfl rfl λq s t U w X J=>x_m J rfl λU J=>wn (l _ _ ?_);replace X:=X.drop 1 |>.drop 1 |>.drop 1;cases G;exact wp_ret (z _ _ (lv Tryz.results61 J rfl ⟨q,s,t,rfl,X⟩))
end
noncomputable section
set_option linter.unusedSimpArgs false
def uU (a:List Int) (c:Int):Option bGr:=ltt (IntKind.u8.wrap c) λb=>(chk (a.length+[b].length<=140737488355328 / 1) (some (a++[b])))
def rV (a:List Int) (b:Int):Option bGr:=uU a b
def lZ (b:List Int) (a:Int):Option ((List Int×Int)⊕(List Int×Int)):=if decide (128<=a) then (ltt (IntKind.u8.wrap a) λd=>(ltt (ior .u8 d 128) λc=>(chk (b.length+[c].length<=140737488355328 / 1) (ltt (oC .u64 a 7) λe=>(some (.inl (b++[c],e))))))) else (some (.inr (b,a)))
def fX (a0:List Int) (a:Int):Option bGr:=(loop (λs=>lZ s.1 s.2) (a0,a)).bind λt=>rV t.1 t.2
def lB (a0:List Int) (a:Int):Option bGr:=ltt (wT .i64 a 1) λb=>(ltt (IntKind.u64.wrap b) λc=>(ltt (oC .i64 a 63) λd=>(ltt (IntKind.u64.wrap d) λe=>(ltt (aAx .u64 c e) λf=>((fX a0 f).bind λg=>(some g))))))
def nH (a0:List Int) (a:List UInt8):Option bGr:=ltt (IntKind.u64.wrap (a.length:Int)) λc=>((fX a0 c).bind λb=>(chk (b.length+a.length<=140737488355328 / 1) (some (b++stb a))))
def mY (a:Int):Option (Int):=some a
def lQ (a:Int):Option (Int):=mY a
def dC (a0:List Int) (a b:Int):Option bGq:=if decide (b<(a0.length:Int)) then ((at_ a0 b).bind λc=>(ltt (IntKind.i64.wrap (b+1)) λd=>(some (.inl (if c<a then c else a,d))))) else (some (.inr (a)))
def jB (a0:List Int):Option (Int):=if decide ((a0.length:Int)<1) then (none) else ((at_ a0 0).bind λa=>((loop (λs=>dC a0 s.1 s.2) (a,1)).bind λt=>lQ t))
def qI (a b:Int):Option (Int):=ltt (IntKind.u8.wrap a) λc=>((at_ ([0,1,2,2,3,3,3,3,4,4,4,4,4,4,4,4,5,5,5,5,5,5,5,5,5,5,5,5,5,5,5,5,6,6,6,6,6,6,6,6,6,6,6,6,6,6,6,6,6,6,6,6,6,6,6,6,6,6,6,6,6,6,6,6,7,7,7,7,7,7,7,7,7,7,7,7,7,7,7,7,7,7,7,7,7,7,7,7,7,7,7,7,7,7,7,7,7,7,7,7,7,7,7,7,7,7,7,7,7,7,7,7,7,7,7,7,7,7,7,7,7,7,7,7,7,7,7,7,8,8,8,8,8,8,8,8,8,8,8,8,8,8,8,8,8,8,8,8,8,8,8,8,8,8,8,8,8,8,8,8,8,8,8,8,8,8,8,8,8,8,8,8,8,8,8,8,8,8,8,8,8,8,8,8,8,8,8,8,8,8,8,8,8,8,8,8,8,8,8,8,8,8,8,8,8,8,8,8,8,8,8,8,8,8,8,8,8,8,8,8,8,8,8,8,8,8,8,8,8,8,8,8,8,8,8,8,8,8,8,8,8,8,8,8,8,8,8,8,8,8,8,8,8,8,8,8]:List UInt8) c).bind λd=>(ltt (IntKind.i64.wrap (d.toNat:Int)) λe=>(ltt (IntKind.i64.wrap (b+e)) λf=>(some f))))
def qH (a b:Int):Option (Int):=if decide (256<=a) then (ltt (oC .u64 a 8) λc=>(ltt (IntKind.i64.wrap (b+8)) λd=>(qI c d))) else (qI a b)
def qG (a b:Int):Option (Int):=if decide (65536<=a) then (ltt (oC .u64 a 16) λc=>(ltt (IntKind.i64.wrap (b+16)) λd=>(qH c d))) else (qH a b)
def yT (a0:Int):Option (Int):=if decide (4294967296<=a0) then (ltt (oC .u64 a0 32) λa=>(qG a 32)) else (qG a0 0)
def uW (a:List Int) (b:Int) (c:List Int):Option bGr:=chk ((a++[b]).length+c.length<=140737488355328 / 1) (some ((a++[b])++c))
def rW (a:List Int) (b:Int) (c:List Int):Option bGr:=uW a b c
abbrev bGt:=((Int×List Int×Int)⊕List Int)
def uX (a b:Int) (c:List Int):Option bGt:=ltt (IntKind.i64.wrap (a+1)) λd=>(some (.inl (b,c,d)))
def rX (a b:Int) (c:List Int):Option bGt:=uX a b c
def iU (f g:Int) (h a:Int) (c:List Int) (b:Int):Option ((Int×List Int×Int)⊕(Int×List Int)):=if decide (b<g) then (ltt (IntKind.i64.wrap (a.tdiv 8)) λd=>((at_ c d).bind λi=>(ltt (IntKind.i64.wrap (h - f)) λj=>(ltt (IntKind.u64.wrap j) λk=>(chk (0<=b) (ltt (oC .u64 k b) λl=>(ltt (aBk .u64 l 1) λm=>(ltt (IntKind.u8.wrap m) λn=>(ltt (a.tmod 8) λe=>(chk (0<=e) (ltt (wT .u8 n e) λo=>(ltt (ior .u8 i o) λp=>(ltt (IntKind.i64.wrap (a+1)) λq=>(ltt (IntKind.i64.wrap (b+1)) λr=>(some (.inl (q,c.set d.toNat p,r))))))))))))))))) else (some (.inr (a,c)))
def iT (c:List Int) (d e f:Int) (b:List Int) (a:Int):Option bGt:=if decide (a<(c.length:Int)) then ((at_ c a).bind λg=>((loop (λs=>iU d e g s.1 s.2.1 s.2.2) (f,b,0)).bind λt=>rX a t.1 t.2)) else (some (.inr (b)))
def uV (a0 f:List Int) (c a:Int):Option bGr:=(lB a0 c).bind λd=>(ltt (IntKind.u8.wrap a) λe=>(chk (d.length+[e].length<=140737488355328 / 1) (ltt (IntKind.i64.wrap ((f.length:Int) * a)) λg=>(ltt (IntKind.i64.wrap (g+7)) λh=>(ltt (IntKind.i64.wrap (h.tdiv 8)) λb=>(chk (0<=b/\(1:Int) * b<=140737488355328) ((loop (λs=>iT f c a s.1 s.2.1 s.2.2) (0,List.replicate b.toNat (0:Int),0)).bind λt=>rW d e t)))))))
def rY (a0 c:List Int) (a b:Int):Option bGr:=uV a0 c a b
def iV (d:List Int) (e a b:Int):Option bGq:=if decide (b<(d.length:Int)) then ((at_ d b).bind λf=>(ltt (IntKind.i64.wrap (f - e)) λg=>(ltt (IntKind.u64.wrap g) λh=>((yT h).bind λc=>(ltt (IntKind.i64.wrap (b+1)) λi=>(some (.inl (if a<c then c else a,i)))))))) else (some (.inr (a)))
def uA (a0 a:List Int):Option bGr:=if (a.length:Int)==0 then (some a0) else ((jB a).bind λb=>((loop (λs=>iV a b s.1 s.2) (0,0)).bind λt=>rY a0 a b t))
def iR (a:List Int):Option bGr:=some a
def xT (a:List Int):Option bGr:=iR a
def uO (a:List Int):Option bGr:=xT a
abbrev bGu:=((List Int×Int)⊕List Int)
def lL (c b:List Int) (a:Int):Option bGu:=if decide (a<(c.length:Int)) then ((at_ c a).bind λd=>((lB b d).bind λe=>(ltt (IntKind.i64.wrap (a+1)) λf=>(some (.inl (e,f)))))) else (some (.inr (b)))
def xU (a:List Int):Option bGr:=iR a
def uP (a:List Int):Option bGr:=xU a
def lM (d b:List Int) (e a:Int):Option ((List Int×Int×Int)⊕List Int):=if decide (a<(d.length:Int)) then ((at_ d a).bind λc=>(ltt (IntKind.i64.wrap (c - e)) λf=>((lB b f).bind λg=>(ltt (IntKind.i64.wrap (a+1)) λh=>(some (.inl (g,c,h))))))) else (some (.inr (b)))
def xV (a:List Int):Option bGr:=iR a
def uQ (a:List Int):Option bGr:=xV a
def xW (j c:List Int) (a b:Int):Option bGu:=(at_ j a).bind λd=>((lB c d).bind λe=>(ltt (IntKind.i64.wrap (b - 1)) λf=>(ltt (IntKind.u64.wrap f) λg=>((fX e g).bind λh=>(ltt (IntKind.i64.wrap (a+b)) λi=>(some (.inl (h,i))))))))
def uR (d a:List Int) (b c:Int):Option bGu:=xW d a b c
def pJ (a:Int) (b:Bool):Option (Int⊕Int):=if b=true then (ltt (IntKind.i64.wrap (a+1)) λc=>(some (.inl (c)))) else (some (.inr (a)))
def nF (b:List Int) (c a:Int):Option (Int⊕Int):=ltt (IntKind.i64.wrap (c+a)) λd=>(if decide (d<(b.length:Int)) then ((at_ b d).bind λe=>((at_ b c).bind λf=>(pJ a (e==f)))) else (pJ a false))
def nE (b c:List Int) (a:Int):Option bGu:=if decide (a<(b.length:Int)) then ((loop (λs=>nF b a s) (1)).bind λt=>uR b c a t) else (some (.inr (c)))
def vR (a0:Int) (b:List Int):Option bGr:=ltt (IntKind.u64.wrap (b.length:Int)) λc=>((fX [a0] c).bind λa=>(if a0==0 then ((loop (λs=>lL b s.1 s.2) (a,0)).bind λt=>uO t) else (if a0==1 then ((loop (λs=>lM b s.1 s.2.1 s.2.2) (a,0,0)).bind λt=>uP t) else (if a0==2 then ((loop (λs=>nE b s.1 s.2) (a,0)).bind λt=>uQ t) else (if a0==3 then ((uA a b).bind λd=>(iR d)) else (iR a))))))
def yW (a:List Int):Option bGr:=some a
def vS (a:List Int):Option bGr:=yW a
def rD (a:Int) (b:List Int):Option bGu:=ltt (IntKind.u8.wrap (a+1)) λc=>(some (.inl (b,c)))
def fV (a0 b:List Int) (a:Int):Option bGu:=if decide (a<=3) then ((vR a a0).bind λc=>(if decide ((c.length:Int)<(b.length:Int)) then (rD a c) else (rD a b))) else (some (.inr (b)))
def nG (a0:List Int):Option bGr:=(vR 0 a0).bind λa=>((loop (λs=>fV a0 s.1 s.2) (a,1)).bind λt=>vS t)
end
section
variable {r:World} {L:List HP} {w:World} {Z:Nat->Prop} {wz:World}
theorem iL {a0 a1 A0 n0 c0 y} (G:fX a0 a1=some y) (X:SH r (own (kI .u8) 5 A0 n0 c0 a0::L) w) :
  Ret Tryz.prog 59 #[.slice A0 n0 c0,bGk a1] w λv w'=>∃ (z:Option Addr) (A:Nat) (B:Nat),v=.slice z A B/\SH r (own (kI .u8) 5 z A B y::L) w':=by
 refine enter Tryz.func59 rfl Tryz.ntmps59 [(0,_),(1,_)] rfl (by simp) ?_;intro U J Qf hQ c1;unfold fX at G;refine nz 1 J rfl λU J=>wp_seq_k λa9 D=>aA λt E=>?_;have a8:∀m n,uU m n=some y->∀o p q U w,FR 20 [] U [(0,.slice o p q),(1,bGk n)]->SH r (own (kI .u8) 5 o p q m::L) w->t U w:=by intro m n G o p q U w J X;unfold uU at G;refine E _ _ (D _ _ ?_);refine ws λb1 F=>xk 2 J rfl λU J=>eD G J (aQ bN uu5 rfl (J.ev rfl)) rfl λc _ U J G=>jD (d:=(kI .u8)) (e:=5) (ps:=#[(0,bGl c)]) (cells:=[bGl c]) (xs:=[c]) (λw=>by kernel_rfl) rfl ⟨[bGl c],_,rfl,rfl,rfl⟩ J X rfl λb2 U w X J=>?_;obtain⟨H,G⟩:=aD G;have hr:=X.rd 0 rfl;refine jC 1 aF9 cN J X hr.1 hr.2.1 H rfl rfl λI K M U w X J=>x_m J rfl λU J=>wn (F _ _ ?_);replace X:=X.drop 1;cases G;exact wp_ret (hQ _ _ (lv Tryz.results59 J rfl ⟨I,K,M,rfl,X⟩))
 obtain⟨N,O,G⟩:=bnd G;have P:∀a b,(a,b)=N->∀f g h U w,FR 20 [] U [(0,.slice f g h),(1,bGk b)]->SH r (own (kI .u8) 5 f g h a::L) w->t U w:=by intro a b ht f g h U w J X;subst ht;replace G:rV a b=some y:=G;unfold rV at G;exact a8 a b G f g h U w (J.sub _ rfl) X
 refine aT O (λs U w=>∃i j k,FR 20 [] U [(0,.slice i j k),(1,bGk s.2)]/\SH r (own (kI .u8) 5 i j k s.1::L) w) ⟨A0,n0,c0,J.sub _ rfl,X⟩ ?_;intro b3 Q R G S T U w C;obtain⟨u,x⟩:=Q;replace G:lZ u x=some R:=G;unfold lZ at G
 try dsimp only at C
 obtain⟨i,j,k,J,X⟩:=C;refine wp_seq_k λb4 W=>nz 2 J rfl λU J=>aY J G rfl (λY G=>?_) λY G=>?_
 ·refine wp_skip (W _ _ ?_);refine wp_seq_k λb5 Z=>aA λb6 a2=>aC (xk 2 J rfl λU J=>?_);refine eD G J (aQ bN uu5 rfl (J.ev rfl)) rfl λb7 _ U J G=>x_l G J rfl λl _ U J G=>jD (d:=(kI .u8)) (e:=5) (ps:=#[(0,bGl l)]) (cells:=[bGl l]) (xs:=[l]) (λw=>by kernel_rfl) rfl ⟨[bGl l],_,rfl,rfl,rfl⟩ J X rfl λb8 U w X J=>?_;obtain⟨a3,G⟩:=aD G;have hr:=X.rd 0 rfl;refine jC 1 aF9 cN J X hr.1 hr.2.1 a3 rfl rfl λa4 a5 a6 U w X J=>x_m J rfl λU J=>wpList_nil (a2 _ _ ?_);refine Z _ _ (aC ?_);refine x_m J rfl λU J=>eD G J (bGp uG J rfl (by decide)) rfl λb9 _ U J G=>x_m J rfl λU J=>wpList_nil ?_;replace X:=X.drop 1;cases G;exact⟨_,S _ rfl,a4,a5,a6,J.sub _ rfl,X⟩
 cases G;exact wp_exit (P u x (T _ rfl) i j k U w (J.sub _ rfl) X)
theorem nB {a0 a1 A0 n0 c0 y} (G:lB a0 a1=some y) (X:SH r (own (kI .u8) 5 A0 n0 c0 a0::L) w) :
  Ret Tryz.prog 60 #[.slice A0 n0 c0,bGj a1] w λv w'=>∃ (a:Option Addr) (b:Nat) (c:Nat),v=.slice a b c/\SH r (own (kI .u8) 5 a b c y::L) w':=by
 refine enter Tryz.func60 rfl Tryz.ntmps60 [(0,_),(1,_)] rfl (by simp) ?_;intro U J Qf i s;unfold lB at G;refine nz 1 J rfl λU J=>ws λk d=>xk 2 J rfl λU J=>eD G J (bGp aEb J rfl (by decide)) rfl λl _ U J G=>eD G J (aQ uu2 bN rfl (J.ev rfl)) rfl λm _ U J G=>x_m J rfl λU J=>eD G J (bGp uG J rfl (by decide)) rfl λn _ U J G=>eD G J (aQ uu2 bN rfl (J.ev rfl)) rfl λo _ U J G=>x_l G J rfl λp _ U J G=>?_;obtain⟨q,e,G⟩:=bnd G;refine x_c aJm J rfl (iL e X :) λv U w j J=>?_;obtain⟨f,g,h,rfl,X⟩:=j;refine x_m J rfl λU J=>wn (d _ _ ?_);cases G;exact wp_ret (i _ _ (lv Tryz.results60 J rfl ⟨f,g,h,rfl,X⟩))
theorem wI {a0 a1 A0 n0 c0 y} (G:nH a0 a1=some y) (X:SH r (own (kI .u8) 5 A0 n0 c0 a0::L) w) :
  Ret Tryz.prog 85 #[.slice A0 n0 c0,str a1] w λv w'=>∃ (a:Option Addr) (b:Nat) (c:Nat),v=.slice a b c/\SH r (own (kI .u8) 5 a b c y::L) w':=by
 refine enter Tryz.func85 rfl Tryz.ntmps85 [(0,_),(1,_)] rfl (by simp) ?_;intro U J Qf j s;unfold nH at G;refine nz 1 J rfl λU J=>ws λl d=>xk 2 J rfl λU J=>x_v J (aCx uu9 rfl (J.ev rfl)) rfl λU J=>eD G J (aQ uu3 bN rfl (J.ev rfl)) rfl λm _ U J G=>?_;obtain⟨n,e,G⟩:=bnd G;refine x_c aJm J rfl (iL e X :) λv U w k J=>?_;obtain⟨o,p,q,rfl,X⟩:=k;refine x_m J rfl λU J=>?_;obtain⟨f,G⟩:=aD G;refine aXi 0 aF9 cN uu9 J X f rfl rfl λg h i U w X J=>x_m J rfl λU J=>wn (d _ _ ?_);cases G;exact wp_ret (j _ _ (lv Tryz.results85 J rfl ⟨g,h,i,rfl,X⟩))
theorem aAf {a0 A0 n0 c0 y} (G:jB a0=some y) (X:SH r (L) w) (a:RdL L (kI .i64) A0 n0 c0 a0) :
  Ret Tryz.prog 148 #[.slice A0 n0 c0] w λv w'=>v=bGj y/\SH r (L) w':=by
 refine enter Tryz.func148 rfl Tryz.ntmps148 [(0,_)] rfl (by simp) ?_;intro U J Qf M a4;unfold jB at G;refine nz 1 J rfl λU J=>wp_seq_k λO j=>ws λP k=>xk 1 J rfl λU J=>aX bV (X.rdl 0 a rfl).2.1 J rfl λU J=>nk 1 J rfl λU J=>k _ _ (aY J G rfl (λl G=>?_) λl G=>?_)
 ·refine aC (x_v J (aQ3 uu9 rfl rfl (J.ev rfl)) rfl λU J=>?_);cases G
 refine wp_skip (j _ _ ?_);refine ws λQ m=>xk 1 J rfl λU J=>?_;obtain⟨R,e,G⟩:=bnd G;refine dT bV sz2 (X.rdl 0 a rfl) e J rfl λU J=>?_;obtain⟨cs,d,n⟩:=el (X.rdl 0 a rfl) e;obtain rfl:=d;refine aK uu2 (n 0 _ rfl) J rfl λU J=>x_m J rfl λU J=>wn (m _ _ ?_);refine wp_seq_k λS o=>nz 1 J rfl λU J=>aA λf p=>?_;have N:∀c,mY c=some y->∀U w,FR 25 [] U [(3,bGj c)]->SH r (L) w->f U w:=by intro c G U w J X;unfold mY at G;refine p _ _ (o _ _ ?_);refine nz 2 J rfl λU J=>?_;cases G;exact wp_ret (M _ _ (lv Tryz.results148 J rfl ⟨rfl,X⟩))
 obtain⟨q,t,G⟩:=bnd G;have u:∀b,(b)=q->∀U w,FR 25 [] U [(3,bGj b)]->SH r (L) w->f U w:=by intro b ht U w J X;subst ht;replace G:lQ b=some y:=G;unfold lQ at G;exact N b G U w (J.sub _ rfl) X
 refine aT t (λs U w=>FR 25 [] U [(0,.slice A0 n0 c0),(3,bGj s.1),(4,bGj s.2)]/\SH r (L) w) ⟨J.sub _ rfl,X⟩ ?_;intro T x z G A B U w i;obtain⟨g,C⟩:=x;replace G:dC a0 g C=some z:=G;unfold dC at G
 try dsimp only at i
 obtain⟨J,X⟩:=i;refine wp_seq_k λW D=>ws λY E=>xk 2 J rfl λU J=>aX bV (X.rdl 0 a rfl).2.1 J rfl λU J=>nk 1 J rfl λU J=>E _ _ (aY J G rfl (λF G=>?_) λF G=>?_)
 ·refine wp_skip (D _ _ ?_);refine wp_seq_k λZ H=>aA λa1 I=>aC (xk 3 J rfl λU J=>?_);obtain⟨a2,h,G⟩:=bnd G;refine dT bV sz2 (X.rdl 0 a rfl) h J rfl λU J=>?_;obtain⟨cs,d,K⟩:=el (X.rdl 0 a rfl) h;obtain rfl:=d;refine aK uu2 (K 0 _ rfl) J rfl λU J=>x_v J (bGp aI0 J rfl) rfl λU J=>x_m J rfl λU J=>wpList_nil (I _ _ ?_);refine H _ _ (aC ?_);refine x_m J rfl λU J=>x_l G J rfl λa3 _ U J G=>x_m J rfl λU J=>wpList_nil ?_;cases G;exact⟨_,A _ rfl,J.sub _ rfl,X⟩
 cases G;exact wp_exit (u g (B _ rfl) U w (J.sub _ rfl) X)
theorem aK1 {a0 y} (G:yT a0=some y) (X:SH r (L) w) :
  Ret Tryz.prog 134 #[bGk a0] w λv w'=>v=bGj y/\SH r (L) w':=by
 refine enter Tryz.func134 rfl Tryz.ntmps134 [(0,_)] rfl (by simp) ?_;intro U J Qf H S;unfold yT at G;refine nz 1 J rfl λU J=>wp_seq_k λk l=>?_;have h:∀a b,qG a b=some y->∀U w,FR 25 [] U [(0,bGk a),(2,bGj b)]->SH r (L) w->k U w:=by
  intro a b G U w J X;unfold qG at G;refine l _ _ (wp_seq_k λm n=>?_);have i:∀c d,qH c d=some y->∀U w,FR 25 [] U [(0,bGk c),(2,bGj d)]->SH r (L) w->m U w:=by
   intro c d G U w J X;unfold qH at G;refine n _ _ (wp_seq_k λo p=>?_);have j:∀e f,qI e f=some y->∀U w,FR 25 [] U [(0,bGk e),(2,bGj f)]->SH r (L) w->o U w:=by intro e f G U w J X;unfold qI at G;refine p _ _ (ws λI q=>?_);refine xk 2 J rfl λU J=>eD G J (aQ bN uu5 rfl (J.ev rfl)) rfl λK _ U J G=>?_;obtain⟨M,g,G⟩:=bnd G;refine x_v J (aN3 uu9 rfl (J.ev rfl) (J.ev rfl) (jL g).1 (jL g).2.2) rfl λU J=>eD G J (aQ uu5 uu3 rfl (J.ev rfl)) rfl λN _ U J G=>x_l G J rfl λO _ U J G=>x_m J rfl λU J=>wn (q _ _ ?_);cases G;exact wp_ret (H _ _ (lv Tryz.results134 J rfl ⟨rfl,X⟩))
   refine nz 2 J rfl λU J=>aY J G rfl (λs G=>?_) λs G=>?_
   ·refine ws λP t=>xk 1 J rfl λU J=>eD G J (bGp uG J rfl (by decide)) rfl λu _ U J G=>x_m J rfl λU J=>wn (t _ _ ?_);refine aC (x_m J rfl λU J=>?_);exact x_l G J rfl λx _ U J G=>x_m J rfl λU J=>wpList_nil (j u x G U w (J.sub _ rfl) X)
   exact wp_skip (j c d G U w (J.sub _ rfl) X)
  refine nz 2 J rfl λU J=>aY J G rfl (λz G=>?_) λz G=>?_
  ·refine ws λQ A=>xk 1 J rfl λU J=>eD G J (bGp uG J rfl (by decide)) rfl λB _ U J G=>x_m J rfl λU J=>wn (A _ _ ?_);refine aC (x_m J rfl λU J=>?_);exact x_l G J rfl λC _ U J G=>x_m J rfl λU J=>wpList_nil (i B C G U w (J.sub _ rfl) X)
  exact wp_skip (i a b G U w (J.sub _ rfl) X)
 refine nz 2 J rfl λU J=>aY J G rfl (λD G=>?_) λD G=>?_
 ·refine ws λR E=>xk 1 J rfl λU J=>eD G J (bGp uG J rfl (by decide)) rfl λF _ U J G=>x_m J rfl λU J=>wn (E _ _ ?_);refine aC (x_m J rfl λU J=>?_);exact wpList_nil (h F 32 G U w (J.sub _ rfl) X)
 exact wp_skip (h a0 0 G U w (J.sub _ rfl) X)
theorem aJh {a0 a1 A0 n0 c0 A1 n1 c1 y} (G:uA a0 a1=some y) (X:SH r (own (kI .u8) 5 A0 n0 c0 a0::L) w) (m:RdL L (kI .i64) A1 n1 c1 a1) :
  Ret Tryz.prog 138 #[.slice A0 n0 c0,.slice A1 n1 c1] w λv w'=>∃ (B0:Option Addr) (m0:Nat) (d0:Nat),v=.slice B0 m0 d0/\SH r (own (kI .u8) 5 B0 m0 d0 y::L) w':=by
 refine enter Tryz.func138 rfl Tryz.ntmps138 [(0,_),(1,_)] rfl (by simp) ?_;intro U J Qf hQ n7;unfold uA at G;refine nz 1 J rfl λU J=>wp_seq_k λj5 a6=>ws λj6 a7=>xk 1 J rfl λU J=>aX bV (X.rdl 1 m rfl).2.1 J rfl λU J=>nk 1 J rfl λU J=>a7 _ _ (aY J G rfl (λa8 G=>?_) λa8 G=>?_)
 ·refine nz 2 J rfl λU J=>?_;cases G;exact wp_ret (hQ _ _ (lv Tryz.results138 J rfl ⟨A0,n0,c0,rfl,X⟩))
 refine wp_skip (a6 _ _ ?_);refine ws λj7 a9=>xk 1 J rfl λU J=>?_;obtain⟨f,b1,G⟩:=bnd G;refine x_c bB6 J rfl (aAf b1 X (RdL.sfx 1 rfl m) :) λv U w z J=>?_;obtain⟨rfl,X⟩:=z;refine x_m J rfl λU J=>wn (a9 _ _ ?_);refine nz 1 J rfl λU J=>wp_seq_k λj8 b2=>ws λj9 b3=>xk 1 J rfl λU J=>aX bV (X.rdl 1 m rfl).2.1 J rfl λU J=>x_m J rfl λU J=>wn (b3 _ _ ?_);refine aA λO b4=>?_;have j2:∀l,uV a0 a1 f l=some y->∀U w,FR 83 [] U [(0,.slice A0 n0 c0),(1,.slice A1 n1 c1),(5,bGj f),(6,bGj l)]->SH r (own (kI .u8) 5 A0 n0 c0 a0::L) w->O U w:=by
  intro l G U w J X;unfold uV at G;refine b4 _ _ (b2 _ _ ?_);refine ws λk0 b5=>xk 2 J rfl λU J=>?_;obtain⟨n,b6,G⟩:=bnd G;refine x_c aNf J rfl (nB b6 X :) λv U w z J=>?_;obtain⟨k1,k2,k3,rfl,X⟩:=z;refine x_m J rfl λU J=>eD G J (aQ uu3 uu5 rfl (J.ev rfl)) rfl λg _ U J G=>jD (d:=(kI .u8)) (e:=5) (ps:=#[(0,bGl g)]) (cells:=[bGl g]) (xs:=[g]) (λw=>by kernel_rfl) rfl ⟨[bGl g],_,rfl,rfl,rfl⟩ J X rfl λk4 U w X J=>?_;obtain⟨b7,G⟩:=aD G;have hr:=X.rd 0 rfl;refine jC 1 aF9 cN J X hr.1 hr.2.1 b7 rfl rfl λi j k U w X J=>x_m J rfl λU J=>wn (b5 _ _ ?_);refine nz 1 J rfl λU J=>ws λk5 b8=>xk 1 J rfl λU J=>aX bV (X.rdl 2 m rfl).2.1 J rfl λU J=>x_m J rfl λU J=>x_l G J rfl λk6 _ U J G=>x_l G J rfl λk7 _ U J G=>eD G J (bGp aN4 J rfl (by decide)) rfl λa _ U J G=>?_;obtain⟨b9,G⟩:=aD G;refine aP0 (d:=(kI .u8)) (bytes:=1) 0 aF9 rfl cN b9 J X rfl λb U w X J=>x_m J rfl λU J=>wn (b8 _ _ ?_);refine wp_seq_k λk8 c2=>ws λk9 c3=>xk 1 J rfl λU J=>aX bV (X.rdl 3 m rfl).2.1 J rfl λU J=>x_m J rfl λU J=>wn (c3 _ _ ?_);refine aA λP c4=>?_;have j3:∀D,uW n g D=some y->∀U w,FR 83 [] U [(0,.slice i j k),(10,.slice (some ⟨b,0,none⟩) a.toNat a.toNat)]->SH r (own (kI .u8) 5 i j k (n++[g])::own (kI .u8) 5 (some ⟨b,0,none⟩) a.toNat a.toNat D::L) w->P U w:=by intro D G U w J X;unfold uW at G;refine c4 _ _ (c2 _ _ ?_);refine ws λl0 c5=>xk 2 J rfl λU J=>?_;obtain⟨c6,G⟩:=aD G;have hr:=X.rd 1 rfl;refine jC 0 aF9 cN J X hr.1 hr.2.1 c6 rfl rfl λc7 c8 c9 U w X J=>x_m J rfl λU J=>wn (c5 _ _ ?_);replace X:=X.drop 1;cases G;exact wp_ret (hQ _ _ (lv Tryz.results138 J rfl ⟨c7,c8,c9,rfl,X⟩))
  obtain⟨d1,d2,G⟩:=bnd G;have d3:∀q,(q)=d1->∀U w,FR 83 [] U [(0,.slice i j k),(10,.slice (some ⟨b,0,none⟩) a.toNat a.toNat)]->SH r (own (kI .u8) 5 i j k (n++[g])::own (kI .u8) 5 (some ⟨b,0,none⟩) a.toNat a.toNat q::L) w->P U w:=by intro q ht U w J X;subst ht;replace G:rW n g q=some y:=G;unfold rW at G;exact j3 q G U w (J.sub _ rfl) X
  replace X:=X.drop 2 |>.pk 1;refine aT d2 (λs U w=>FR 83 [] U [(0,.slice i j k),(5,bGj f),(6,bGj l),(9,bGj s.1),(10,.slice (some ⟨b,0,none⟩) a.toNat a.toNat),(48,.slice A1 n1 c1),(49,bGj (a1.length:Int)),(50,bGj s.2.2)]/\SH r (own (kI .u8) 5 i j k (n++[g])::own (kI .u8) 5 (some ⟨b,0,none⟩) a.toNat a.toNat s.2.1::L) w) ⟨J.sub _ rfl,X⟩ ?_;intro l1 d4 E G d5 d6 U w o;obtain⟨d7,Q,p⟩:=d4;replace G:iT a1 f l d7 Q p=some E:=G;unfold iT at G
  try dsimp only at o
  obtain⟨J,X⟩:=o;refine nz 1 J rfl λU J=>wp_seq_k λl2 d8=>aY J G rfl (λd9 G=>?_) λd9 G=>?_
  ·refine wp_skip (d8 _ _ ?_);refine wp_seq_k λl3 e0=>aA λl4 e1=>ws λl5 e2=>?_;obtain⟨F,R,G⟩:=bnd G;refine dT bV sz2 (X.rdl 2 m rfl) R J rfl λU J=>?_;obtain⟨cs,A,e3⟩:=el (X.rdl 2 m rfl) R;obtain rfl:=A;refine aK uu2 (e3 0 _ rfl) J rfl λU J=>x_m J rfl λU J=>wn (e2 _ _ ?_);refine nz 2 J rfl λU J=>aA λS e4=>?_;have j4:∀H I,uX p H I=some E->∀U w,FR 83 [] U [(0,.slice i j k),(5,bGj f),(6,bGj l),(9,bGj H),(10,.slice (some ⟨b,0,none⟩) a.toNat a.toNat),(48,.slice A1 n1 c1),(49,bGj (a1.length:Int)),(50,bGj p)]->SH r (own (kI .u8) 5 i j k (n++[g])::own (kI .u8) 5 (some ⟨b,0,none⟩) a.toNat a.toNat I::L) w->S U w:=by intro H I G U w J X;unfold uX at G;refine e4 _ _ (e1 _ _ ?_);refine e0 _ _ (aC ?_);refine x_l G J rfl λl6 _ U J G=>x_m J rfl λU J=>wpList_nil ?_;cases G;exact⟨_,d5 _ rfl,J.sub _ rfl,X⟩
   obtain⟨e5,e6,G⟩:=bnd G;have e7:∀t u,(t,u)=e5->∀U w,FR 83 [] U [(0,.slice i j k),(5,bGj f),(6,bGj l),(9,bGj t),(10,.slice (some ⟨b,0,none⟩) a.toNat a.toNat),(48,.slice A1 n1 c1),(49,bGj (a1.length:Int)),(50,bGj p)]->SH r (own (kI .u8) 5 i j k (n++[g])::own (kI .u8) 5 (some ⟨b,0,none⟩) a.toNat a.toNat u::L) w->S U w:=by intro t u ht U w J X;subst ht;replace G:rX p t u=some E:=G;unfold rX at G;exact j4 t u G U w (J.sub _ rfl) X
   refine aT e6 (λs U w=>FR 83 [] U [(0,.slice i j k),(5,bGj f),(6,bGj l),(9,bGj s.1),(10,.slice (some ⟨b,0,none⟩) a.toNat a.toNat),(12,bGj F),(48,.slice A1 n1 c1),(49,bGj (a1.length:Int)),(50,bGj p),(54,bGj l),(55,bGj s.2.2)]/\SH r (own (kI .u8) 5 i j k (n++[g])::own (kI .u8) 5 (some ⟨b,0,none⟩) a.toNat a.toNat s.2.1::L) w) ⟨J.sub _ rfl,X⟩ ?_;intro l7 e8 e9 G f0 f1 U w o;obtain⟨B,T,W⟩:=e8;replace G:iU f l F B T W=some e9:=G;unfold iU at G
   try dsimp only at o
   obtain⟨J,X⟩:=o;refine nz 1 J rfl λU J=>wp_seq_k λl8 f2=>aY J G rfl (λf3 G=>?_) λf3 G=>?_
   ·refine wp_skip (f2 _ _ ?_);refine wp_seq_k λl9 f4=>aA λm1 f5=>nz 2 J rfl λU J=>wp_seq_k λm2 f6=>wD [0,0,2,7,15,0,0,96,224,0,992,2016,4064,0,8192,32736,65535,131071,262143] [18] rfl J X (by kernel_rfl) λw X=>?_;obtain⟨M,f7,G⟩:=gX G;obtain⟨f8,C,G⟩:=bnd G;obtain⟨cs,A,f9⟩:=el (X.rd 1 rfl) C;obtain rfl:=A;obtain⟨g0,g1,G⟩:=gX G;obtain⟨g2,g3,G⟩:=gX G;obtain⟨g4,G⟩:=aD G;obtain⟨g5,g6,G⟩:=gX G;obtain⟨g7,g8,G⟩:=gX G;obtain⟨g9,h0,G⟩:=gX G;obtain⟨h1,h2,G⟩:=gX G;obtain⟨h3,G⟩:=aD G;obtain⟨h4,h5,G⟩:=gX G;obtain⟨N,h6,G⟩:=gX G;refine⟨[(0,.slice (some ⟨b,0,none⟩) a.toNat a.toNat),(1,bGj B),(2,bGj M),(3,.pointer (some (ea (some ⟨b,0,none⟩) (M.toNat * 1)))),(4,bGl f8),(5,bGj F),(6,bGj f),(7,bGj g0),(8,bGk g2),(9,bGj W),(10,bGk g5),(11,bGk g7),(12,bGl g9),(13,bGj B),(14,bGj h1),(15,bGl h4),(16,bGl N),(17,.pointer (some (ea (some ⟨b,0,none⟩) (M.toNat * 1))))],?_⟩;refine dF [0,1,2,3,4,5,6,7,8,9,10,11,12,13,14,15,16,17] [18] (by kernel_rfl) ⟨pm rfl,pm rfl,pt [(59,_)] rfl λU J=>cM f7 (bGp aN4 J rfl (by decide)),pt [(58,_),(60,_)] rfl (λU J=>fE cN sz5 (X.rd 1 rfl) C J rfl rfl rfl),pt [(61,_)] rfl (λU J=>aS uu5 (f9 0 _ rfl) J rfl rfl rfl),pm rfl,pm rfl,pt [(63,_),(64,_)] rfl λU J=>cM g1 (bGp aAc J rfl),pt [(65,_)] rfl λU J=>cM g3 (aQ uu2 bN rfl (J.ev rfl)),pm rfl,pt [(66,_),(67,_)] rfl λU J=>cM g6 (bGp uG J rfl g4),pt [(68,_)] rfl λU J=>cM g8 (bGp aYt J rfl),pt [(69,_)] rfl λU J=>cM h0 (aQ bN uu5 rfl (J.ev rfl)),pm rfl,pt [(71,_)] rfl λU J=>cM h2 (bGp aCy J rfl (by decide)),pt [(70,_),(72,_)] rfl λU J=>cM h5 (bGp aEb J rfl h3),pt [(62,_),(73,_)] rfl λU J=>cM h6 (bGp aL7 J rfl),pt [(58,_),(60,_)] rfl (λU J=>fE cN sz5 (X.rd 1 rfl) C J rfl rfl rfl),trivial⟩ ⟨et [(74,_),(75,_)] rfl (λU J K hK=>?_),trivial⟩;refine aOj (z':=N) (off:=0) (vs:=[bGl N]) 1 sz5 J X rfl (jL C).2.2 (λc h=>by cases h;rfl) (λw X=>?_) rfl rfl rfl rfl rfl rfl;refine hK _ [] _ rfl (rF [] (by kernel_rfl) trivial ⟨by kernel_rfl,by kernel_rfl⟩ [(0,_),(5,_),(6,_),(9,_),(10,_),(12,_),(48,_),(49,_),(50,_),(54,_),(55,_)] rfl (λU J=>?_));refine f6 _ _ (aC ?_);refine x_m J rfl λU J=>x_l G J rfl λm3 _ U J G=>x_m J rfl λU J=>wpList_nil (f5 _ _ ?_);refine f4 _ _ (aC ?_);refine x_l G J rfl λm4 _ U J G=>x_m J rfl λU J=>wpList_nil ?_;replace X:=X.pk 1;cases G;exact⟨_,f0 _ rfl,J.sub _ rfl,X⟩
   cases G;exact wp_exit (e7 B T (f1 _ rfl) U w (J.sub _ rfl) X)
  cases G;exact wp_exit (d3 Q (d6 _ rfl) U w (J.sub _ rfl) X)
 obtain⟨h7,h8,G⟩:=bnd G;have h9:∀x,(x)=h7->∀U w,FR 83 [] U [(0,.slice A0 n0 c0),(1,.slice A1 n1 c1),(5,bGj f),(6,bGj x)]->SH r (own (kI .u8) 5 A0 n0 c0 a0::L) w->O U w:=by intro x ht U w J X;subst ht;replace G:rY a0 a1 f x=some y:=G;unfold rY at G;exact j2 x G U w (J.sub _ rfl) X
 refine aT h8 (λs U w=>FR 83 [] U [(0,.slice A0 n0 c0),(1,.slice A1 n1 c1),(5,bGj f),(6,bGj s.1),(20,.slice A1 n1 c1),(21,bGj (a1.length:Int)),(22,bGj s.2)]/\SH r (own (kI .u8) 5 A0 n0 c0 a0::L) w) ⟨J.sub _ rfl,X⟩ ?_;intro m5 i0 i1 G i2 i3 U w o;obtain⟨Y,i4⟩:=i0;replace G:iV a1 f Y i4=some i1:=G;unfold iV at G
 try dsimp only at o
 obtain⟨J,X⟩:=o;refine nz 1 J rfl λU J=>wp_seq_k λm6 i5=>aY J G rfl (λi6 G=>?_) λi6 G=>?_
 ·refine wp_skip (i5 _ _ ?_);refine wp_seq_k λm7 i7=>aA λm8 i8=>ws λm9 i9=>?_;obtain⟨n2,Z,G⟩:=bnd G;refine dT bV sz2 (X.rdl 1 m rfl) Z J rfl λU J=>?_;obtain⟨cs,A,j0⟩:=el (X.rdl 1 m rfl) Z;obtain rfl:=A;refine aK uu2 (j0 0 _ rfl) J rfl λU J=>x_m J rfl λU J=>wn (i9 _ _ ?_);refine aC (xk 3 J rfl λU J=>?_);refine x_l G J rfl λn3 _ U J G=>eD G J (aQ uu2 bN rfl (J.ev rfl)) rfl λn4 _ U J G=>?_;obtain⟨n5,j1,G⟩:=bnd G;refine x_c bB2 J rfl (aK1 j1 X :) λv U w z J=>?_;obtain⟨rfl,X⟩:=z;refine x_v J (bGp aEr J rfl) rfl λU J=>x_m J rfl λU J=>wpList_nil (i8 _ _ ?_);refine i7 _ _ (aC ?_);refine x_l G J rfl λn6 _ U J G=>x_m J rfl λU J=>wpList_nil ?_;cases G;exact⟨_,i2 _ rfl,J.sub _ rfl,X⟩
 cases G;exact wp_exit (h9 Y (i3 _ rfl) U w (J.sub _ rfl) X)
theorem aGi {a0 a1 A1 n1 c1 y} (G:vR a0 a1=some y) (X:SH r (L) w) (f:RdL L (kI .i64) A1 n1 c1 a1) :
  Ret Tryz.prog 122 #[bGl a0,.slice A1 n1 c1] w λv w'=>∃ (B0:Option Addr) (m0:Nat) (d0:Nat),v=.slice B0 m0 d0/\SH r (own (kI .u8) 5 B0 m0 d0 y::L) w':=by
 refine enter Tryz.func122 rfl Tryz.ntmps122 [(0,_),(1,_)] rfl (by simp) ?_;intro U J Qf hQ s0;unfold vR at G;refine nz 1 J rfl λU J=>ws λn7 e0=>xk 1 J rfl λU J=>jD (d:=(kI .u8)) (e:=5) (ps:=#[(0,bGl a0)]) (cells:=[bGl a0]) (xs:=[a0]) (λw=>by kernel_rfl) rfl ⟨[bGl a0],_,rfl,rfl,rfl⟩ J X rfl λn8 U w X J=>x_m J rfl λU J=>aX bV (X.rdl 1 f rfl).2.1 J rfl λU J=>eD G J (aQ uu3 bN rfl (J.ev rfl)) rfl λn9 _ U J G=>?_;obtain⟨e1,e2,G⟩:=bnd G;refine x_c aJm J rfl (iL e2 X :) λv U w k J=>?_;obtain⟨B,C,D,rfl,X⟩:=k;refine x_m J rfl λU J=>wn (e0 _ _ ?_);refine wp_seq_k λo0 e3=>nz 1 J rfl λU J=>aA λe4 e5=>?_;have A:∀b7,iR b7=some y->∀E F H U w,FR 93 [] U [(5,.slice E F H)]->SH r (own (kI .u8) 5 E F H b7::L) w->e4 U w:=by intro b7 G E F H U w J X;unfold iR at G;refine e5 _ _ (e3 _ _ ?_);refine nz 2 J rfl λU J=>?_;cases G;exact wp_ret (hQ _ _ (lv Tryz.results122 J rfl ⟨E,F,H,rfl,X⟩))
 refine nz 2 J rfl λU J=>aY J G rfl (λe6 G=>?_) λe6 G=>?_
 ·refine ws λo1 e7=>xk 1 J rfl λU J=>aX bV (X.rdl 1 f rfl).2.1 J rfl λU J=>x_m J rfl λU J=>wn (e7 _ _ ?_);refine aA λc3 e8=>?_;have n3:∀I,xT I=some y->∀K M N U w,FR 93 [] U [(5,.slice K M N)]->SH r (own (kI .u8) 5 K M N I::L) w->c3 U w:=by intro I G K M N U w J X;unfold xT at G;exact e8 _ _ (A I G K M N U w (J.sub _ rfl) X)
  obtain⟨e9,f0,G⟩:=bnd G;have f1:∀t,(t)=e9->∀O P Q U w,FR 93 [] U [(5,.slice O P Q)]->SH r (own (kI .u8) 5 O P Q t::L) w->c3 U w:=by intro t ht O P Q U w J X;subst ht;replace G:uO t=some y:=G;unfold uO at G;exact n3 t G O P Q U w (J.sub _ rfl) X
  refine aT f0 (λs U w=>∃R S T,FR 93 [] U [(5,.slice R S T),(22,.slice A1 n1 c1),(23,bGj (a1.length:Int)),(24,bGj s.2)]/\SH r (own (kI .u8) 5 R S T s.1::L) w) ⟨B,C,D,J.sub _ rfl,X⟩ ?_;intro o2 f2 f3 G f4 f5 U w l;obtain⟨c4,f6⟩:=f2;replace G:lL a1 c4 f6=some f3:=G;unfold lL at G
  try dsimp only at l
  obtain⟨R,S,T,J,X⟩:=l;refine nz 1 J rfl λU J=>wp_seq_k λo3 f7=>aY J G rfl (λf8 G=>?_) λf8 G=>?_
  ·refine wp_skip (f7 _ _ ?_);refine wp_seq_k λo4 f9=>aA λo5 g0=>ws λo6 g1=>?_;obtain⟨o7,c5,G⟩:=bnd G;refine dT bV sz2 (X.rdl 1 f rfl) c5 J rfl λU J=>?_;obtain⟨cs,m,g2⟩:=el (X.rdl 1 f rfl) c5;obtain rfl:=m;refine aK uu2 (g2 0 _ rfl) J rfl λU J=>x_m J rfl λU J=>wn (g1 _ _ ?_);refine aC (xk 2 J rfl λU J=>?_);obtain⟨o8,g3,G⟩:=bnd G;refine x_c aNf J rfl (nB g3 X :) λv U w k J=>?_;obtain⟨g4,g5,g6,rfl,X⟩:=k;refine x_m J rfl λU J=>wpList_nil (g0 _ _ ?_);refine f9 _ _ (aC ?_);refine x_l G J rfl λo9 _ U J G=>x_m J rfl λU J=>wpList_nil ?_;cases G;exact⟨_,f4 _ rfl,g4,g5,g6,J.sub _ rfl,X⟩
  cases G;exact wp_exit (f1 c4 (f5 _ rfl) R S T U w (J.sub _ rfl) X)
 refine nz 2 J rfl λU J=>aY J G rfl (λg7 G=>?_) λg7 G=>?_
 ·refine nz 1 J rfl λU J=>ws λp0 g8=>xk 1 J rfl λU J=>aX bV (X.rdl 1 f rfl).2.1 J rfl λU J=>x_m J rfl λU J=>wn (g8 _ _ ?_);refine aA λc6 g9=>?_;have n4:∀W,xU W=some y->∀Y Z a2 U w,FR 93 [] U [(5,.slice Y Z a2)]->SH r (own (kI .u8) 5 Y Z a2 W::L) w->c6 U w:=by intro W G Y Z a2 U w J X;unfold xU at G;exact g9 _ _ (A W G Y Z a2 U w (J.sub _ rfl) X)
  obtain⟨h0,h1,G⟩:=bnd G;have h2:∀u,(u)=h0->∀a3 a4 a5 U w,FR 93 [] U [(5,.slice a3 a4 a5)]->SH r (own (kI .u8) 5 a3 a4 a5 u::L) w->c6 U w:=by intro u ht a3 a4 a5 U w J X;subst ht;replace G:uP u=some y:=G;unfold uP at G;exact n4 u G a3 a4 a5 U w (J.sub _ rfl) X
  refine aT h1 (λs U w=>∃a6 a7 a8,FR 93 [] U [(5,.slice a6 a7 a8),(8,bGj s.2.1),(34,.slice A1 n1 c1),(35,bGj (a1.length:Int)),(36,bGj s.2.2)]/\SH r (own (kI .u8) 5 a6 a7 a8 s.1::L) w) ⟨B,C,D,J.sub _ rfl,X⟩ ?_;intro p1 h3 h4 G h5 h6 U w l;obtain⟨c7,h7,h8⟩:=h3;replace G:lM a1 c7 h7 h8=some h4:=G;unfold lM at G
  try dsimp only at l
  obtain⟨a6,a7,a8,J,X⟩:=l;refine nz 1 J rfl λU J=>wp_seq_k λp2 h9=>aY J G rfl (λi0 G=>?_) λi0 G=>?_
  ·refine wp_skip (h9 _ _ ?_);refine wp_seq_k λp3 i1=>aA λp4 i2=>ws λp5 i3=>?_;obtain⟨p6,c8,G⟩:=bnd G;refine dT bV sz2 (X.rdl 1 f rfl) c8 J rfl λU J=>?_;obtain⟨cs,m,i4⟩:=el (X.rdl 1 f rfl) c8;obtain rfl:=m;refine aK uu2 (i4 0 _ rfl) J rfl λU J=>x_m J rfl λU J=>wn (i3 _ _ ?_);refine ws λp7 i5=>xk 3 J rfl λU J=>x_l G J rfl λp8 _ U J G=>?_;obtain⟨p9,i6,G⟩:=bnd G;refine x_c aNf J rfl (nB i6 X :) λv U w k J=>?_;obtain⟨i7,i8,i9,rfl,X⟩:=k;refine x_m J rfl λU J=>wn (i5 _ _ ?_);refine aC (nk 2 J rfl λU J=>?_);refine i2 _ _ (i1 _ _ ?_);refine aC (x_l G J rfl λq0 _ U J G=>?_);refine x_m J rfl λU J=>wpList_nil ?_;cases G;exact⟨_,h5 _ rfl,i7,i8,i9,J.sub _ rfl,X⟩
  cases G;exact wp_exit (h2 c7 (h6 _ rfl) a6 a7 a8 U w (J.sub _ rfl) X)
 refine nz 2 J rfl λU J=>aY J G rfl (λj0 G=>?_) λj0 G=>?_
 ·refine nz 1 J rfl λU J=>aA λc9 j1=>?_;have n5:∀a9,xV a9=some y->∀b1 b2 b3 U w,FR 93 [] U [(5,.slice b1 b2 b3)]->SH r (own (kI .u8) 5 b1 b2 b3 a9::L) w->c9 U w:=by intro a9 G b1 b2 b3 U w J X;unfold xV at G;exact j1 _ _ (A a9 G b1 b2 b3 U w (J.sub _ rfl) X)
  obtain⟨j2,j3,G⟩:=bnd G;have j4:∀x,(x)=j2->∀b4 b5 b6 U w,FR 93 [] U [(5,.slice b4 b5 b6)]->SH r (own (kI .u8) 5 b4 b5 b6 x::L) w->c9 U w:=by intro x ht b4 b5 b6 U w J X;subst ht;replace G:uQ x=some y:=G;unfold uQ at G;exact n5 x G b4 b5 b6 U w (J.sub _ rfl) X
  refine aT j3 (λs U w=>∃g h i,FR 93 [] U [(1,.slice A1 n1 c1),(5,.slice g h i),(11,bGj s.2)]/\SH r (own (kI .u8) 5 g h i s.1::L) w) ⟨B,C,D,J.sub _ rfl,X⟩ ?_;intro q1 j5 b8 G j6 j7 U w l;obtain⟨n,c⟩:=j5;replace G:nE a1 n c=some b8:=G;unfold nE at G
  try dsimp only at l
  obtain⟨g,h,i,J,X⟩:=l;refine wp_seq_k λq2 j8=>ws λq3 j9=>xk 2 J rfl λU J=>aX bV (X.rdl 1 f rfl).2.1 J rfl λU J=>nk 1 J rfl λU J=>j9 _ _ (aY J G rfl (λk0 G=>?_) λk0 G=>?_)
  ·refine wp_skip (j8 _ _ ?_);refine aA λq4 k1=>nz 1 J rfl λU J=>wp_seq_k λq5 k2=>aA λd1 k3=>?_;have n6:∀b9,xW a1 n c b9=some b8->∀U w,FR 93 [] U [(1,.slice A1 n1 c1),(5,.slice g h i),(11,bGj c),(12,bGj b9)]->SH r (own (kI .u8) 5 g h i n::L) w->d1 U w:=by intro b9 G U w J X;unfold xW at G;refine k3 _ _ (k2 _ _ ?_);refine ws λq6 k4=>xk 3 J rfl λU J=>?_;obtain⟨q7,d2,G⟩:=bnd G;refine dT bV sz2 (X.rdl 1 f rfl) d2 J rfl λU J=>?_;obtain⟨cs,m,k5⟩:=el (X.rdl 1 f rfl) d2;obtain rfl:=m;refine aK uu2 (k5 0 _ rfl) J rfl λU J=>?_;obtain⟨q8,k6,G⟩:=bnd G;refine x_c aNf J rfl (nB k6 X :) λv U w k J=>?_;obtain⟨q9,r0,r1,rfl,X⟩:=k;refine x_m J rfl λU J=>x_l G J rfl λr2 _ U J G=>eD G J (aQ uu3 bN rfl (J.ev rfl)) rfl λr3 _ U J G=>?_;obtain⟨r4,k7,G⟩:=bnd G;refine x_c aJm J rfl (iL k7 X :) λv U w k J=>?_;obtain⟨k8,k9,l0,rfl,X⟩:=k;refine x_m J rfl λU J=>wn (k4 _ _ ?_);refine aC (xk 2 J rfl λU J=>?_);refine x_l G J rfl λr5 _ U J G=>x_m J rfl λU J=>wpList_nil ?_;cases G;exact k1 _ _ ⟨_,j6 _ rfl,k8,k9,l0,J.sub _ rfl,X⟩
   obtain⟨l1,l2,G⟩:=bnd G;have l3:∀z,(z)=l1->∀U w,FR 93 [] U [(1,.slice A1 n1 c1),(5,.slice g h i),(11,bGj c),(12,bGj z)]->SH r (own (kI .u8) 5 g h i n::L) w->d1 U w:=by intro z ht U w J X;subst ht;replace G:uR a1 n c z=some b8:=G;unfold uR at G;exact n6 z G U w (J.sub _ rfl) X
   refine aT l2 (λs U w=>FR 93 [] U [(1,.slice A1 n1 c1),(5,.slice g h i),(11,bGj c),(12,bGj s)]/\SH r (own (kI .u8) 5 g h i n::L) w) ⟨J.sub _ rfl,X⟩ ?_;intro r6 l4 d3 G l5 l6 U w l;obtain⟨j,rfl⟩:∃ q,q=l4:=⟨_,rfl⟩;replace G:nF a1 c j=some d3:=G;unfold nF at G
   try dsimp only at l
   obtain⟨J,X⟩:=l;refine wp_seq_k λr7 l7=>wp_seq_k λl8 l9=>?_;have d9:∀c0,pJ j c0=some d3->∀U w,FR 93 [] U [(1,.slice A1 n1 c1),(5,.slice g h i),(11,bGj c),(12,bGj j),(71,.bool c0)]->SH r (own (kI .u8) 5 g h i n::L) w->l8 U w:=by
    intro c0 G U w J X;unfold pJ at G;refine l9 _ _ (aY J G rfl (λm1 G=>?_) λm1 G=>?_)
    ·refine wp_skip (l7 _ _ ?_);refine aA λr8 m2=>aC (x_m J rfl λU J=>?_);refine x_l G J rfl λr9 _ U J G=>x_m J rfl λU J=>wpList_nil ?_;cases G;exact m2 _ _ ⟨_,l5 _ rfl,J.sub _ rfl,X⟩
    cases G;exact wp_exit (l3 j (l6 _ rfl) U w (J.sub _ rfl) X)
   refine wD [0,0,3,0,8,31,63,127,127,127,895,2047,4095,127,127,24703,57471,131071,262143] [] rfl J X (by kernel_rfl) λw X=>?_;obtain⟨a,c2,G⟩:=gX G;refine bcG G (λb G=>?_) λb G=>?_
   ·obtain⟨o,d4,G⟩:=bnd G;obtain⟨cs,m,m3⟩:=el (X.rdl 1 f rfl) d4;obtain rfl:=m;obtain⟨p,d5,G⟩:=bnd G;obtain⟨cs,m,m4⟩:=el (X.rdl 1 f rfl) d5;obtain rfl:=m;refine⟨[(0,bGj c),(1,bGj j),(2,bGj a),(3,.slice A1 n1 c1),(4,bGj (a1.length:Int)),(5,.bool (decide (a<(a1.length:Int)))),(6,.bool (decide (a<(a1.length:Int)))),(7,.slice A1 n1 c1),(8,bGj c),(9,bGj j),(10,bGj a),(11,.pointer (some (ea A1 (a.toNat * 1)))),(12,bGj o),(13,.slice A1 n1 c1),(14,bGj c),(15,.pointer (some (ea A1 (c.toNat * 1)))),(16,bGj p),(17,.bool (o==p)),(18,.bool (o==p))],?_⟩;refine dZ [0,1,2,3,4,5,6,7,8,9,10,11,12,13,14,15,16,17,18] (by kernel_rfl) ⟨pm rfl,pm rfl,pt [(53,bGj c),(54,bGj j)] rfl λU J=>cM c2 (bGp kW J rfl),pm rfl,pt [(56,.slice A1 n1 c1)] rfl (λU J=>sO bV (X.rdl 1 f rfl).2.1 J rfl rfl),pt [(55,bGj a),(57,bGj (a1.length:Int))] rfl (λU J=>aEa rfl (J.ev rfl) (J.ev rfl)),pm rfl,cE rfl rfl rfl rfl [(1,.slice A1 n1 c1),(59,.bool (decide (a<(a1.length:Int))))] rfl b (λU J=>fZ J rfl rfl) rfl,cE rfl rfl rfl rfl [(11,bGj c),(59,.bool (decide (a<(a1.length:Int))))] rfl b (λU J=>fZ J rfl rfl) rfl,cE rfl rfl rfl rfl [(12,bGj j),(59,.bool (decide (a<(a1.length:Int))))] rfl b (λU J=>fZ J rfl rfl) rfl,cE rfl rfl rfl rfl [(59,.bool (decide (a<(a1.length:Int)))),(61,bGj c),(62,bGj j)] rfl b (λU J=>(cM c2 (bGp kW J rfl):RunV _ _ _ _ (bGj a))) rfl,cE rfl rfl rfl rfl [(59,.bool (decide (a<(a1.length:Int)))),(60,.slice A1 n1 c1),(63,bGj a)] rfl b (λU J=>fE bV sz2 (X.rdl 1 f rfl) d4 J rfl rfl rfl) rfl,cE rfl rfl rfl rfl [(59,.bool (decide (a<(a1.length:Int)))),(64,.pointer (some (ea A1 (a.toNat * 1))))] rfl b (λU J=>aS uu2 (m3 0 _ rfl) J rfl rfl rfl) rfl,cE rfl rfl rfl rfl [(1,.slice A1 n1 c1),(59,.bool (decide (a<(a1.length:Int))))] rfl b (λU J=>fZ J rfl rfl) rfl,cE rfl rfl rfl rfl [(11,bGj c),(59,.bool (decide (a<(a1.length:Int))))] rfl b (λU J=>fZ J rfl rfl) rfl,cE rfl rfl rfl rfl [(59,.bool (decide (a<(a1.length:Int)))),(66,.slice A1 n1 c1),(67,bGj c)] rfl b (λU J=>fE bV sz2 (X.rdl 1 f rfl) d5 J rfl rfl rfl) rfl,cE rfl rfl rfl rfl [(59,.bool (decide (a<(a1.length:Int)))),(68,.pointer (some (ea A1 (c.toNat * 1))))] rfl b (λU J=>aS uu2 (m4 0 _ rfl) J rfl rfl rfl) rfl,cE rfl rfl rfl rfl [(59,.bool (decide (a<(a1.length:Int)))),(65,bGj o),(69,bGj p)] rfl b (λU J=>aAa rfl (J.ev rfl) (J.ev rfl)) rfl,pt [(59,.bool (decide (a<(a1.length:Int)))),(70,.bool (o==p))] rfl (λU J=>nT b J rfl rfl rfl),trivial⟩ [(1,_),(5,_),(11,_),(12,_),(60,_),(61,_),(62,_),(63,_),(65,_),(66,_),(67,_),(69,_),(70,_),(71,_)] rfl (λU J=>?_);exact d9 (o==p) G U w (J.sub _ rfl) X
   refine⟨[(0,bGj c),(1,bGj j),(2,bGj a),(3,.slice A1 n1 c1),(4,bGj (a1.length:Int)),(5,.bool (decide (a<(a1.length:Int)))),(6,.bool (decide (a<(a1.length:Int)))),(7,undef),(8,undef),(9,undef),(10,undef),(11,undef),(12,undef),(13,undef),(14,undef),(15,undef),(16,undef),(17,undef),(18,.bool false)],?_⟩;refine dZ [0,1,2,3,4,5,6,7,8,9,10,11,12,13,14,15,16,17,18] (by kernel_rfl) ⟨pm rfl,pm rfl,pt [(53,bGj c),(54,bGj j)] rfl λU J=>cM c2 (bGp kW J rfl),pm rfl,pt [(56,.slice A1 n1 c1)] rfl (λU J=>sO bV (X.rdl 1 f rfl).2.1 J rfl rfl),pt [(55,bGj a),(57,bGj (a1.length:Int))] rfl (λU J=>aEa rfl (J.ev rfl) (J.ev rfl)),pm rfl,bF rfl rfl rfl rfl [(1,.slice A1 n1 c1),(59,.bool (decide (a<(a1.length:Int))))] rfl b rfl,bF rfl rfl rfl rfl [(11,bGj c),(59,.bool (decide (a<(a1.length:Int))))] rfl b rfl,bF rfl rfl rfl rfl [(12,bGj j),(59,.bool (decide (a<(a1.length:Int))))] rfl b rfl,bF rfl rfl rfl rfl [(59,.bool (decide (a<(a1.length:Int)))),(61,undef),(62,undef)] rfl b rfl,bF rfl rfl rfl rfl [(59,.bool (decide (a<(a1.length:Int)))),(60,undef),(63,undef)] rfl b rfl,bF rfl rfl rfl rfl [(59,.bool (decide (a<(a1.length:Int)))),(64,undef)] rfl b rfl,bF rfl rfl rfl rfl [(1,.slice A1 n1 c1),(59,.bool (decide (a<(a1.length:Int))))] rfl b rfl,bF rfl rfl rfl rfl [(11,bGj c),(59,.bool (decide (a<(a1.length:Int))))] rfl b rfl,bF rfl rfl rfl rfl [(59,.bool (decide (a<(a1.length:Int)))),(66,undef),(67,undef)] rfl b rfl,bF rfl rfl rfl rfl [(59,.bool (decide (a<(a1.length:Int)))),(68,undef)] rfl b rfl,bF rfl rfl rfl rfl [(59,.bool (decide (a<(a1.length:Int)))),(65,undef),(69,undef)] rfl b rfl,pt [(59,.bool (decide (a<(a1.length:Int)))),(70,undef)] rfl (λU J=>oJ b J rfl rfl rfl),trivial⟩ [(1,_),(5,_),(11,_),(12,_),(71,_)] rfl (λU J=>?_);exact d9 false G U w (J.sub _ rfl) X
  cases G;exact wp_exit (j4 n (j7 _ rfl) g h i U w (J.sub _ rfl) X)
 refine nz 2 J rfl λU J=>aY J G rfl (λm5 G=>?_) λm5 G=>?_
 ·refine aC (xk 2 J rfl λU J=>?_);obtain⟨m6,m7,G⟩:=bnd G;refine x_c bB3 J rfl (aJh m7 X (RdL.sfx 0 rfl f) :) λv U w k J=>?_;obtain⟨m8,m9,n0,rfl,X⟩:=k;exact x_m J rfl λU J=>wpList_nil (A m6 G m8 m9 n0 U w (J.sub _ rfl) X)
 exact wp_skip (A e1 G B C D U w (J.sub _ rfl) X)
theorem sW {a0 A0 n0 c0 y} (G:nG a0=some y) (X:SH r (L) w) (z:RdL L (kI .i64) A0 n0 c0 a0) :
  Ret Tryz.prog 103 #[.slice A0 n0 c0] w λv w'=>∃ (A:Option Addr) (B:Nat) (C:Nat),v=.slice A B C/\SH r (own (kI .u8) 5 A B C y::L) w':=by
 refine enter Tryz.func103 rfl Tryz.ntmps103 [(0,_)] rfl (by simp) ?_;intro U J Qf hQ c5;unfold nG at G;refine nz 1 J rfl λU J=>ws λb5 F=>xk 1 J rfl λU J=>?_;obtain⟨b6,H,G⟩:=bnd G;refine x_c aYb J rfl (aGi H X (RdL.sfx 0 rfl z) :) λv U w t J=>?_;obtain⟨I,K,M,rfl,X⟩:=t;refine x_m J rfl λU J=>wn (F _ _ ?_);refine wp_seq_k λb7 N=>nz 1 J rfl λU J=>aA λu O=>?_;have b4:∀n,yW n=some y->∀e f g U w,FR 22 [] U [(3,.slice e f g)]->SH r (own (kI .u8) 5 e f g n::L) w->u U w:=by intro n G e f g U w J X;unfold yW at G;refine O _ _ (N _ _ ?_);refine nz 2 J rfl λU J=>?_;cases G;exact wp_ret (hQ _ _ (lv Tryz.results103 J rfl ⟨e,f,g,rfl,X⟩))
 obtain⟨P,Q,G⟩:=bnd G;have R:∀a,(a)=P->∀h i j U w,FR 22 [] U [(3,.slice h i j)]->SH r (own (kI .u8) 5 h i j a::L) w->u U w:=by intro a ht h i j U w J X;subst ht;replace G:vS a=some y:=G;unfold vS at G;exact b4 a G h i j U w (J.sub _ rfl) X
 refine aT Q (λs U w=>∃b c d,FR 22 [] U [(0,.slice A0 n0 c0),(3,.slice b c d),(4,bGl s.2)]/\SH r (own (kI .u8) 5 b c d s.1::L) w) ⟨I,K,M,J.sub _ rfl,X⟩ ?_;intro b8 S x G T W U w D;obtain⟨o,p⟩:=S;replace G:fV a0 o p=some x:=G;unfold fV at G
 try dsimp only at D
 obtain⟨b,c,d,J,X⟩:=D;refine wp_seq_k λb9 Y=>nz 2 J rfl λU J=>aY J G rfl (λZ G=>?_) λZ G=>?_
 ·refine wp_skip (Y _ _ ?_);refine wp_seq_k λc1 a1=>aA λa2 a3=>?_;have E:∀q,rD p q=some x->∀k l m U w,FR 22 [] U [(0,.slice A0 n0 c0),(3,.slice k l m),(4,bGl p)]->SH r (own (kI .u8) 5 k l m q::L) w->a2 U w:=by intro q G k l m U w J X;unfold rD at G;refine a3 _ _ (a1 _ _ ?_);refine aC (x_m J rfl λU J=>?_);refine x_l G J rfl λc2 _ U J G=>x_m J rfl λU J=>wpList_nil ?_;cases G;exact⟨_,T _ rfl,k,l,m,J.sub _ rfl,X⟩
  refine ws λc3 a4=>xk 2 J rfl λU J=>?_;obtain⟨a5,a6,G⟩:=bnd G;refine x_c aYb J rfl (aGi a6 X (RdL.sfx 1 rfl z) :) λv U w t J=>?_;obtain⟨a7,a8,a9,rfl,X⟩:=t;refine x_m J rfl λU J=>wn (a4 _ _ ?_);refine ws λc4 b1=>xk 1 J rfl λU J=>aX cN (X.rd 0 rfl).2.1 J rfl λU J=>x_m J rfl λU J=>aX cN (X.rd 1 rfl).2.1 J rfl λU J=>nk 1 J rfl λU J=>b1 _ _ (aY J G rfl (λb2 G=>?_) λb2 G=>?_)
  ·refine aC (nk 2 J rfl λU J=>?_);replace X:=X.drop 1;exact E a5 G a7 a8 a9 U w (J.sub _ rfl) X
  replace X:=X.drop 0;exact wp_skip (E o G b c d U w (J.sub _ rfl) X)
 cases G;exact wp_exit (R o (W _ rfl) b c d U w (J.sub _ rfl) X)
end
theorem aRr {r:World} {L:List HP} {g:Nat} {b:Bool} {w:World} (hS:SH r (blk g 4 [.bool b]::L) w) :
    CallsD Tryz.prog 73 #[pP g] (.panicking aD3) w λe d w'=>e=.returned (.tuple #[])/\d=.panicking [{ v:=.iface 137 (.agg #[]),recovered:=true }]/\SH r (blk g 4 [.bool false]::L) w':=by
  refine callsD_of_wpS Tryz.func73 rfl λc₀ cs hu=>?_;apply wpS_seq;apply wpS_region;simp only [List.size_toArray,List.length_cons,List.length_nil,Nat.zero_add];rw [show List.range (1+1)=[0,1] from rfl];simp [wpOpsS,go_sem,recoverD,hu,aD3,Tryz.ntmps73,Exit.thenS];generalize f:({ tmps:=_,defers:=_ }:Act)=ac;have hA:FR 15 [] ac [(0,pP g),(1,.iface 137 (.agg #[]))]:=by
    subst f;refine⟨by simp,rfl,λt v c=>?_⟩;simp only [lk] at c;by_cases e0:t=0
    · subst e0;cases c;rfl
    by_cases i:t=1
    · subst i;cases c;rfl
    · exfalso
      rw [show Nat.beq 0 t=false by cases h:Nat.beq 0 t;rfl;exact absurd (Nat.eq_of_beq_eq_true h).symm e0,show Nat.beq 1 t=false by cases h:Nat.beq 1 t;rfl;exact absurd (Nat.eq_of_beq_eq_true h).symm i] at c;cases c
  clear f;refine wpS_of_wp ?_;have fin:∀ (a:Act) (w:World),FR 15 [] a []->SH r (blk g 4 [.bool false]::L) w->bodyPostS Tryz.prog Tryz.f73 c₀ cs (λe d w'=>e=.returned (.tuple #[])/\d=.panicking [{ v:=.iface 137 (.agg #[]),recovered:=true }]/\SH r (blk g 4 [.bool false]::L) w') .normal a ({ c₀ with mode:=.panicking [{ v:=.iface 137 (.agg #[]),recovered:=true }] }::cs) w:=by intro a w hA hS;exact⟨hA.defers,_,rfl,_,results_none Tryz.results73 _ _ _,rfl,rfl,hS⟩
  refine wp_seq_k λo j=>?_;refine aC ?_;refine eE hA (λac hA=>?_);refine eK (v:=.bool true) hA (aR9 Tryz.underlying20 rfl (hA.ev rfl) (hA.ev rfl)) (λac hA=>?_);refine wpList_nil ?_;refine j _ _ ?_;refine c_t (b:=true) rfl hA ?_;refine wp_seq_k λp k=>?_;refine wp_seq_k λq l=>?_;refine aC ?_;refine eE hA (λac hA=>?_);refine eK (v:=.tuple #[.agg #[],.bool true]) hA (aL8 Tryz.underlying137 rfl rfl (hA.ev rfl)) (λac hA=>?_);refine eE hA (λac hA=>?_);refine eK hA (uF rfl (hA.ev rfl) rfl) (λac hA=>?_);refine eK hA (uF rfl (hA.ev rfl) rfl) (λac hA=>?_);refine aMl (cs:=[]) bEg hA hS (λs ac w hS hA=>?_);refine aRg (vs:=[]) 0 bDi hA hS rfl (λac w hS hA=>?_);refine eX hA (λac hA=>?_);refine wpList_nil ?_;refine l _ _ ?_;refine wp_seq_k λu m=>?_;refine aC ?_;refine eE hA (λac hA=>?_);refine eK hA (aKi rfl (hA.ev rfl)) (λac hA=>?_);refine wpList_nil ?_;refine m _ _ ?_;refine c_f (b := !true) rfl hA ?_;refine wp_skip ?_;refine k _ _ ?_;refine aC ?_;refine aRg (vs:=[.bool false]) 1 sz4 hA hS rfl (λac w hS hA=>?_);refine wpList_nil ?_;have n:=hS.pk 1;exact fin _ _ (hA.sub _ rfl) (n.tail)
theorem aOu {g:Nat} {w:World} :
    CallsD Tryz.prog 73 #[pP g] .returning w λe f w'=>e=.returned (.tuple #[])/\f=.returning/\w'=w:=by
  refine callsD_of_wpS Tryz.func73 rfl λc₀ cs hu=>?_;apply wpS_seq;apply wpS_region;simp only [List.size_toArray,List.length_cons,List.length_nil,Nat.zero_add];rw [show List.range (1+1)=[0,1] from rfl];simp [wpOpsS,go_sem,recoverD,hu,Tryz.ntmps73,Exit.thenS];generalize c:({ tmps:=_,defers:=_ }:Act)=ac;have hA:FR 15 [] ac [(0,pP g),(1,.nilIface)]:=by
    subst c;refine⟨by simp,rfl,λt v a=>?_⟩;simp only [lk] at a;by_cases e0:t=0
    · subst e0;cases a;rfl
    by_cases d:t=1
    · subst d;cases a;rfl
    · exfalso
      rw [show Nat.beq 0 t=false by cases h:Nat.beq 0 t;rfl;exact absurd (Nat.eq_of_beq_eq_true h).symm e0,show Nat.beq 1 t=false by cases h:Nat.beq 1 t;rfl;exact absurd (Nat.eq_of_beq_eq_true h).symm d] at a;cases a
  clear c;refine wpS_of_wp ?_;refine wp_seq_k λj i=>?_;refine aC ?_;refine eE hA (λac hA=>?_);refine eK (v:=.bool false) hA (aSa Tryz.underlying20 rfl (hA.ev rfl)) (λac hA=>?_);refine wpList_nil ?_;refine i _ _ ?_;refine c_f (b:=false) rfl hA ?_;refine wp_skip ?_;refine⟨hA.defers,c₀.mode,rfl,_,results_none Tryz.results73 _ _ _,rfl,hu,rfl⟩
theorem aFo {r:World} {L:List HP} {w:World} {g:Nat} {b:Bool} {a:Act} {n:Nat} {D:List Deferred} {F:List (Nat×Value)} (hA:FR n D a F) (c:lk F 4=some (pP g)) (hS:SH r (blk g 4 [.bool b]::L) w) :
    (results Tryz.f47 a.tmps).run Tryz.prog w=.ok (.bool b) w:=by
  have d:a.tmps.getD 4 undef=.pointer (some ⟨g,0,none⟩):=hA.ev (x:=.tmp 4) c;have e:a.tmps[4]?.getD undef=.pointer (some ⟨g,0,none⟩):=by rw [← Array.getD_eq_getD_getElem?];exact d
  have hc:=hS.cell 0 rfl 0 (.bool b) rfl;have f:(isAgg 4).run Tryz.prog w=.ok false w:=by rw [oY Tryz.underlying4];rfl
  have h:(loadVar 4 ⟨g,0,none⟩).run Tryz.prog w=.ok (.bool b) w:=by simp [loadVar,f,hc]
  simp [results,Tryz.results47,e,asAddr,h]
section
variable {r:World} {L:List HP} {w:World} {A:Option Addr} {n c f:Nat} {fs caps:Array Value}
theorem aC1 {R:Value->World->Prop} (hf:EN Tryz.prog f) (hS:SH r L w)
    (o:∀ g a j,SH r (blk g 140 [.slice A n c]::blk a 4 [.bool false]::L) j ->
      (Ret Tryz.prog f (fs++#[pP g]++caps) j λv k=>∃ b l i m,SH r (blk g 140 [.slice l i m]::blk a 4 [.bool false]::b) k/\∀ h,SH r b h->R (.bool ((i:Int)==0)) h) \/
      (Calls Tryz.prog f (fs++#[pP g]++caps) j λe k=>e=.panicked aD3/\∃ b,SH r (blk a 4 [.bool false]::b) k/\∀ h,SH r b h->R (.bool false) h)) :
    Ret Tryz.prog 47 #[.slice A n c,.func (.func f) fs caps] w R:=by
  refine aZy Tryz.func47 rfl Tryz.ntmps47 [(0,.slice A n c),(1,.func (.func f) fs caps)] rfl (by simp) ?_;intro ac hA;refine wp_seq_k λx h0=>?_;refine aC ?_;refine aMl (cs:=[.bool false]) zr4 hA hS (λa ac w hS hA=>?_);refine wpList_nil ?_;refine h0 _ _ ?_;refine wp_seq_k λy p=>?_;refine aC ?_;refine eK hA (gV rfl (lS (vals:=#[]) hA rfl) (lS (vals:=#[pP a]) hA rfl)) (λac hA=>?_);refine aXm (vs:=#[]) hA (λac hA=>?_);refine wpList_nil ?_;refine p _ _ ?_;refine wp_seq_k λz q=>?_;refine aC ?_;refine eE hA (λac hA=>?_);refine eK (v:=.agg #[.slice A n c]) hA (iZ (ps:=#[(0,.slice A n c)]) rfl (lN hA rfl) (λw=>by kernel_rfl)) (λac hA=>?_);refine aOi hA hS (λg ac w hS hA=>?_);refine eX hA (λac hA=>?_);refine wpList_nil ?_;refine q _ _ ?_;refine wp_seq_k λB s=>?_;refine aC ?_;refine eE hA (λac hA=>?_);refine eE hA (λac hA=>?_);rcases o g a w hS with hr | hp
  · refine aRe (vs:=#[pP g]) hf hA hr (λv ac w d hA=>?_)
    obtain⟨b,l,i,m,hS,d⟩:=d;refine wpList_nil ?_;refine s _ _ ?_;refine wp_seq_k λC t=>?_;refine aC ?_;refine eE hA (λac hA=>?_);refine eK hA (aN rfl (hA.ev rfl)) (λac hA=>?_);refine aY7 sA hA (λac hA=>?_);refine aPz Tryz.underlying23 (hS.cell 0 rfl 0 _ rfl) hA (λac hA=>?_);refine eK hA (aCw Tryz.underlying23 rfl (hA.ev rfl)) (λac hA=>?_);refine eK hA (aAa rfl (hA.ev rfl) (hA.ev rfl)) (λac hA=>?_);refine aRg (vs:=[.bool ((i:Int)==0)]) 1 sz4 hA hS rfl (λac w hS hA=>?_);refine wpList_nil ?_;refine t _ _ ?_;refine wp_ret ?_;show Leaves _ _ _ _ _ _ _;rw [hA.defers];refine leaves_cons (f:=73) (args:=#[pP a]) (by simp) (by simp [invoke,(bCk _ _:_=_)]) ?_;refine CallsD.mono aOu ?_;rintro e u w' ⟨rfl,rfl,rfl⟩;exact⟨_,aFo hA rfl hS,_,rfl,d _ (hS.tail.tail)⟩
  · refine aRd (vs:=#[pP g]) hf hA hp (λw d=>?_)
    obtain⟨b,hS,d⟩:=d;show Leaves _ _ _ _ _ _ _;rw [hA.defers];refine leaves_cons (f:=73) (args:=#[pP a]) (by simp) (by simp [invoke,(bCk _ _:_=_)]) ?_;refine CallsD.mono (aRr hS) ?_;rintro e u w' ⟨rfl,rfl,hS⟩;exact⟨_,aFo hA rfl hS,_,rfl,d _ hS.tail⟩
end
noncomputable section
set_option linter.unusedSimpArgs false
def aJ (a0:S140) (a:Bool):Option ((S140)⊕(S140)):=if !a then (some (.inr a0)) else (some (.inl a0))
abbrev bGv:=((Int×S140)⊕(S140))
def fW (a0:S140):Option bGv:=(aJ a0 (decide (0<(a0.f0.length:Int)))).bind λa=>(fN a (λa=>((at_ a.f0 0).bind λb=>((kD a.f0 1 (a.f0.length:Int)).bind λc=>(some (.inl (b,(⟨c⟩:S140))))))) (λa=>(some (.inr a))))
abbrev bGw:=((List Int×Int×Int)⊕(((Int×S140)⊕(S140))))
def jO (a:Int) (b:List Int):Option bGw:=some (.inr (.inl (a,(⟨b⟩:S140))))
def eF (n i f:Int) (g:(Int×S140)) (e:List Int):Option bGw:=ltt (aBk .u8 g.1 127) λj=>(ltt (IntKind.u64.wrap j) λk=>(ltt (IntKind.i64.wrap (7 * f)) λh=>(chk (0<=h) (ltt (wT .u64 k h) λl=>(ltt (ior .u64 i l) λa=>(if decide (g.1<128) then (if decide (a<=n) then (if f==0 then ((aJ (⟨e⟩:S140) true).bind λb=>(fN b (λb=>(jO a b.f0)) (λb=>(some (.inr (.inr b)))))) else ((aJ (⟨e⟩:S140) (decide (0<g.1))).bind λc=>(fN c (λc=>(jO a c.f0)) (λc=>(some (.inr (.inr c))))))) else ((aJ (⟨e⟩:S140) false).bind λd=>(fN d (λd=>(jO a d.f0)) (λd=>(some (.inr (.inr d))))))) else (ltt (IntKind.i64.wrap (f+1)) λm=>(some (.inl (e,a,m))))))))))
def eG (g:Int) (h:List Int) (f b:Int):Option bGw:=(fW (⟨h⟩:S140)).bind λa=>(fN a (λa=>(if decide (b<9) then ((aJ a.2 true).bind λc=>(fN c (λc=>(eF g f b a c.f0)) (λc=>(some (.inr (.inr c)))))) else (if b==9 then ((aJ a.2 (decide (a.1<2))).bind λd=>(fN d (λd=>(eF g f b a d.f0)) (λd=>(some (.inr (.inr d)))))) else ((aJ a.2 false).bind λe=>(fN e (λe=>(eF g f b a e.f0)) (λe=>(some (.inr (.inr e))))))))) (λa=>(some (.inr (.inr a)))))
def bC (a0:S140) (a:Int):Option bGv:=(loop (λs=>eG a s.1 s.2.1 s.2.2) (a0.f0,0,0)).bind λt=>some t
def cR (a0:S140):Option bGv:=(bC a0 18446744073709551615).bind λa=>(fN a (λa=>(ltt (oC .u64 a.1 1) λb=>(ltt (IntKind.i64.wrap b) λc=>(ltt (aBk .u64 a.1 1) λd=>(ltt (IntKind.i64.wrap d) λe=>(ltt (aAx .i64 c (IntKind.i64.wrap (0 - e))) λf=>(some (.inl (f,a.2))))))))) (λa=>(some (.inr a))))
def fD (a0:S140) (g:Int):Option ((List UInt8×S140)⊕(S140)):=ltt (IntKind.u64.wrap g) λc=>((bC a0 c).bind λa=>(fN a (λa=>(ltt (IntKind.u64.wrap (a.2.f0.length:Int)) λd=>((aJ a.2 (decide (a.1<=d))).bind λb=>(fN b (λb=>((kD b.f0 0 a.1).bind λe=>((kD b.f0 a.1 (b.f0.length:Int)).bind λf=>(some (.inl (bts e,(⟨f⟩:S140))))))) (λb=>(some (.inr b))))))) (λa=>(some (.inr a)))))
abbrev bGx:=((List Int×S140)⊕(S140))
def rE (a b:List Int):Option bGx:=some (.inl (b,(⟨a⟩:S140)))
def pK (a b:List Int):Option bGx:=rE a b
abbrev bGy:=((List Int×List Int×Int)⊕((List Int×List Int)⊕((List Int×S140)⊕(S140))))
def dI (a0:Int) (c b:List Int) (d:Int):Option bGy:=if decide (d<a0) then ((cR (⟨c⟩:S140)).bind λa=>(fN a (λa=>(chk (b.length+[a.1].length<=140737488355328 / 8) (ltt (IntKind.i64.wrap (d+1)) λe=>(some (.inl (a.2.f0,b++[a.1],e)))))) (λa=>(some (.inr (.inr (.inr a))))))) else (some (.inr (.inl (c,b))))
def nI (a0:Int) (a:S140):Option bGx:=(loop (λs=>dI a0 s.1 s.2.1 s.2.2) (a.f0,[],0)).bind λt=>match t with | (.inl t)=>pK t.1 t.2 | (.inr t)=>some t
def vW (a:List Int):Option bGx:=some (.inl (a,(⟨[]⟩:S140)))
def tO (a:List Int):Option bGx:=vW a
def gK (c:(Int×S140)) (d b:List Int) (a:Int):Option bGu:=if decide (a<(d.length:Int)) then ((at_ b a).bind λe=>(ltt (IntKind.i64.wrap (e+c.1)) λf=>(ltt (IntKind.i64.wrap (a+1)) λg=>(some (.inl (b.set a.toNat f,g)))))) else (some (.inr (b)))
def rZ (b:(Int×S140)) (c a:List Int):Option bGx:=(loop (λs=>gK b a s.1 s.2) (a,0)).bind λt=>tO t
def pL (a:(Int×S140)) (b c:List Int):Option bGx:=rZ a b c
def lT (a:Int) (b c:List Int):Option bGy:=ltt (IntKind.i64.wrap (a+1)) λd=>(some (.inl (b,c,d)))
def iD (t b j:Int) (d e:List Int) (a:Int):Option bGy:=if decide (a<j) then (ltt (IntKind.i64.wrap (a.tdiv 8)) λk=>((at_ d k).bind λl=>(ltt (a.tmod 8) λf=>(chk (0<=f) (ltt (oC .u8 l f) λm=>(ltt (IntKind.u64.wrap m) λn=>(ltt (aBk .u64 n 1) λg=>(ltt (IntKind.i64.wrap (t * b)) λo=>(if decide (o<=a) then ((aJ (⟨d⟩:S140) (g==0)).bind λc=>(fN c (λc=>(lT a c.f0 e)) (λc=>(some (.inr (.inr (.inr c))))))) else (chk (b≠0) (ltt (IntKind.i64.wrap (a.tdiv b)) λh=>((at_ e h).bind λp=>(chk (b≠0) (ltt (a.tmod b) λi=>(chk (0<=i) (ltt (wT .u64 g i) λq=>(ltt (IntKind.i64.wrap q) λr=>(ltt (ior .i64 p r) λs=>(lT a d (e.set h.toNat s)))))))))))))))))))) else (some (.inr (.inl (d,e))))
def oP (a:Int) (c:(Int×S140)) (d:Int) (b:List Int):Option bGx:=chk (0<=a/\(8:Int) * a<=140737488355328) (ltt (IntKind.i64.wrap (8 * (b.length:Int))) λe=>((loop (λs=>iD a d e s.1 s.2.1 s.2.2) (b,List.replicate a.toNat (0:Int),0)).bind λt=>match t with | (.inl t)=>pL c t.1 t.2 | (.inr t)=>some t))
def sZ (a0:S140) (f:Int):Option bGx:=(cR a0).bind λb=>(fN b (λb=>((fW b.2).bind λa=>(fN a (λa=>(ltt (IntKind.i64.wrap a.1) λe=>(if decide (e<=64) then (ltt (IntKind.i64.wrap (f * e)) λg=>(ltt (IntKind.i64.wrap (g+7)) λh=>(ltt (IntKind.i64.wrap (h.tdiv 8)) λi=>((aJ a.2 ((a.2.f0.length:Int)==i)).bind λc=>(fN c (λc=>(oP f b e c.f0)) (λc=>(some (.inr c)))))))) else ((aJ a.2 false).bind λd=>(fN d (λd=>(oP f b e d.f0)) (λd=>(some (.inr d)))))))) (λa=>(some (.inr a)))))) (λb=>(some (.inr b))))
def kK (a b:List Int):Option bGx:=some (.inl (b,(⟨a⟩:S140)))
def yX (a b:List Int):Option bGx:=kK a b
def vT (a b:List Int):Option bGx:=yX a b
def hO (f:Int) (d b:List Int) (g e:Int):Option ((List Int×List Int×Int×Int)⊕((List Int×List Int)⊕((List Int×S140)⊕(S140)))):=if decide (e<f) then ((cR (⟨d⟩:S140)).bind λa=>(fN a (λa=>(ltt (IntKind.i64.wrap (g+a.1)) λc=>(chk (b.length+[c].length<=140737488355328 / 8) (ltt (IntKind.i64.wrap (e+1)) λh=>(some (.inl (a.2.f0,b++[c],c,h))))))) (λa=>(some (.inr (.inr (.inr a))))))) else (some (.inr (.inl (d,b))))
def yY (a b:List Int):Option bGx:=kK a b
def vU (a b:List Int):Option bGx:=yY a b
abbrev bGz:=((List Int×List Int)⊕((List Int×List Int)⊕((List Int×S140)⊕(S140))))
def yZ (a:(Int×S140)) (b:List Int):Option bGz:=some (.inl (a.2.f0,b))
def vV (a:(Int×S140)) (b:List Int):Option bGz:=yZ a b
def iS (b:(Int×S140)) (d:Int) (a:List Int) (c:Int):Option bGu:=if decide (c<d) then (chk (a.length+[b.1].length<=140737488355328 / 8) (ltt (IntKind.u64.wrap (c+1)) λe=>(some (.inl (a++[b.1],e))))) else (some (.inr (a)))
def dW (d:Int) (e c:List Int):Option bGz:=if decide ((c.length:Int)<d) then ((cR (⟨e⟩:S140)).bind λa=>(fN a (λa=>(ltt (IntKind.i64.wrap (d - (c.length:Int))) λf=>(ltt (IntKind.i64.wrap (f - 1)) λg=>(ltt (IntKind.u64.wrap g) λh=>((bC a.2 h).bind λb=>(fN b (λb=>(ltt (IntKind.u64.wrap (1+b.1)) λi=>((loop (λs=>iS a i s.1 s.2) (c,0)).bind λt=>vV b t))) (λb=>(some (.inr (.inr (.inr b))))))))))) (λa=>(some (.inr (.inr (.inr a))))))) else (some (.inr (.inl (e,c))))
def tZ (a0:S140):Option bGx:=(fW a0).bind λb=>(fN b (λb=>((aJ b.2 (decide (b.1<=3))).bind λe=>(fN e (λe=>((bC e 4096).bind λa=>(fN a (λa=>(ltt (IntKind.i64.wrap a.1) λf=>(if b.1==0 then ((nI f a.2).bind λc=>(fN c (λc=>(kK c.2.f0 c.1)) (λc=>(some (.inr c))))) else (if b.1==1 then ((loop (λs=>hO f s.1 s.2.1 s.2.2.1 s.2.2.2) (a.2.f0,[],0,0)).bind λt=>match t with | (.inl t)=>vT t.1 t.2 | (.inr t)=>some t) else (if b.1==2 then ((loop (λs=>dW f s.1 s.2) (a.2.f0,[])).bind λt=>match t with | (.inl t)=>vU t.1 t.2 | (.inr t)=>some t) else (if b.1==3 then (if decide (0<f) then ((sZ a.2 f).bind λd=>(fN d (λd=>(kK d.2.f0 d.1)) (λd=>(some (.inr d))))) else (kK a.2.f0 [])) else (kK a.2.f0 []))))))) (λa=>(some (.inr a)))))) (λe=>(some (.inr e)))))) (λb=>(some (.inr b))))
def qV (a0:S140) (b:List Int):Option ((S140×List Int)⊕(S140×List Int)):=(tZ a0).bind λa=>(fN a (λa=>(some (.inl (a.2,a.1)))) (λa=>(some (.inr (a,b)))))
def qO (a0 a:List Int):Option (Bool×List Int):=(qV (⟨a0⟩:S140) a).bind λy=>(fN y (λy=>some ((((y.1.f0.length:Int)==0),y.2))) (λy=>some ((false,y.2))))
def jF (a0:List Int):Option (List Int×Int):=(qO a0 []).bind λa=>(if !a.1 then (some ([],3)) else (some (a.2,0)))
end
end Go.Proofs.YtdkpjpoajlmmfaaGreatDoor.M
