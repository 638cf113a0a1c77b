/- Texts of the claim, joined: what it uses of Gr, Op, Dpg, Mpg, Dpl, Mpl, Dce, Mce, Tr, Dcr. -/
import Derived.Test.YtdkpjpoajlmmfaaGreatDoorZb
import Derived.Test.YtdkpjpoajlmmfaaGreatDoorProg
namespace Go.Proofs.YtdkpjpoajlmmfaaGreatDoor.M
open Go Go.RowKit Go.Proofs.YtdkpjpoajlmmfaaGreatDoor.E
set_option linter.unusedVariables false
set_option linter.unusedSimpArgs false
def aDd:List PanicEntry:=[{ v:=.iface 137 (.agg #[]),recovered:=false }]
theorem by3:Tryz.prog.bytesOf 3=8:=by kernel_rfl
theorem bEv:Tryz.prog.bytesOf 52=32:=by kernel_rfl
theorem bDq:Tryz.prog.bytesOf 61=48:=by kernel_rfl
theorem ce2:Tryz.prog.cellsOf 2=1:=by kernel_rfl
theorem bA6:Tryz.prog.cellsOf 24=1:=by kernel_rfl
theorem ce3:Tryz.prog.cellsOf 3=1:=by kernel_rfl
theorem ce5:Tryz.prog.cellsOf 5=1:=by kernel_rfl
theorem bDe:Tryz.prog.cellsOf 50=1:=by kernel_rfl
theorem bCs:Tryz.prog.cellsOf 52=3:=by kernel_rfl
theorem bEr:Tryz.prog.cellsOf 59=1:=by kernel_rfl
theorem bBd:Tryz.prog.cellsOf 61=5:=by kernel_rfl
theorem bD5:Tryz.prog.cellsOf 67=1:=by kernel_rfl
theorem ce9:Tryz.prog.cellsOf 9=1:=by kernel_rfl
theorem aZm:EN Tryz.prog 10:=aZ Tryz.func10 (by kernel_rfl) rfl
theorem bAn:EN Tryz.prog 100:=aZ Tryz.func100 (by kernel_rfl) rfl
theorem aPn:EN Tryz.prog 101:=aZ Tryz.func101 (by kernel_rfl) rfl
theorem bCd:EN Tryz.prog 102:=aZ Tryz.func102 (by kernel_rfl) rfl
theorem aM1:EN Tryz.prog 103:=aZ Tryz.func103 (by kernel_rfl) rfl
theorem bBc:EN Tryz.prog 104:=aZ Tryz.func104 (by kernel_rfl) rfl
theorem bAt:EN Tryz.prog 105:=aZ Tryz.func105 (by kernel_rfl) rfl
theorem bC4:EN Tryz.prog 106:=aZ Tryz.func106 (by kernel_rfl) rfl
theorem bAy:EN Tryz.prog 107:=aZ Tryz.func107 (by kernel_rfl) rfl
theorem aYi:EN Tryz.prog 11:=aZ Tryz.func11 (by kernel_rfl) rfl
theorem bAj:EN Tryz.prog 110:=aZ Tryz.func110 (by kernel_rfl) rfl
theorem aWv:EN Tryz.prog 111:=aZ Tryz.func111 (by kernel_rfl) rfl
theorem bB4:EN Tryz.prog 112:=aZ Tryz.func112 (by kernel_rfl) rfl
theorem bCg:EN Tryz.prog 113:=aZ Tryz.func113 (by kernel_rfl) rfl
theorem bBn:EN Tryz.prog 114:=aZ Tryz.func114 (by kernel_rfl) rfl
theorem aW6:EN Tryz.prog 115:=aZ Tryz.func115 (by kernel_rfl) rfl
theorem bC3:EN Tryz.prog 116:=aZ Tryz.func116 (by kernel_rfl) rfl
theorem aV3:EN Tryz.prog 12:=aZ Tryz.func12 (by kernel_rfl) rfl
theorem aXs:EN Tryz.prog 122:=aZ Tryz.func122 (by kernel_rfl) rfl
theorem bBt:EN Tryz.prog 123:=aZ Tryz.func123 (by kernel_rfl) rfl
theorem aZw:EN Tryz.prog 124:=aZ Tryz.func124 (by kernel_rfl) rfl
theorem bA4:EN Tryz.prog 125:=aZ Tryz.func125 (by kernel_rfl) rfl
theorem aZ7:EN Tryz.prog 126:=aZ Tryz.func126 (by kernel_rfl) rfl
theorem bBl:EN Tryz.prog 128:=aZ Tryz.func128 (by kernel_rfl) rfl
theorem bC6:EN Tryz.prog 129:=aZ Tryz.func129 (by kernel_rfl) rfl
theorem aWh:EN Tryz.prog 13:=aZ Tryz.func13 (by kernel_rfl) rfl
theorem bCb:EN Tryz.prog 130:=aZ Tryz.func130 (by kernel_rfl) rfl
theorem aWy:EN Tryz.prog 131:=aZ Tryz.func131 (by kernel_rfl) rfl
theorem aZ3:EN Tryz.prog 134:=aZ Tryz.func134 (by kernel_rfl) rfl
theorem bBx:EN Tryz.prog 138:=aZ Tryz.func138 (by kernel_rfl) rfl
theorem bD2:EN Tryz.prog 14:=aZ Tryz.func14 (by kernel_rfl) rfl
theorem bBv:EN Tryz.prog 142:=aZ Tryz.func142 (by kernel_rfl) rfl
theorem aXg:EN Tryz.prog 143:=aZ Tryz.func143 (by kernel_rfl) rfl
theorem bCk:EN Tryz.prog 145:=aZ Tryz.func145 (by kernel_rfl) rfl
theorem aZ9:EN Tryz.prog 148:=aZ Tryz.func148 (by kernel_rfl) rfl
theorem aYc:EN Tryz.prog 15:=aZ Tryz.func15 (by kernel_rfl) rfl
theorem aXh:EN Tryz.prog 152:=aZ Tryz.func152 (by kernel_rfl) rfl
theorem bEg:EN Tryz.prog 16:=aZ Tryz.func16 (by kernel_rfl) rfl
theorem aX6:EN Tryz.prog 19:=aZ Tryz.func19 (by kernel_rfl) rfl
theorem aVr:EN Tryz.prog 20:=aZ Tryz.func20 (by kernel_rfl) rfl
theorem bEx:EN Tryz.prog 29:=aZ Tryz.func29 (by kernel_rfl) rfl
theorem bD3:EN Tryz.prog 30:=aZ Tryz.func30 (by kernel_rfl) rfl
theorem aYt:EN Tryz.prog 31:=aZ Tryz.func31 (by kernel_rfl) rfl
theorem bCi:EN Tryz.prog 32:=aZ Tryz.func32 (by kernel_rfl) rfl
theorem aYw:EN Tryz.prog 33:=aZ Tryz.func33 (by kernel_rfl) rfl
theorem aZn:EN Tryz.prog 34:=aZ Tryz.func34 (by kernel_rfl) rfl
theorem bC1:EN Tryz.prog 35:=aZ Tryz.func35 (by kernel_rfl) rfl
theorem bEo:EN Tryz.prog 36:=aZ Tryz.func36 (by kernel_rfl) rfl
theorem bC0:EN Tryz.prog 37:=aZ Tryz.func37 (by kernel_rfl) rfl
theorem bAq:EN Tryz.prog 38:=aZ Tryz.func38 (by kernel_rfl) rfl
theorem bA9:EN Tryz.prog 39:=aZ Tryz.func39 (by kernel_rfl) rfl
theorem bEt:EN Tryz.prog 40:=aZ Tryz.func40 (by kernel_rfl) rfl
theorem bEw:EN Tryz.prog 41:=aZ Tryz.func41 (by kernel_rfl) rfl
theorem aJ4:EN Tryz.prog 43:=aZ Tryz.func43 (by kernel_rfl) rfl
theorem aQs:EN Tryz.prog 44:=aZ Tryz.func44 (by kernel_rfl) rfl
theorem aZb:EN Tryz.prog 45:=aZ Tryz.func45 (by kernel_rfl) rfl
theorem bDm:EN Tryz.prog 46:=aZ Tryz.func46 (by kernel_rfl) rfl
theorem aTl:EN Tryz.prog 47:=aZ Tryz.func47 (by kernel_rfl) rfl
theorem bDl:EN Tryz.prog 48:=aZ Tryz.func48 (by kernel_rfl) rfl
theorem rP:EN Tryz.prog 49:=aZ Tryz.func49 (by kernel_rfl) rfl
theorem xP:EN Tryz.prog 50:=aZ Tryz.func50 (by kernel_rfl) rfl
theorem aL5:EN Tryz.prog 51:=aZ Tryz.func51 (by kernel_rfl) rfl
theorem aYd:EN Tryz.prog 52:=aZ Tryz.func52 (by kernel_rfl) rfl
theorem bEf:EN Tryz.prog 53:=aZ Tryz.func53 (by kernel_rfl) rfl
theorem bDj:EN Tryz.prog 54:=aZ Tryz.func54 (by kernel_rfl) rfl
theorem bDk:EN Tryz.prog 55:=aZ Tryz.func55 (by kernel_rfl) rfl
theorem bEp:EN Tryz.prog 56:=aZ Tryz.func56 (by kernel_rfl) rfl
theorem bDf:EN Tryz.prog 57:=aZ Tryz.func57 (by kernel_rfl) rfl
theorem bCm:EN Tryz.prog 58:=aZ Tryz.func58 (by kernel_rfl) rfl
theorem aIo:EN Tryz.prog 59:=aZ Tryz.func59 (by kernel_rfl) rfl
theorem aMc:EN Tryz.prog 60:=aZ Tryz.func60 (by kernel_rfl) rfl
theorem aVu:EN Tryz.prog 61:=aZ Tryz.func61 (by kernel_rfl) rfl
theorem bEd:EN Tryz.prog 62:=aZ Tryz.func62 (by kernel_rfl) rfl
theorem aVb:EN Tryz.prog 64:=aZ Tryz.func64 (by kernel_rfl) rfl
theorem bD8:EN Tryz.prog 65:=aZ Tryz.func65 (by kernel_rfl) rfl
theorem bEb:EN Tryz.prog 66:=aZ Tryz.func66 (by kernel_rfl) rfl
theorem bAc:EN Tryz.prog 67:=aZ Tryz.func67 (by kernel_rfl) rfl
theorem bEl:EN Tryz.prog 68:=aZ Tryz.func68 (by kernel_rfl) rfl
theorem bBf:EN Tryz.prog 70:=aZ Tryz.func70 (by kernel_rfl) rfl
theorem bDw:EN Tryz.prog 71:=aZ Tryz.func71 (by kernel_rfl) rfl
theorem bA8:EN Tryz.prog 72:=aZ Tryz.func72 (by kernel_rfl) rfl
theorem bBq:EN Tryz.prog 73:=aZ Tryz.func73 (by kernel_rfl) rfl
theorem aYr:EN Tryz.prog 74:=aZ Tryz.func74 (by kernel_rfl) rfl
theorem bAm:EN Tryz.prog 75:=aZ Tryz.func75 (by kernel_rfl) rfl
theorem bDy:EN Tryz.prog 76:=aZ Tryz.func76 (by kernel_rfl) rfl
theorem bD1:EN Tryz.prog 77:=aZ Tryz.func77 (by kernel_rfl) rfl
theorem aZu:EN Tryz.prog 78:=aZ Tryz.func78 (by kernel_rfl) rfl
theorem bDx:EN Tryz.prog 79:=aZ Tryz.func79 (by kernel_rfl) rfl
theorem en8:EN Tryz.prog 8:=aZ Tryz.func8 (by kernel_rfl) rfl
theorem bCh:EN Tryz.prog 80:=aZ Tryz.func80 (by kernel_rfl) rfl
theorem bAv:EN Tryz.prog 81:=aZ Tryz.func81 (by kernel_rfl) rfl
theorem bDr:EN Tryz.prog 82:=aZ Tryz.func82 (by kernel_rfl) rfl
theorem bDd:EN Tryz.prog 83:=aZ Tryz.func83 (by kernel_rfl) rfl
theorem bCq:EN Tryz.prog 84:=aZ Tryz.func84 (by kernel_rfl) rfl
theorem aV9:EN Tryz.prog 85:=aZ Tryz.func85 (by kernel_rfl) rfl
theorem bD6:EN Tryz.prog 86:=aZ Tryz.func86 (by kernel_rfl) rfl
theorem bD9:EN Tryz.prog 87:=aZ Tryz.func87 (by kernel_rfl) rfl
theorem bAo:EN Tryz.prog 88:=aZ Tryz.func88 (by kernel_rfl) rfl
theorem bBj:EN Tryz.prog 89:=aZ Tryz.func89 (by kernel_rfl) rfl
theorem en9:EN Tryz.prog 9:=aZ Tryz.func9 (by kernel_rfl) rfl
theorem bDg:EN Tryz.prog 90:=aZ Tryz.func90 (by kernel_rfl) rfl
theorem bAg:EN Tryz.prog 91:=aZ Tryz.func91 (by kernel_rfl) rfl
theorem bBa:EN Tryz.prog 92:=aZ Tryz.func92 (by kernel_rfl) rfl
theorem aU5:EN Tryz.prog 93:=aZ Tryz.func93 (by kernel_rfl) rfl
theorem bDs:EN Tryz.prog 94:=aZ Tryz.func94 (by kernel_rfl) rfl
theorem aV0:EN Tryz.prog 95:=aZ Tryz.func95 (by kernel_rfl) rfl
theorem bDb:EN Tryz.prog 96:=aZ Tryz.func96 (by kernel_rfl) rfl
theorem bEi:EN Tryz.prog 97:=aZ Tryz.func97 (by kernel_rfl) rfl
theorem bD4:EN Tryz.prog 98:=aZ Tryz.func98 (by kernel_rfl) rfl
theorem bBr (b:Nat):EXT Tryz.prog 117 #[.float .f64 b] (.int .u64 b):=λw=>by kernel_rfl
theorem aW2 (n:Int):EXT Tryz.prog 132 #[.int .u64 n] (.float .f64 n.toNat):=λw=>by kernel_rfl
theorem aA6:FA Tryz.prog 128 0 0:=λad w=>by kernel_rfl
theorem aGh:FA Tryz.prog 128 1 1:=λad w=>by kernel_rfl
theorem tG:FA Tryz.prog 128 2 2:=λad w=>by kernel_rfl
theorem rU:FA Tryz.prog 140 0 0:=λad w=>by kernel_rfl
theorem aNf:FA Tryz.prog 26 0 0:=λad w=>by kernel_rfl
theorem aNl:FA Tryz.prog 26 1 1:=λad w=>by kernel_rfl
theorem aOd:FA Tryz.prog 26 2 2:=λad w=>by kernel_rfl
theorem aOl:FA Tryz.prog 26 3 3:=λad w=>by kernel_rfl
theorem aHk:FA Tryz.prog 46 0 0:=λad w=>by kernel_rfl
theorem uZ:FA Tryz.prog 46 1 1:=λad w=>by kernel_rfl
theorem yV:FA Tryz.prog 46 2 2:=λad w=>by kernel_rfl
theorem aGs:FA Tryz.prog 46 3 3:=λad w=>by kernel_rfl
theorem aFk:FA Tryz.prog 46 4 4:=λad w=>by kernel_rfl
theorem aYp:FA Tryz.prog 52 0 0:=λad w=>by kernel_rfl
theorem aOi:FA Tryz.prog 52 1 1:=λad w=>by kernel_rfl
theorem mZ:FA Tryz.prog 61 0 0:=λad w=>by kernel_rfl
theorem vV:FA Tryz.prog 61 1 1:=λad w=>by kernel_rfl
theorem fA:FA Tryz.prog 61 2 2:=λad w=>by kernel_rfl
theorem yM:FA Tryz.prog 61 3 3:=λad w=>by kernel_rfl
theorem aNo:FA Tryz.prog 61 4 4:=λad w=>by kernel_rfl
theorem oC:FA Tryz.prog 77 0 0:=λad w=>by kernel_rfl
theorem aKk:FA Tryz.prog 77 1 1:=λad w=>by kernel_rfl
theorem aKe:FA Tryz.prog 77 2 2:=λad w=>by kernel_rfl
theorem aOn:FA Tryz.prog 77 3 3:=λad w=>by kernel_rfl
theorem aSh:FA Tryz.prog 77 4 4:=λad w=>by kernel_rfl
theorem aFh:FA Tryz.prog 79 0 0:=λad w=>by kernel_rfl
theorem aFa:FA Tryz.prog 79 1 1:=λad w=>by kernel_rfl
theorem iK:FA Tryz.prog 79 2 2:=λad w=>by kernel_rfl
theorem aHs:FA Tryz.prog 90 0 0:=λad w=>by kernel_rfl
theorem aD0:FA Tryz.prog 90 1 1:=λad w=>by kernel_rfl
theorem yP:FA Tryz.prog 90 2 2:=λad w=>by kernel_rfl
theorem zK:FA Tryz.prog 90 3 3:=λad w=>by kernel_rfl
theorem aHf:FA Tryz.prog 90 4 4:=λad w=>by kernel_rfl
theorem aE9:FA Tryz.prog 90 5 5:=λad w=>by kernel_rfl
theorem aKh:FA Tryz.prog 90 6 6:=λad w=>by kernel_rfl
theorem aHl:FA Tryz.prog 90 7 7:=λad w=>by kernel_rfl
theorem aJ6:FA Tryz.prog 98 0 0:=λad w=>by kernel_rfl
theorem aG3:FA Tryz.prog 98 1 1:=λad w=>by kernel_rfl
theorem aYf:FA Tryz.prog 98 2 2:=λad w=>by kernel_rfl
theorem bEs:Tryz.prog.eqGuardType Tryz.prog.depth 90=false:=by kernel_rfl
theorem mH:(Tryz.prog.info? 2).map (λi=>(i.zero,i.size,i.bytes))=some (some (.int .i64 0),1,8):=by kernel_rfl
theorem bEh:(Tryz.prog.info? 4).map (λi=>(i.zero,i.size,i.bytes))=some (some (.bool false),1,1):=by kernel_rfl
theorem aMv:(Tryz.prog.info? 46).map (λi=>(i.zero,i.size,i.bytes))=some (some (.agg #[(str []),(.int .u64 0),(.int .u64 0),(.int .i64 0),(.int .i64 0)]),5,48):=by kernel_rfl
theorem aE5:(Tryz.prog.info? 5).map (λi=>(i.zero,i.size,i.bytes))=some (some (.int .u8 0),1,1):=by kernel_rfl
theorem aO1:(Tryz.prog.info? 59).map (λi=>(i.zero,i.size,i.bytes))=some (some (.float .f64 0),1,8):=by kernel_rfl
theorem aLx:(Tryz.prog.info? 61).map (λi=>(i.zero,i.size,i.bytes))=some (some (.agg #[(.int .u64 0),(.int .i64 0),(.int .i64 0),(str []),(.float .f64 0)]),5,48):=by kernel_rfl
theorem aRa:(Tryz.prog.info? 9).map (λi=>(i.zero,i.size,i.bytes))=some (some (str []),1,16):=by kernel_rfl
theorem aW5:(Tryz.prog.info? 90).map (λi=>(i.zero,i.size,i.bytes))=some (some (.agg #[(.int .i64 0),(.int .i64 0),(.int .u64 0),(.int .u64 0),(.int .i64 0),(.int .i64 0),(str []),(str [])]),8,80):=by kernel_rfl
theorem aWw:(Tryz.prog.info? 98).map (λi=>(i.zero,i.size,i.bytes))=some (some (.agg #[(str []),(.slice none 0 0),(.int .i64 0)]),3,48):=by kernel_rfl
theorem aX4 {args:Array Value} {w:World} (h:(Extern.SlicesOverlaps.overlaps #[75,75] #[4] args).run Tryz.prog w=.ok (.bool false) w):(callFunc 108 args).run Tryz.prog w=.ok (.value (.bool false)) w:=by rw [run_callFunc_extern Tryz.func108 (by kernel_rfl) (by kernel_rfl) (by kernel_rfl) (e:=Extern.SlicesOverlaps.overlaps #[75,75] #[4]) (by kernel_rfl),h];rfl
theorem bDo:Tryz.prog.stoodInHeld 90=false:=by kernel_rfl
theorem aXq:(Tryz.prog.info? 126).map (·.size)=some 1:=by kernel_rfl
theorem bAl:(Tryz.prog.info? 137).map (·.size)=some 0:=by kernel_rfl
theorem aZz:(Tryz.prog.info? 158).map (·.size)=some 1:=by kernel_rfl
theorem sz2:(Tryz.prog.info? 2).map (·.size)=some 1:=by kernel_rfl
theorem aEn:(Tryz.prog.info? 23).map (·.size)=some 1:=by kernel_rfl
theorem aQt:(Tryz.prog.info? 24).map (·.size)=some 1:=by kernel_rfl
theorem aVg:(Tryz.prog.info? 26).map (·.size)=some 4:=by kernel_rfl
theorem sz3:(Tryz.prog.info? 3).map (·.size)=some 1:=by kernel_rfl
theorem bDi:(Tryz.prog.info? 30).map (·.size)=some 1:=by kernel_rfl
theorem bA7:(Tryz.prog.info? 38).map (·.size)=some 1:=by kernel_rfl
theorem sz4:(Tryz.prog.info? 4).map (·.size)=some 1:=by kernel_rfl
theorem jG:(Tryz.prog.info? 46).map (·.size)=some 5:=by kernel_rfl
theorem sz5:(Tryz.prog.info? 5).map (·.size)=some 1:=by kernel_rfl
theorem aZt:(Tryz.prog.info? 52).map (·.size)=some 3:=by kernel_rfl
theorem bDt:(Tryz.prog.info? 53).map (·.size)=some 1:=by kernel_rfl
theorem aY8:(Tryz.prog.info? 59).map (·.size)=some 1:=by kernel_rfl
theorem jX:(Tryz.prog.info? 61).map (·.size)=some 5:=by kernel_rfl
theorem bB2:(Tryz.prog.info? 67).map (·.size)=some 1:=by kernel_rfl
theorem aU7:(Tryz.prog.info? 75).map (·.size)=some 1:=by kernel_rfl
theorem sz9:(Tryz.prog.info? 9).map (·.size)=some 1:=by kernel_rfl
theorem yC:(Tryz.prog.info? 90).map (·.size)=some 8:=by kernel_rfl
theorem oK:(Tryz.prog.info? 98).map (·.size)=some 3:=by kernel_rfl
theorem bBk:(Tryz.prog.info? 126).bind (·.zero)=some (.slice none 0 0):=by kernel_rfl
theorem aZ4:(Tryz.prog.info? 137).bind (·.zero)=some (.agg #[]):=by kernel_rfl
theorem bBo:(Tryz.prog.info? 157).bind (·.zero)=some (.agg #[(.slice none 0 0),(.slice none 0 0),(.slice none 0 0),(.slice none 0 0),(.slice none 0 0)]):=by kernel_rfl
theorem bAd:(Tryz.prog.info? 158).bind (·.zero)=some (.slice none 0 0):=by kernel_rfl
theorem bDv:(Tryz.prog.info? 23).bind (·.zero)=some (.slice none 0 0):=by kernel_rfl
theorem zr4:(Tryz.prog.info? 4).bind (·.zero)=some (.bool false):=by kernel_rfl
theorem aGf:(Tryz.prog.info? 46).bind (·.zero)=some (.agg #[(str []),(.int .u64 0),(.int .u64 0),(.int .i64 0),(.int .i64 0)]):=by kernel_rfl
theorem bD7:(Tryz.prog.info? 52).bind (·.zero)=some (.agg #[(.int .u8 0),(.int .u8 0),(.slice none 0 0)]):=by kernel_rfl
theorem bDp:(Tryz.prog.info? 53).bind (·.zero)=some (.slice none 0 0):=by kernel_rfl
theorem aOj:(Tryz.prog.info? 61).bind (·.zero)=some (.agg #[(.int .u64 0),(.int .i64 0),(.int .i64 0),(str []),(.float .f64 0)]):=by kernel_rfl
theorem zr9:(Tryz.prog.info? 9).bind (·.zero)=some (str []):=by kernel_rfl
theorem aOr:(Tryz.prog.info? 90).bind (·.zero)=some (.agg #[(.int .i64 0),(.int .i64 0),(.int .u64 0),(.int .u64 0),(.int .i64 0),(.int .i64 0),(str []),(str [])]):=by kernel_rfl
theorem aVk:(Tryz.prog.info? 98).bind (·.zero)=some (.agg #[(str []),(.slice none 0 0),(.int .i64 0)]):=by kernel_rfl
set_option maxRecDepth 100000 in
theorem aZ0 (x y:S90) (w:World):(Op.equalIn 10000 90 (.agg #[.int .i64 x.f0,.int .i64 x.f1,.int .u64 x.f2,.int .u64 x.f3,.int .i64 x.f4,.int .i64 x.f5,str x.f6,str x.f7]) (.agg #[.int .i64 y.f0,.int .i64 y.f1,.int .u64 y.f2,.int .u64 y.f3,.int .i64 y.f4,.int .i64 y.f5,str y.f6,str y.f7])).run Tryz.prog w=.ok (aIq x y) w :=
  eqs Tryz.underlying90 bDo (eqf (jA Tryz.underlying3 rfl rfl) (jA Tryz.underlying3 rfl rfl) (run_equalIn_int w 9998 3 .i64 .i64 _ _ Tryz.underlying3) (eqf (jA Tryz.underlying3 rfl rfl) (jA Tryz.underlying3 rfl rfl) (run_equalIn_int w 9998 3 .i64 .i64 _ _ Tryz.underlying3) (eqf (jA Tryz.underlying24 rfl rfl) (jA Tryz.underlying24 rfl rfl) (run_equalIn_int w 9998 24 .u64 .u64 _ _ Tryz.underlying24) (eqf (jA Tryz.underlying24 rfl rfl) (jA Tryz.underlying24 rfl rfl) (run_equalIn_int w 9998 24 .u64 .u64 _ _ Tryz.underlying24) (eqf (jA Tryz.underlying2 rfl rfl) (jA Tryz.underlying2 rfl rfl) (run_equalIn_int w 9998 2 .i64 .i64 _ _ Tryz.underlying2) (eqf (jA Tryz.underlying2 rfl rfl) (jA Tryz.underlying2 rfl rfl) (run_equalIn_int w 9998 2 .i64 .i64 _ _ Tryz.underlying2) (eqf (jA Tryz.underlying9 rfl rfl) (jA Tryz.underlying9 rfl rfl) (aUe (d:=9998) Tryz.underlying9) (eqf (jA Tryz.underlying9 rfl rfl) (jA Tryz.underlying9 rfl rfl) (aUe (d:=9998) Tryz.underlying9) eqn rfl) rfl) rfl) rfl) rfl) rfl) rfl) rfl)
abbrev pP (g:Nat):Value:=.pointer (some ⟨g,0,none⟩)
abbrev uu2:=Tryz.underlying2
abbrev uu3:=Tryz.underlying3
abbrev uu4:=Tryz.underlying4
abbrev uu5:=Tryz.underlying5
abbrev uu9:=Tryz.underlying9
abbrev jH:=Tryz.underlying22
abbrev cL:=Tryz.underlying23
abbrev bS:=Tryz.underlying24
abbrev aUk:=Tryz.underlying26
abbrev oX:=Tryz.underlying29
abbrev bDz:=Tryz.underlying30
abbrev aE4:=Tryz.underlying33
abbrev iC:=Tryz.underlying38
abbrev yI:=Tryz.underlying46
abbrev bCr:=Tryz.underlying49
abbrev bEe:=Tryz.underlying52
abbrev qF:=Tryz.underlying53
abbrev bAh:=Tryz.underlying58
abbrev aQx:=Tryz.underlying59
abbrev aFc:=Tryz.underlying61
abbrev aD1:=Tryz.underlying67
abbrev iM:=Tryz.underlying75
abbrev aLy:=Tryz.underlying90
abbrev aQ4:=Tryz.underlying91
abbrev aOs:=Tryz.underlying98
abbrev aPw:=Tryz.underlying125
abbrev mI:=Tryz.underlying126
abbrev aZ5:=Tryz.underlying137
abbrev aI0:=Tryz.underlying157
abbrev bT:=Tryz.underlying158
abbrev aD4:=Tryz.underlying163
abbrev aW1:=Tryz.underlying167
abbrev aWt:=Tryz.underlying173
abbrev aW4:=Tryz.underlying174
abbrev aPu:=Tryz.underlying178
def g52 (x:S52):Prop:=(gI .u8) x.f0/\(gI .u8) x.f1/\(gL 8 (gI .i64)) x.f2
set_option maxRecDepth 100000 in
theorem op52 {W:World}:Opens Tryz.prog W 52 (kz52 (aEr W) W) g52:=by
  intro H enc held fuel cs x h hw;obtain⟨ys,n,_,rfl,hl,hyl,hf⟩:=DataW.trod_struct Tryz.underlying52 h;rw [bCs] at hl
  match cs,hl with
  | [c0,c1,c2],_ =>
    obtain⟨a0,h0,q0⟩:=fld Tryz.underlying52 hf hyl hw 0 rfl (o:=0) (c:=1) (t:=5) rfl rfl ce5 (opI Tryz.underlying5);cases (show [c0]=[.int .u8 a0] from h0);obtain⟨a1,h1,q1⟩:=fld Tryz.underlying52 hf hyl hw 1 rfl (o:=1) (c:=1) (t:=5) rfl rfl ce5 (opI Tryz.underlying5);cases (show [c1]=[.int .u8 a1] from h1);obtain⟨a2,h2,q2⟩:=fld Tryz.underlying52 hf hyl hw 2 rfl (o:=2) (c:=1) (t:=50) rfl rfl bDe (aYb Tryz.underlying50 ce3 (Nat.succ_pos _) by3 (opI Tryz.underlying3));obtain⟨A2,n2,m2,e2,i2⟩:=h2;cases (show [c2]=[.slice A2 n2 m2] from e2);exact⟨⟨a0,a1,a2⟩,⟨_,_,_,rfl,i2⟩,q0,q1,q2⟩
def g61 (x:S61):Prop:=(gI .u64) x.f0/\(gI .i64) x.f1/\(gI .i64) x.f2/\gS x.f3/\gF x.f4
set_option maxRecDepth 100000 in
theorem op61 {W:World}:Opens Tryz.prog W 61 k61 g61:=by
  intro H enc held fuel cs x h hw;obtain⟨ys,n,_,rfl,hl,hyl,hf⟩:=DataW.trod_struct Tryz.underlying61 h;rw [bBd] at hl
  match cs,hl with
  | [c0,c1,c2,c3,c4],_ =>
    obtain⟨a0,h0,q0⟩:=fld Tryz.underlying61 hf hyl hw 0 rfl (o:=0) (c:=1) (t:=24) rfl rfl bA6 (opI Tryz.underlying24);cases (show [c0]=[.int .u64 a0] from h0);obtain⟨a1,h1,q1⟩:=fld Tryz.underlying61 hf hyl hw 1 rfl (o:=1) (c:=1) (t:=3) rfl rfl ce3 (opI Tryz.underlying3);cases (show [c1]=[.int .i64 a1] from h1);obtain⟨a2,h2,q2⟩:=fld Tryz.underlying61 hf hyl hw 2 rfl (o:=2) (c:=1) (t:=2) rfl rfl ce2 (opI Tryz.underlying2);cases (show [c2]=[.int .i64 a2] from h2);obtain⟨a3,h3,q3⟩:=fld Tryz.underlying61 hf hyl hw 3 rfl (o:=3) (c:=1) (t:=9) rfl rfl ce9 (opS Tryz.underlying9);cases (show [c3]=[str a3] from h3);obtain⟨a4,h4,q4⟩:=fld Tryz.underlying61 hf hyl hw 4 rfl (o:=4) (c:=1) (t:=59) rfl rfl bEr (opF Tryz.underlying59);cases (show [c4]=[.float .f64 a4] from h4);exact⟨⟨a0,a1,a2,a3,a4⟩,rfl,q0,q1,q2,q3,q4⟩
noncomputable section
set_option linter.unusedSimpArgs false
def aCg (z:Int):Option (Int) :=
  some (zW .u32 (IntKind.u32.max) z)
def zS (z:Int):Option (Int) :=
  aCg z
def nM (a0:(List Int)) (z:Int) (C:Int):Option ((Int×Int)⊕((Int))) :=
  if (decide (C<(a0.length:Int)))=true then ((at_ a0 C).bind λJ=>(ltt (IntKind.u32.wrap J) λG=>(ltt (zW .u32 z G) λN=>(ltt (aAv .u32 N 15) λS=>((at_ bX S).bind λU=>(ltt (pH .u32 z 4) λX=>(ltt (zW .u32 U X) λI=>(ltt (pH .u32 G 4) λY=>(ltt (zW .u32 I Y) λa1=>(ltt (aAv .u32 a1 15) λa3=>((at_ bX a3).bind λa4=>(ltt (pH .u32 I 4) λa5=>(ltt (zW .u32 a4 a5) λa6=>(ltt (IntKind.i64.wrap (C+1)) λa7=>(some (.inl (a6,a7))))))))))))))))) else (some (.inr (z)))
def zY (a0:(List Int)):Option (Int) :=
  (loop (λs=>nM a0 s.1 s.2) (4294967295,0)).bind λt=>zS t
def tT (a0:(List Int)):Option (Int) :=
  (at_ a0 0).bind λz=>(ltt (IntKind.u32.wrap z) λC=>((at_ a0 1).bind λG=>(ltt (IntKind.u32.wrap G) λI=>(ltt (wD .u32 I 8) λJ=>(ltt (ior .u32 C J) λN=>((at_ a0 2).bind λS=>(ltt (IntKind.u32.wrap S) λU=>(ltt (wD .u32 U 16) λX=>(ltt (ior .u32 N X) λY=>((at_ a0 3).bind λa1=>(ltt (IntKind.u32.wrap a1) λa3=>(ltt (wD .u32 a3 24) λa4=>(ltt (ior .u32 Y a4) λa5=>(some a5))))))))))))))
def dE (a0:(List Int)):Option ((List Int)) :=
  tE (a0).isEmpty (some []) (chk (([]:List Int).length+a0.length<=140737488355328 / 1) (some a0))
def uX (a1:Int) (z:(List Int)) (G:(Int)) (I:Bool):Option (Int×(List Int)×Int×Int) :=
  if I=true then (some (0,[],0,3)) else (ltt (IntKind.i64.wrap G) λJ=>(ltt (IntKind.i64.wrap (5+J)) λC=>((kX z 0 C).bind λN=>((kX z C (z.length:Int)).bind λS=>((zY N).bind λU=>((tT S).bind λX=>(if (U != X)=true then (some (0,[],0,4)) else ((at_ z 4).bind λY=>((kX z 5 C).bind λa0=>(ltt (IntKind.i64.wrap (a1+C)) λa3=>(ltt (IntKind.i64.wrap (a3+4)) λa4=>((dE a0).bind λa5=>(some (Y,a5,a4,0))))))))))))))
def uO (a0:(List Int)) (a1:Int) (G:Bool):Option (Int×(List Int)×Int×Int) :=
  if G=true then (some (0,[],0,1)) else ((kX a0 a1 (a0.length:Int)).bind λz=>(if (decide ((z.length:Int)<9))=true then (some (0,[],0,3)) else ((tT z).bind λC=>(if (decide (1048576<C))=true then (uX a1 z C true) else (ltt (IntKind.i64.wrap C) λI=>(ltt (IntKind.i64.wrap ((z.length:Int) - 9)) λJ=>(uX a1 z C (decide (J<I)))))))))
def sH (a0:(List Int)) (a1:Int):Option (Int×(List Int)×Int×Int) :=
  if (decide (a1<0))=true then (uO a0 a1 true) else (uO a0 a1 (decide ((a0.length:Int)<a1)))
end
set_option maxRecDepth 100000
set_option maxHeartbeats 4000000
section
variable {r:World} {L:List HP} {w:World} {Z:Nat->Prop} {wz:World}
theorem aHo {a0 A0 n0 c0 y} (G:zY a0=some y) (X:SH r (L) w) (qz:Nat) (hZ:L[qz]?=some (zone Z wz)) (ha0:RdL L (kI .u8) A0 n0 c0 a0) (hG0:Imm Z wz (kI .u32) (some ⟨0,0,none⟩) 16 16 bX) :
  Ret Tryz.prog 89 #[.slice A0 n0 c0] w λv w'=>v=.int .u32 y/\SH r (L) w':=by
 refine enter Tryz.func89 rfl Tryz.ntmps89 [(0,_)] rfl (by simp) ?_;intro U J Qf hQ hQn;unfold zY at G;refine nz 1 J rfl λU J=>nz 1 J rfl λU J=>wp_seq_k λd3 a3=>ws λd4 a4=>xk 1 J rfl λU J=>aW cL (X.rdl 0 ha0 rfl).2.1 J (λU J=>?_) rfl;refine x_m J rfl λU J=>wn (a4 _ _ ?_);refine aA λI a5=>?_;have hb1:∀C,aCg C=some y->∀U w,FR 36 [] U [(3,.int .u32 C)]->SH r (L) w->I U w:=by intro C G U w J X;unfold aCg at G;refine a5 _ _ (a3 _ _ ?_);refine ws λd5 a6=>xk 1 J rfl λU J=>x_v J (aV4 rfl (J.ev rfl)) rfl λU J=>x_m J rfl λU J=>wn (a6 _ _ ?_);cases G;refine wp_ret (hQ _ _ ?_);exact lv Tryz.results89 J rfl ⟨rfl,X⟩
 obtain⟨a7,a8,G⟩:=bnd G;have a9:∀z,(z)=a7->∀U w,FR 36 [] U [(3,.int .u32 z)]->SH r (L) w->I U w:=by intro z ht U w J X;subst ht;replace G:zS z=some y:=G;unfold zS at G;exact hb1 z G U w (J.sub _ rfl) X
 refine aT a8 (λs U w=>FR 36 [] U [(3,.int .u32 s.1),(6,.slice A0 n0 c0),(7,.int .i64 (a0.length:Int)),(8,.int .i64 s.2)]/\SH r (L) w) ⟨J.sub _ rfl,X⟩ ?_;intro d6 b3 b4 G b5 b6 U w hLab;obtain⟨N,b7⟩:=b3;replace G:nM a0 N b7=some b4:=G;unfold nM at G
 try dsimp only at hLab
 obtain⟨J,X⟩:=hLab;refine nz 1 J rfl λU J=>wp_seq_k λd7 b8=>aX J G rfl (λb9 G=>?_) λb9 G=>?_
 ·refine wp_skip (b8 _ _ ?_);refine wp_seq_k λd8 c4=>aA λd9 c5=>ws λe1 c6=>?_;obtain⟨e2,S,G⟩:=bnd G;refine fK cL sz5 (X.rdl 0 ha0 rfl) S J (λU J=>?_) rfl;obtain⟨cs,hV,c7⟩:=el (X.rdl 0 ha0 rfl) S;obtain rfl:=hV;refine aM uu5 (c7 0 _ rfl) J (λU J=>?_) rfl;refine x_m J rfl λU J=>wn (c6 _ _ ?_);refine ws λe3 c8=>xk 2 J rfl λU J=>eP G J (aQ uu5 aD1 rfl (J.ev rfl)) rfl λc9 d0 U J G=>x_l G J rfl λe4 _ U J G=>x_l G J rfl λe5 _ U J G=>?_;obtain⟨e6,Y,G⟩:=bnd G;refine aCa aW4 bB2 (X.rdl 0 (hG0.rdl qz hZ) rfl) Y J (λU J=>?_) rfl;obtain⟨cs,hV,d1⟩:=el (X.rdl 0 (hG0.rdl qz hZ) rfl) Y;obtain rfl:=hV;refine aM aD1 (d1 0 _ rfl) J (λU J=>?_) rfl;refine x_m J rfl λU J=>eP G J (uI rfl (J.ev rfl) (J.ev rfl) (by decide)) rfl λe7 _ U J G=>x_l G J rfl λe8 _ U J G=>x_m J rfl λU J=>wn (c8 _ _ ?_);refine aD (xk 2 J rfl λU J=>?_);refine x_v (v:=.int .u32 c9) J (cO d0 (aQ uu5 aD1 rfl (J.ev rfl))) rfl λU J=>eP G J (uI rfl (J.ev rfl) (J.ev rfl) (by decide)) rfl λe9 _ U J G=>x_l G J rfl λf0 _ U J G=>x_l G J rfl λf1 _ U J G=>?_;obtain⟨f2,a1,G⟩:=bnd G;refine aCa aW4 bB2 (X.rdl 0 (hG0.rdl qz hZ) rfl) a1 J (λU J=>?_) rfl;obtain⟨cs,hV,d2⟩:=el (X.rdl 0 (hG0.rdl qz hZ) rfl) a1;obtain rfl:=hV;refine aM aD1 (d2 0 _ rfl) J (λU J=>?_) rfl;refine x_m J rfl λU J=>eP G J (uI rfl (J.ev rfl) (J.ev rfl) (by decide)) rfl λf3 _ U J G=>x_l G J rfl λf4 _ U J G=>x_m J rfl λU J=>wpList_nil (c5 _ _ ?_);refine c4 _ _ (aD ?_);refine x_l G J rfl λf5 _ U J G=>x_m J rfl λU J=>wpList_nil ?_;cases G;exact⟨_,b5 _ rfl,J.sub _ rfl,X⟩
 cases G;exact wp_exit (a9 N (b6 _ rfl) U w (J.sub _ rfl) X)
theorem aDh {a0 A0 n0 c0 y} (G:tT a0=some y) (X:SH r (L) w) (ha0:RdL L (kI .u8) A0 n0 c0 a0) :
  Ret Tryz.prog 92 #[.slice A0 n0 c0] w λv w'=>v=.int .u32 y/\SH r (L) w':=by
 refine enter Tryz.func92 rfl Tryz.ntmps92 [(0,_)] rfl (by simp) ?_;intro U J Qf hQ hQn;unfold tT at G;refine nz 1 J rfl λU J=>wp_seq_k λd6 b7=>bZ [0,1,3,7,0,16,48,112,240,511,0,1024,3072,7168,15360,32767,0,65536,196608,458752,983040,2097151,4194303] [] rfl J X (by kernel_rfl) (by kernel_rfl) (by kernel_rfl) (by kernel_rfl) λw X=>?_;obtain⟨z,C,G⟩:=bnd G;obtain⟨cs,hV,b8⟩:=el (X.rdl 0 ha0 rfl) C;obtain rfl:=hV;obtain⟨I,b9,G⟩:=gQ G;obtain⟨N,S,G⟩:=bnd G;obtain⟨cs,hV,c4⟩:=el (X.rdl 0 ha0 rfl) S;obtain rfl:=hV;obtain⟨Y,c5,G⟩:=gQ G;obtain⟨a1,c6,G⟩:=gQ G;obtain⟨a3,c7,G⟩:=gQ G;obtain⟨a4,a5,G⟩:=bnd G;obtain⟨cs,hV,c8⟩:=el (X.rdl 0 ha0 rfl) a5;obtain rfl:=hV;obtain⟨a6,c9,G⟩:=gQ G;obtain⟨a7,d0,G⟩:=gQ G;obtain⟨a8,d1,G⟩:=gQ G;obtain⟨a9,b3,G⟩:=bnd G;obtain⟨cs,hV,d2⟩:=el (X.rdl 0 ha0 rfl) b3;obtain rfl:=hV;obtain⟨b4,d3,G⟩:=gQ G;obtain⟨b5,d4,G⟩:=gQ G;obtain⟨b6,d5,G⟩:=gQ G;refine⟨[(0,.slice A0 n0 c0),(1,.pointer (some (ea A0 ((0:Int).toNat * 1)))),(2,.int .u8 z),(3,.int .u32 I),(4,.slice A0 n0 c0),(5,.pointer (some (ea A0 ((1:Int).toNat * 1)))),(6,.int .u8 N),(7,.int .u32 Y),(8,.int .u32 a1),(9,.int .u32 a3),(10,.slice A0 n0 c0),(11,.pointer (some (ea A0 ((2:Int).toNat * 1)))),(12,.int .u8 a4),(13,.int .u32 a6),(14,.int .u32 a7),(15,.int .u32 a8),(16,.slice A0 n0 c0),(17,.pointer (some (ea A0 ((3:Int).toNat * 1)))),(18,.int .u8 a9),(19,.int .u32 b4),(20,.int .u32 b5),(21,.int .u32 b6),(22,.int .u32 b6)],?_⟩;refine dU [0,1,2,3,4,5,6,7,8,9,10,11,12,13,14,15,16,17,18,19,20,21,22] (by kernel_rfl) ⟨pm rfl,pt [(3,.slice A0 n0 c0)] rfl (λU J=>eW cL sz5 (X.rdl 0 ha0 rfl) C J rfl rfl rfl),pt [(4,.pointer (some (ea A0 ((0:Int).toNat * 1))))] rfl (λU J=>aP uu5 (b8 0 _ rfl) J rfl rfl rfl),pt [(5,.int .u8 z)] rfl λU J=>cO b9 (aQ uu5 aD1 rfl (J.ev rfl)),pm rfl,pt [(7,.slice A0 n0 c0)] rfl (λU J=>eW cL sz5 (X.rdl 0 ha0 rfl) S J rfl rfl rfl),pt [(8,.pointer (some (ea A0 ((1:Int).toNat * 1))))] rfl (λU J=>aP uu5 (c4 0 _ rfl) J rfl rfl rfl),pt [(9,.int .u8 N)] rfl λU J=>cO c5 (aQ uu5 aD1 rfl (J.ev rfl)),pt [(10,.int .u32 Y)] rfl λU J=>cO c6 (aDo rfl (J.ev rfl) (J.ev rfl) (by decide)),pt [(6,.int .u32 I),(11,.int .u32 a1)] rfl λU J=>cO c7 (aK8 rfl (J.ev rfl) (J.ev rfl)),pm rfl,pt [(13,.slice A0 n0 c0)] rfl (λU J=>eW cL sz5 (X.rdl 0 ha0 rfl) a5 J rfl rfl rfl),pt [(14,.pointer (some (ea A0 ((2:Int).toNat * 1))))] rfl (λU J=>aP uu5 (c8 0 _ rfl) J rfl rfl rfl),pt [(15,.int .u8 a4)] rfl λU J=>cO c9 (aQ uu5 aD1 rfl (J.ev rfl)),pt [(16,.int .u32 a6)] rfl λU J=>cO d0 (aDo rfl (J.ev rfl) (J.ev rfl) (by decide)),pt [(12,.int .u32 a3),(17,.int .u32 a7)] rfl λU J=>cO d1 (aK8 rfl (J.ev rfl) (J.ev rfl)),pm rfl,pt [(19,.slice A0 n0 c0)] rfl (λU J=>eW cL sz5 (X.rdl 0 ha0 rfl) b3 J rfl rfl rfl),pt [(20,.pointer (some (ea A0 ((3:Int).toNat * 1))))] rfl (λU J=>aP uu5 (d2 0 _ rfl) J rfl rfl rfl),pt [(21,.int .u8 a9)] rfl λU J=>cO d3 (aQ uu5 aD1 rfl (J.ev rfl)),pt [(22,.int .u32 b4)] rfl λU J=>cO d4 (aDo rfl (J.ev rfl) (J.ev rfl) (by decide)),pt [(18,.int .u32 a8),(23,.int .u32 b5)] rfl λU J=>cO d5 (aK8 rfl (J.ev rfl) (J.ev rfl)),pm rfl,trivial⟩ ⟨by kernel_rfl,by kernel_rfl⟩ [(2,_)] rfl (λU J=>?_);cases G;refine b7 _ _ (wp_ret ?_);refine hQ _ _ (lv Tryz.results92 J rfl ?_);exact⟨rfl,X⟩
theorem oA {a0 A0 n0 c0 y} (G:dE a0=some y) (X:SH r (L) w) (ha0:RdL L (kI .u8) A0 n0 c0 a0) :
  Ret Tryz.prog 45 #[.slice A0 n0 c0] w λv w'=>∃ (B0:Option Addr) (m0:Nat) (d0:Nat),v=.slice B0 m0 d0/\SH r (own (kI .u8) 5 B0 m0 d0 y::L) w':=by
 refine enter Tryz.func45 rfl Tryz.ntmps45 [(0,_)] rfl (by simp) ?_;intro U J Qf hQ hQn;unfold dE at G;refine nz 1 J rfl λU J=>wp_seq_k λa4 C=>ws λa5 z=>xk 1 J rfl λU J=>?_;rcases A0 with _ | I
 ·replace G:=aWq (RdL.none_nil ha0 (X.sfx 0)) G;refine x_v (v:=.bool true) J (aEt (p:=none) cL rfl (J.ev rfl) (J.ev rfl)) rfl λU J=>wn (z _ _ ?_);refine c_t (b:=true) rfl J ?_ rfl;refine nz 1 J rfl λU J=>?_;replace X:=SH.nil_own (d:=(kI .u8)) (e:=5) X;cases G;refine wp_ret (hQ _ _ ?_);exact lv Tryz.results45 J rfl ⟨none,0,0,rfl,X⟩
 replace G:=aWp G;refine x_v (v:=.bool false) J (aEt (p:=some I) cL rfl (J.ev rfl) (J.ev rfl)) rfl λU J=>wn (z _ _ ?_);refine c_f (b:=false) rfl J ?_ rfl;refine wp_skip (C _ _ ?_);refine ws λa6 N=>kV (d:=(kI .u8)) (e:=5) (ps:=#[]) (cells:=[]) (xs:=[]) (λw=>by kernel_rfl) rfl rfl J X (λa7 U w X J=>?_) rfl;refine x_m J rfl λU J=>?_;obtain⟨S,G⟩:=aC G;have hr:=X.rdl 1 ha0 rfl;refine lI 0 aE5 cL J X hr.1 hr.2.1 S rfl (λY a1 a3 U w X J=>?_) rfl;rw [List.nil_append] at X;refine x_m J rfl λU J=>wn (N _ _ ?_);cases G;refine wp_ret (hQ _ _ ?_);exact lv Tryz.results45 J rfl ⟨Y,a1,a3,rfl,X⟩
theorem zH {a0 a1 A0 n0 c0 y} (G:sH a0 a1=some y) (X:SH r (L) w) (qz:Nat) (hZ:L[qz]?=some (zone Z wz)) (ha0:Imm Z wz (kI .u8) A0 n0 c0 a0) (hG0:Imm Z wz (kI .u32) (some ⟨0,0,none⟩) 16 16 bX) :
  Ret Tryz.prog 64 #[.slice A0 n0 c0,.int .i64 a1] w λv w'=>∃ (B1:Option Addr) (m1:Nat) (d1:Nat),v=.tuple #[(.int .u8 y.1),(.slice B1 m1 d1),(.int .i64 y.2.2.1),(.int .i64 y.2.2.2)]/\SH r (own (kI .u8) 5 B1 m1 d1 y.2.1::L) w':=by
 refine enter Tryz.func64 rfl Tryz.ntmps64 [(0,_),(1,_)] rfl (by simp) ?_;intro U J Qf hQ hQn;unfold sH at G;refine nz 4 J rfl λU J=>wp_seq_k λh5 d0=>wp_seq_k λd2 d3=>?_;have hj1:∀a7,uO a0 a1 a7=some y->∀U w,FR 60 [] U [(0,.slice A0 n0 c0),(1,.int .i64 a1),(18,.bool a7)]->SH r (L) w->d2 U w:=by
  intro a7 G U w J X;unfold uO at G;refine d3 _ _ (aX J G rfl (λd4 G=>?_) λd4 G=>?_)
  ·refine nz 4 J rfl λU J=>?_;replace X:=SH.nil_own (d:=(kI .u8)) (e:=5) X;cases G;refine wp_ret (hQ _ _ ?_);exact lv4 Tryz.results64 J rfl rfl rfl rfl ⟨none,0,0,rfl,X⟩
  refine wp_skip (d0 _ _ ?_);refine ws λh6 d5=>xk 2 J rfl λU J=>?_;obtain⟨d6,a8,G⟩:=bnd G;obtain⟨C,N,S,d7,z⟩:=aGq ha0 a8;refine x_v (v:=.slice C N S) J (aD7 d7 (lX cL sz5 rfl (J.ev rfl) (J.ev rfl) (oH (X.rdl 0 (ha0.rdl qz hZ) rfl) a8).1 (oH (X.rdl 0 (ha0.rdl qz hZ) rfl) a8).2.2.2.2.2)) rfl λU J=>x_m J rfl λU J=>wn (d5 _ _ ?_);refine wp_seq_k λh7 d8=>ws λh8 d9=>xk 1 J rfl λU J=>aW cL (X.rdl 0 (z.rdl qz hZ) rfl).2.1 J (λU J=>?_) rfl;refine nk 1 J rfl λU J=>d9 _ _ (aX J G rfl (λe1 G=>?_) λe1 G=>?_)
  ·refine nz 4 J rfl λU J=>?_;replace X:=SH.nil_own (d:=(kI .u8)) (e:=5) X;cases G;refine wp_ret (hQ _ _ ?_);exact lv4 Tryz.results64 J rfl rfl rfl rfl ⟨none,0,0,rfl,X⟩
  refine wp_skip (d8 _ _ ?_);refine ws λh9 e2=>xk 1 J rfl λU J=>?_;obtain⟨b4,e3,G⟩:=bnd G;refine x_c bBa J rfl (aDh e3 X (RdL.sfx 0 rfl (z.rdl qz hZ)) :) λv U w hR J=>?_;obtain⟨rfl,X⟩:=hR;refine x_m J rfl λU J=>wn (e2 _ _ ?_);refine wp_seq_k λi0 e4=>wp_seq_k λe5 e6=>?_;have hj2:∀a9,uX a1 d6 b4 a9=some y->∀U w,FR 60 [] U [(1,.int .i64 a1),(8,.slice C N S),(9,.int .u32 b4),(36,.bool a9)]->SH r (L) w->e5 U w:=by
   intro a9 G U w J X;unfold uX at G;refine e6 _ _ (aX J G rfl (λe7 G=>?_) λe7 G=>?_)
   ·refine nz 4 J rfl λU J=>?_;replace X:=SH.nil_own (d:=(kI .u8)) (e:=5) X;cases G;refine wp_ret (hQ _ _ ?_);exact lv4 Tryz.results64 J rfl rfl rfl rfl ⟨none,0,0,rfl,X⟩
   refine wp_skip (e4 _ _ ?_);refine ws λi1 e8=>xk 1 J rfl λU J=>eP G J (aQ aD1 uu3 rfl (J.ev rfl)) rfl λi2 _ U J G=>x_l G J rfl λY _ U J G=>x_m J rfl λU J=>wn (e8 _ _ ?_);refine wp_seq_k λi3 e9=>wp_seq_k λi4 f0=>bZ [0,0,3,7,0,0,48,127,255] [3,7] rfl J X (by kernel_rfl) (by kernel_rfl) (by kernel_rfl) (by kernel_rfl) λw X=>?_;obtain⟨i5,b3,G⟩:=bnd G;obtain⟨f1,f2,f3,f4,f5⟩:=aJ5 z b3;obtain⟨i6,a3,G⟩:=bnd G;obtain⟨f6,f7,f8,b5,f9⟩:=aGq z a3;refine⟨[(0,.slice C N S),(1,.int .i64 Y),(2,.slice f1 f2 f3),(4,.slice C N S),(5,.int .i64 Y),(6,.slice f6 f7 f8)],?_⟩;refine dF [0,1,2,4,5,6] [3] (by kernel_rfl) ⟨pm rfl,pm rfl,pt [(40,_),(41,_)] rfl λU J=>aD7 f4 (oU cL sz5 rfl (J.ev rfl) (J.ev rfl) (oH (X.rdl 0 (z.rdl qz hZ) rfl) b3).2.2.2.2.1 (oH (X.rdl 0 (z.rdl qz hZ) rfl) b3).2.2.1),pm rfl,pm rfl,pt [(44,_),(45,_)] rfl λU J=>aD7 b5 (lX cL sz5 rfl (J.ev rfl) (J.ev rfl) (oH (X.rdl 0 (z.rdl qz hZ) rfl) a3).1 (oH (X.rdl 0 (z.rdl qz hZ) rfl) a3).2.2.2.2.2),trivial⟩ ⟨et [(42,_)] rfl (λU J K hK=>?_),trivial⟩;obtain⟨b6,g0,G⟩:=bnd G;refine eM bBj J (aHo g0 X (qz+0) hZ (RdL.sfx 0 rfl (f5.rdl qz hZ)) hG0 :) (λv w hR=>?_) rfl;obtain⟨rfl,X⟩:=hR;refine hK _ [] _ rfl (dF [4,5,6] [7] (by kernel_rfl) ⟨pm rfl,pm rfl,pt [(44,_),(45,_)] rfl λU J=>aD7 b5 (lX cL sz5 rfl (J.ev rfl) (J.ev rfl) (oH (X.rdl 0 (z.rdl qz hZ) rfl) a3).1 (oH (X.rdl 0 (z.rdl qz hZ) rfl) a3).2.2.2.2.2),trivial⟩ ⟨et [(46,_)] rfl (λU J K hK=>?_),trivial⟩);obtain⟨b7,g1,G⟩:=bnd G;refine eM bBa J (aDh g1 X (RdL.sfx 0 rfl (f9.rdl qz hZ)) :) (λv w hR=>?_) rfl;obtain⟨rfl,X⟩:=hR;refine hK _ [(8,.bool (b6 != b7))] _ rfl (dU [8] (by kernel_rfl) ⟨pt [(43,.int .u32 b6),(47,.int .u32 b7)] rfl (λU J=>yF rfl (J.ev rfl) (J.ev rfl)),trivial⟩ ⟨by kernel_rfl,by kernel_rfl⟩ [(1,_),(8,_),(10,_),(48,_)] rfl (λU J=>?_));refine f0 _ _ (aX J G rfl (λg2 G=>?_) λg2 G=>?_)
   ·refine nz 4 J rfl λU J=>?_;replace X:=SH.nil_own (d:=(kI .u8)) (e:=5) X;cases G;refine wp_ret (hQ _ _ ?_);exact lv4 Tryz.results64 J rfl rfl rfl rfl ⟨none,0,0,rfl,X⟩
   refine wp_skip (e9 _ _ ?_);refine wp_seq_k λi7 g3=>bZ [0,1,3,0,0,24,56,0,0,384,896,127,2175,8191,16383] [6] rfl J X (by kernel_rfl) (by kernel_rfl) (by kernel_rfl) (by kernel_rfl) λw X=>?_;obtain⟨b8,a5,G⟩:=bnd G;obtain⟨cs,hV,g4⟩:=el (X.rdl 0 (z.rdl qz hZ) rfl) a5;obtain rfl:=hV;obtain⟨i8,a6,G⟩:=bnd G;obtain⟨g5,g6,g7,g8,g9⟩:=aLf z a6;obtain⟨b9,c4,G⟩:=gQ G;obtain⟨c5,c6,G⟩:=gQ G;refine⟨[(0,.slice C N S),(1,.pointer (some (ea C ((4:Int).toNat * 1)))),(2,.int .u8 b8),(3,.slice C N S),(4,.int .i64 Y),(5,.slice g5 g6 g7),(7,.int .i64 a1),(8,.int .i64 Y),(9,.int .i64 b9),(10,.int .i64 c5)],?_⟩;refine dF [0,1,2,3,4,5,7,8,9,10] [6] (by kernel_rfl) ⟨pm rfl,pt [(49,_)] rfl (λU J=>eW cL sz5 (X.rdl 0 (z.rdl qz hZ) rfl) a5 J rfl rfl rfl),pt [(50,_)] rfl (λU J=>aP uu5 (g4 0 _ rfl) J rfl rfl rfl),pm rfl,pm rfl,pt [(52,_),(53,_)] rfl λU J=>aD7 g8 (aA3 cL sz5 rfl (J.ev rfl) (J.ev rfl) (J.ev rfl) (oH (X.rdl 0 (z.rdl qz hZ) rfl) a6).1 (oH (X.rdl 0 (z.rdl qz hZ) rfl) a6).2.1 (oH (X.rdl 0 (z.rdl qz hZ) rfl) a6).2.2.1),pm rfl,pm rfl,pt [(56,_),(57,_)] rfl λU J=>cO c4 (kT rfl (J.ev rfl) (J.ev rfl)),pt [(58,_)] rfl λU J=>cO c6 (kT rfl (J.ev rfl) (J.ev rfl)),trivial⟩ ⟨et [(54,_)] rfl (λU J K hK=>?_),trivial⟩;obtain⟨i9,h1,G⟩:=bnd G;refine eM aZb J (oA h1 X (RdL.sfx 0 rfl (g9.rdl qz hZ)) :) (λv w hR=>?_) rfl;obtain⟨c7,c8,c9,rfl,X⟩:=hR;obtain⟨cs,hV,h2⟩:=el (X.rdl 1 (z.rdl qz hZ) rfl) a5;obtain rfl:=hV;refine hK _ [(11,.int .u8 b8),(12,.slice c7 c8 c9),(13,.int .i64 c5),(14,.int .i64 0)] _ rfl (dU [0,1,2,7,8,9,10,11,12,13,14] (by kernel_rfl) ⟨pm rfl,pt [(49,.slice C N S)] rfl (λU J=>eW cL sz5 (X.rdl 1 (z.rdl qz hZ) rfl) a5 J rfl rfl rfl),pt [(50,.pointer (some (ea C ((4:Int).toNat * 1))))] rfl (λU J=>aP uu5 (h2 0 _ rfl) J rfl rfl rfl),pm rfl,pm rfl,pt [(56,.int .i64 a1),(57,.int .i64 Y)] rfl λU J=>cO c4 (kT rfl (J.ev rfl) (J.ev rfl)),pt [(58,.int .i64 b9)] rfl λU J=>cO c6 (kT rfl (J.ev rfl) (J.ev rfl)),pm rfl,pm rfl,pm rfl,pm rfl,trivial⟩ ⟨by kernel_rfl,by kernel_rfl⟩ [(4,_),(5,_),(6,_),(7,_)] rfl (λU J=>?_));cases G;refine g3 _ _ (wp_ret ?_);refine hQ _ _ (lv4 Tryz.results64 J rfl rfl rfl rfl ?_);exact⟨c7,c8,c9,rfl,X⟩
  refine aD (xk 3 J rfl λU J=>?_);refine bcG G (λI G=>?_) λI G=>?_
  ·exact ng 7 I J rfl rfl λU J=>hj2 true G U w (J.sub _ rfl) X
  refine xg 1 I J rfl rfl λU J=>aN I J ?_ rfl;refine eP G J (aQ aD1 uu3 rfl (J.ev rfl)) rfl λh3 _ U J G=>xg 1 I J rfl rfl λU J=>aN I J ?_ rfl;refine aW cL (X.rdl 0 (z.rdl qz hZ) rfl).2.1 J (λU J=>?_) rfl;refine aN I J ?_ rfl;exact x_l G J rfl λh4 _ U J G=>ng 2 I J rfl rfl λU J=>hj2 (decide (h4<h3)) G U w (J.sub _ rfl) X
 refine aD (xk 3 J rfl λU J=>?_);refine bcG G (λa4 G=>?_) λa4 G=>?_
 ·exact ng 5 a4 J rfl rfl λU J=>hj1 true G U w (J.sub _ rfl) X
 refine xg 2 a4 J rfl rfl λU J=>aN a4 J ?_ rfl;refine aW cL (X.rdl 0 (ha0.rdl qz hZ) rfl).2.1 J (λU J=>?_) rfl;exact ng 2 a4 J rfl rfl λU J=>hj1 (decide ((a0.length:Int)<a1)) G U w (J.sub _ rfl) X
end
noncomputable section
set_option linter.unusedSimpArgs false
def xW (a0:Int):Option ((List Int)) :=
  ltt (IntKind.u8.wrap a0) λz=>(ltt (pH .u32 a0 8) λC=>(ltt (IntKind.u8.wrap C) λG=>(ltt (pH .u32 a0 16) λI=>(ltt (IntKind.u8.wrap I) λJ=>(ltt (pH .u32 a0 24) λN=>(ltt (IntKind.u8.wrap N) λS=>(some [z,G,J,S])))))))
def wL (a0:(List Int)) (a1:Int) (a2:(List Int)):Option ((List Int)) :=
  ltt (IntKind.u32.wrap (a2.length:Int)) λG=>((xW G).bind λz=>(chk (z.length+[a1].length<=140737488355328 / 1) (chk ((z++[a1]).length+a2.length<=140737488355328 / 1) (chk (a0.length+((z++[a1])++a2).length<=140737488355328 / 1) ((zY ((z++[a1])++a2)).bind λI=>((xW I).bind λC=>(chk ((a0++((z++[a1])++a2)).length+C.length<=140737488355328 / 1) (some ((a0++((z++[a1])++a2))++C)))))))))
end
section
variable {r:World} {L:List HP} {w:World} {Z:Nat->Prop} {wz:World}
theorem aFo {a0 y} (G:xW a0=some y) (X:SH r (L) w) :
  Ret Tryz.prog 88 #[.int .u32 a0] w λv w'=>∃ (B0:Option Addr) (m0:Nat) (d0:Nat),v=.slice B0 m0 d0/\SH r (own (kI .u8) 5 B0 m0 d0 y::L) w':=by
 refine enter Tryz.func88 rfl Tryz.ntmps88 [(0,_)] rfl (by simp) ?_;intro U J Qf hQ hQn;unfold xW at G;refine nz 1 J rfl λU J=>ws λa1 S=>xk 1 J rfl λU J=>eP G J (aQ aD1 uu5 rfl (J.ev rfl)) rfl λz _ U J G=>x_m J rfl λU J=>eP G J (uI rfl (J.ev rfl) (J.ev rfl) (by decide)) rfl λa3 _ U J G=>eP G J (aQ aD1 uu5 rfl (J.ev rfl)) rfl λC _ U J G=>x_m J rfl λU J=>eP G J (uI rfl (J.ev rfl) (J.ev rfl) (by decide)) rfl λa4 _ U J G=>eP G J (aQ aD1 uu5 rfl (J.ev rfl)) rfl λI _ U J G=>x_m J rfl λU J=>eP G J (uI rfl (J.ev rfl) (J.ev rfl) (by decide)) rfl λa5 _ U J G=>eP G J (aQ aD1 uu5 rfl (J.ev rfl)) rfl λN _ U J G=>kV (d:=(kI .u8)) (e:=5) (ps:=#[(0,.int .u8 z),(1,.int .u8 C),(2,.int .u8 I),(3,.int .u8 N)]) (cells:=[.int .u8 z,.int .u8 C,.int .u8 I,.int .u8 N]) (xs:=[z,C,I,N]) (λw=>by kernel_rfl) rfl ⟨[.int .u8 z],_,rfl,rfl,⟨[.int .u8 C],_,rfl,rfl,⟨[.int .u8 I],_,rfl,rfl,⟨[.int .u8 N],_,rfl,rfl,rfl⟩⟩⟩⟩ J X (λY U w X J=>?_) rfl;refine x_m J rfl λU J=>wn (S _ _ ?_);cases G;refine wp_ret (hQ _ _ ?_);exact lv Tryz.results88 J rfl ⟨some ⟨Y,0,none⟩,4,4,rfl,X⟩
theorem aA2 {a0 a1 a2 A0 n0 c0 A2 n2 c2 y} (G:wL a0 a1 a2=some y) (X:SH r (own (kI .u8) 5 A0 n0 c0 a0::L) w) (qz:Nat) (hZ:L[qz]?=some (zone Z wz)) (ha2:RdL L (kI .u8) A2 n2 c2 a2) (hG0:Imm Z wz (kI .u32) (some ⟨0,0,none⟩) 16 16 bX) :
  Ret Tryz.prog 61 #[.slice A0 n0 c0,.int .u8 a1,.slice A2 n2 c2] w λv w'=>∃ (B0:Option Addr) (m0:Nat) (d0:Nat),v=.slice B0 m0 d0/\SH r (own (kI .u8) 5 B0 m0 d0 y::L) w':=by
 refine enter Tryz.func61 rfl Tryz.ntmps61 [(0,_),(1,_),(2,_)] rfl (by simp) ?_;intro U J Qf hQ hQn;unfold wL at G;refine nz 1 J rfl λU J=>ws λa9 z=>xk 1 J rfl λU J=>aW cL (X.rdl 1 ha2 rfl).2.1 J (λU J=>?_) rfl;refine eP G J (aQ uu3 aD1 rfl (J.ev rfl)) rfl λb3 _ U J G=>?_;obtain⟨b4,C,G⟩:=bnd G;refine x_c bAo J rfl (aFo C X :) λv U w hR J=>?_;obtain⟨b5,b6,b7,rfl,X⟩:=hR;refine x_m J rfl λU J=>kV (d:=(kI .u8)) (e:=5) (ps:=#[(0,.int .u8 a1)]) (cells:=[.int .u8 a1]) (xs:=[a1]) (λw=>by kernel_rfl) rfl ⟨[.int .u8 a1],_,rfl,rfl,rfl⟩ J X (λb8 U w X J=>?_) rfl;obtain⟨I,G⟩:=aC G;have hr:=X.rd 0 rfl;refine lI 1 aE5 cL J X hr.1 hr.2.1 I rfl (λb9 c4 c5 U w X J=>?_) rfl;refine x_m J rfl λU J=>?_;obtain⟨N,G⟩:=aC G;have hr:=X.rdl 3 ha2 rfl;refine lI 0 aE5 cL J X hr.1 hr.2.1 N rfl (λc6 c7 c8 U w X J=>?_) rfl;refine x_m J rfl λU J=>wn (z _ _ ?_);refine ws λc9 S=>xk 2 J rfl λU J=>?_;obtain⟨Y,G⟩:=aC G;have hr:=X.rd 0 rfl;refine lI 2 aE5 cL J X hr.1 hr.2.1 Y rfl (λd1 d2 d3 U w X J=>?_) rfl;refine x_m J rfl λU J=>?_;obtain⟨d4,a3,G⟩:=bnd G;refine x_c bBj J rfl (aHo a3 X (qz+3) hZ (RdL.own 1 rfl (X.dropN 0)) hG0 :) λv U w hR J=>?_;obtain⟨rfl,X⟩:=hR;obtain⟨d5,a4,G⟩:=bnd G;refine x_c bAo J rfl (aFo a4 X :) λv U w hR J=>?_;obtain⟨d6,d7,d8,rfl,X⟩:=hR;obtain⟨a5,G⟩:=aC G;have hr:=X.rd 0 rfl;refine lI 1 aE5 cL J X hr.1 hr.2.1 a5 rfl (λa6 a7 a8 U w X J=>?_) rfl;refine x_m J rfl λU J=>wn (S _ _ ?_);replace X:=X.drop 1 |>.drop 1 |>.drop 1;cases G;refine wp_ret (hQ _ _ ?_);exact lv Tryz.results61 J rfl ⟨a6,a7,a8,rfl,X⟩
end
noncomputable section
set_option linter.unusedSimpArgs false
def uU (z:(List Int)) (G:Int):Option ((List Int)) :=
  ltt (IntKind.u8.wrap G) λC=>(chk (z.length+[C].length<=140737488355328 / 1) (some (z++[C])))
def rY (z:(List Int)) (C:Int):Option ((List Int)) :=
  uU z C
def mE (C:(List Int)) (z:Int):Option (((List Int)×Int)⊕(((List Int)×Int))) :=
  if (decide (128<=z))=true then (ltt (IntKind.u8.wrap z) λI=>(ltt (ior .u8 I 128) λG=>(chk (C.length+[G].length<=140737488355328 / 1) (ltt (pH .u64 z 7) λJ=>(some (.inl (C++[G],J))))))) else (some (.inr (C,z)))
def fU (a0:(List Int)) (a1:Int):Option ((List Int)) :=
  (loop (λs=>mE s.1 s.2) (a0,a1)).bind λt=>rY t.1 t.2
def lH (a0:(List Int)) (a1:Int):Option ((List Int)) :=
  ltt (wD .i64 a1 1) λz=>(ltt (IntKind.u64.wrap z) λC=>(ltt (pH .i64 a1 63) λG=>(ltt (IntKind.u64.wrap G) λI=>(ltt (zW .u64 C I) λJ=>((fU a0 J).bind λN=>(some N))))))
def nL (a0:(List Int)) (a1:(List UInt8)):Option ((List Int)) :=
  ltt (IntKind.u64.wrap (a1.length:Int)) λC=>((fU a0 C).bind λz=>(chk (z.length+a1.length<=140737488355328 / 1) (some (z++stb a1))))
def nA (z:Int):Option (Int) :=
  some z
def lK (z:Int):Option (Int) :=
  nA z
def dB (a0:(List Int)) (z:Int) (C:Int):Option ((Int×Int)⊕((Int))) :=
  if (decide (C<(a0.length:Int)))=true then ((at_ a0 C).bind λG=>(ltt (IntKind.i64.wrap (C+1)) λI=>(some (.inl (if G<z then G else z,I))))) else (some (.inr (z)))
def iS (a0:(List Int)):Option (Int) :=
  if (decide ((a0.length:Int)<1))=true then (none) else ((at_ a0 0).bind λz=>((loop (λs=>dB a0 s.1 s.2) (z,1)).bind λt=>lK t))
def qQ (z:Int) (C:Int):Option (Int) :=
  ltt (IntKind.u8.wrap z) λG=>((at_ ([0,1,2,2,3,3,3,3,4,4,4,4,4,4,4,4,5,5,5,5,5,5,5,5,5,5,5,5,5,5,5,5,6,6,6,6,6,6,6,6,6,6,6,6,6,6,6,6,6,6,6,6,6,6,6,6,6,6,6,6,6,6,6,6,7,7,7,7,7,7,7,7,7,7,7,7,7,7,7,7,7,7,7,7,7,7,7,7,7,7,7,7,7,7,7,7,7,7,7,7,7,7,7,7,7,7,7,7,7,7,7,7,7,7,7,7,7,7,7,7,7,7,7,7,7,7,7,7,8,8,8,8,8,8,8,8,8,8,8,8,8,8,8,8,8,8,8,8,8,8,8,8,8,8,8,8,8,8,8,8,8,8,8,8,8,8,8,8,8,8,8,8,8,8,8,8,8,8,8,8,8,8,8,8,8,8,8,8,8,8,8,8,8,8,8,8,8,8,8,8,8,8,8,8,8,8,8,8,8,8,8,8,8,8,8,8,8,8,8,8,8,8,8,8,8,8,8,8,8,8,8,8,8,8,8,8,8,8,8,8,8,8,8,8,8,8,8,8,8,8,8,8,8,8,8,8]:List UInt8) G).bind λI=>(ltt (IntKind.i64.wrap (I.toNat:Int)) λJ=>(ltt (IntKind.i64.wrap (C+J)) λN=>(some N))))
def qK (z:Int) (C:Int):Option (Int) :=
  if (decide (256<=z))=true then (ltt (pH .u64 z 8) λG=>(ltt (IntKind.i64.wrap (C+8)) λI=>(qQ G I))) else (qQ z C)
def qO (z:Int) (C:Int):Option (Int) :=
  if (decide (65536<=z))=true then (ltt (pH .u64 z 16) λG=>(ltt (IntKind.i64.wrap (C+16)) λI=>(qK G I))) else (qK z C)
def xY (a0:Int):Option (Int) :=
  if (decide (4294967296<=a0))=true then (ltt (pH .u64 a0 32) λz=>(qO z 32)) else (qO a0 0)
def uT (z:((List Int))) (C:Int) (G:(List Int)):Option ((List Int)) :=
  chk ((z++[C]).length+G.length<=140737488355328 / 1) (some ((z++[C])++G))
def rW (z:((List Int))) (C:Int) (G:(List Int)):Option ((List Int)) :=
  uT z C G
def uN (z:Int) (C:Int) (G:(List Int)):Option ((Int×(List Int)×Int)⊕(((List Int)))) :=
  ltt (IntKind.i64.wrap (z+1)) λI=>(some (.inl (C,G,I)))
def sL (z:Int) (C:Int) (G:(List Int)):Option ((Int×(List Int)×Int)⊕(((List Int)))) :=
  uN z C G
def iU (N:(Int)) (S:Int) (U:Int) (z:Int) (G:(List Int)) (C:Int):Option ((Int×(List Int)×Int)⊕((Int×(List Int)))) :=
  if (decide (C<S))=true then (ltt (IntKind.i64.wrap (z.tdiv 8)) λI=>((at_ G I).bind λX=>(ltt (IntKind.i64.wrap (U - N)) λY=>(ltt (IntKind.u64.wrap Y) λa0=>(chk (0<=C) (ltt (pH .u64 a0 C) λa1=>(ltt (aAv .u64 a1 1) λa3=>(ltt (IntKind.u8.wrap a3) λa4=>(ltt (z.tmod 8) λJ=>(chk (0<=J) (ltt (wD .u8 a4 J) λa5=>(ltt (ior .u8 X a5) λa6=>(ltt (IntKind.i64.wrap (z+1)) λa7=>(ltt (IntKind.i64.wrap (C+1)) λa8=>(some (.inl (a7,G.set I.toNat a6,a8))))))))))))))))) else (some (.inr (z,G)))
def iV (a1:(List Int)) (G:(Int)) (I:Int) (J:Int) (C:(List Int)) (z:Int):Option ((Int×(List Int)×Int)⊕(((List Int)))) :=
  if (decide (z<(a1.length:Int)))=true then ((at_ a1 z).bind λN=>((loop (λs=>iU G I N s.1 s.2.1 s.2.2) (J,C,0)).bind λt=>sL z t.1 t.2)) else (some (.inr (C)))
def uK (a0:(List Int)) (a1:(List Int)) (G:(Int)) (z:Int):Option ((List Int)) :=
  (lH a0 G).bind λI=>(ltt (IntKind.u8.wrap z) λJ=>(chk (I.length+[J].length<=140737488355328 / 1) (ltt (IntKind.i64.wrap ((a1.length:Int) * z)) λN=>(ltt (IntKind.i64.wrap (N+7)) λS=>(ltt (IntKind.i64.wrap (S.tdiv 8)) λC=>(chk (0<=C/\(1:Int) * C<=140737488355328) ((loop (λs=>iV a1 G z s.1 s.2.1 s.2.2) (0,List.replicate C.toNat (0:Int),0)).bind λt=>rW I J t)))))))
def rT (a0:(List Int)) (a1:(List Int)) (z:(Int)) (C:Int):Option ((List Int)) :=
  uK a0 a1 z C
def iT (a1:(List Int)) (I:(Int)) (z:Int) (C:Int):Option ((Int×Int)⊕((Int))) :=
  if (decide (C<(a1.length:Int)))=true then ((at_ a1 C).bind λJ=>(ltt (IntKind.i64.wrap (J - I)) λN=>(ltt (IntKind.u64.wrap N) λS=>((xY S).bind λG=>(ltt (IntKind.i64.wrap (C+1)) λU=>(some (.inl (if z<G then G else z,U)))))))) else (some (.inr (z)))
def tW (a0:(List Int)) (a1:(List Int)):Option ((List Int)) :=
  if ((a1.length:Int)==0)=true then (some a0) else ((iS a1).bind λz=>((loop (λs=>iT a1 z s.1 s.2) (0,0)).bind λt=>rT a0 a1 z t))
def iZ (z:(List Int)):Option ((List Int)) :=
  some z
def xB (z:(List Int)):Option ((List Int)) :=
  iZ z
def uY (z:(List Int)):Option ((List Int)) :=
  xB z
def lS (a1:(List Int)) (C:(List Int)) (z:Int):Option (((List Int)×Int)⊕(((List Int)))) :=
  if (decide (z<(a1.length:Int)))=true then ((at_ a1 z).bind λG=>((lH C G).bind λI=>(ltt (IntKind.i64.wrap (z+1)) λJ=>(some (.inl (I,J)))))) else (some (.inr (C)))
def xL (z:(List Int)):Option ((List Int)) :=
  iZ z
def uH (z:(List Int)):Option ((List Int)) :=
  xL z
def lL (a1:(List Int)) (C:(List Int)) (I:Int) (z:Int):Option (((List Int)×Int×Int)⊕(((List Int)))) :=
  if (decide (z<(a1.length:Int)))=true then ((at_ a1 z).bind λG=>(ltt (IntKind.i64.wrap (G - I)) λJ=>((lH C J).bind λN=>(ltt (IntKind.i64.wrap (z+1)) λS=>(some (.inl (N,G,S))))))) else (some (.inr (C)))
def xN (z:(List Int)):Option ((List Int)) :=
  iZ z
def vA (z:(List Int)):Option ((List Int)) :=
  xN z
def xI (a1:(List Int)) (G:(List Int)) (z:Int) (C:Int):Option (((List Int)×Int)⊕(((List Int)))) :=
  (at_ a1 z).bind λI=>((lH G I).bind λJ=>(ltt (IntKind.i64.wrap (C - 1)) λN=>(ltt (IntKind.u64.wrap N) λS=>((fU J S).bind λU=>(ltt (IntKind.i64.wrap (z+C)) λX=>(some (.inl (U,X))))))))
def uL (a1:(List Int)) (z:(List Int)) (C:Int) (G:Int):Option (((List Int)×Int)⊕(((List Int)))) :=
  xI a1 z C G
def pO (z:Int) (C:Bool):Option ((Int)⊕((Int))) :=
  if C=true then (ltt (IntKind.i64.wrap (z+1)) λG=>(some (.inl (G)))) else (some (.inr (z)))
def nS (a1:(List Int)) (C:Int) (z:Int):Option ((Int)⊕((Int))) :=
  ltt (IntKind.i64.wrap (C+z)) λG=>(if (decide (G<(a1.length:Int)))=true then ((at_ a1 G).bind λI=>((at_ a1 C).bind λJ=>(pO z (I==J)))) else (pO z false))
def nP (a1:(List Int)) (C:(List Int)) (z:Int):Option (((List Int)×Int)⊕(((List Int)))) :=
  if (decide (z<(a1.length:Int)))=true then ((loop (λs=>nS a1 z s) (1)).bind λt=>uL a1 C z t) else (some (.inr (C)))
def vX (a0:Int) (a1:(List Int)):Option ((List Int)) :=
  ltt (IntKind.u64.wrap (a1.length:Int)) λC=>((fU [a0] C).bind λz=>(if (a0==0)=true then ((loop (λs=>lS a1 s.1 s.2) (z,0)).bind λt=>uY t) else (if (a0==1)=true then ((loop (λs=>lL a1 s.1 s.2.1 s.2.2) (z,0,0)).bind λt=>uH t) else (if (a0==2)=true then ((loop (λs=>nP a1 s.1 s.2) (z,0)).bind λt=>vA t) else (if (a0==3)=true then ((tW z a1).bind λG=>(iZ G)) else (iZ z))))))
def xZ (z:(List Int)):Option ((List Int)) :=
  some z
def vW (z:(List Int)):Option ((List Int)) :=
  xZ z
def rI (z:Int) (C:(List Int)):Option (((List Int)×Int)⊕(((List Int)))) :=
  ltt (IntKind.u8.wrap (z+1)) λG=>(some (.inl (C,G)))
def fV (a0:(List Int)) (C:(List Int)) (z:Int):Option (((List Int)×Int)⊕(((List Int)))) :=
  if (decide (z<=3))=true then ((vX z a0).bind λG=>(if (decide ((G.length:Int)<(C.length:Int)))=true then (rI z G) else (rI z C))) else (some (.inr (C)))
def nF (a0:(List Int)):Option ((List Int)) :=
  (vX 0 a0).bind λz=>((loop (λs=>fV a0 s.1 s.2) (z,1)).bind λt=>vW t)
end
section
variable {r:World} {L:List HP} {w:World} {Z:Nat->Prop} {wz:World}
theorem iN {a0 a1 A0 n0 c0 y} (G:fU a0 a1=some y) (X:SH r (own (kI .u8) 5 A0 n0 c0 a0::L) w) :
  Ret Tryz.prog 59 #[.slice A0 n0 c0,.int .u64 a1] w λv w'=>∃ (B0:Option Addr) (m0:Nat) (d0:Nat),v=.slice B0 m0 d0/\SH r (own (kI .u8) 5 B0 m0 d0 y::L) w':=by
 refine enter Tryz.func59 rfl Tryz.ntmps59 [(0,_),(1,_)] rfl (by simp) ?_;intro U J Qf hQ hQn;unfold fU at G;refine nz 1 J rfl λU J=>wp_seq_k λe6 b8=>aA λb5 b9=>?_;have hb1:∀a7 a8,uU a7 a8=some y->∀a9 b3 b4 U w,FR 20 [] U [(0,.slice a9 b3 b4),(1,.int .u64 a8)]->SH r (own (kI .u8) 5 a9 b3 b4 a7::L) w->b5 U w:=by intro a7 a8 G a9 b3 b4 U w J X;unfold uU at G;refine b9 _ _ (b8 _ _ ?_);refine ws λe7 c4=>xk 2 J rfl λU J=>eP G J (aQ bS uu5 rfl (J.ev rfl)) rfl λI _ U J G=>kV (d:=(kI .u8)) (e:=5) (ps:=#[(0,.int .u8 I)]) (cells:=[.int .u8 I]) (xs:=[I]) (λw=>by kernel_rfl) rfl ⟨[.int .u8 I],_,rfl,rfl,rfl⟩ J X (λe8 U w X J=>?_) rfl;obtain⟨c5,G⟩:=aC G;have hr:=X.rd 0 rfl;refine lI 1 aE5 cL J X hr.1 hr.2.1 c5 rfl (λc6 c7 c8 U w X J=>?_) rfl;refine x_m J rfl λU J=>wn (c4 _ _ ?_);replace X:=X.drop 1;cases G;refine wp_ret (hQ _ _ ?_);exact lv Tryz.results59 J rfl ⟨c6,c7,c8,rfl,X⟩
 obtain⟨c9,d1,G⟩:=bnd G;have d2:∀z C,(z,C)=c9->∀N S Y U w,FR 20 [] U [(0,.slice N S Y),(1,.int .u64 C)]->SH r (own (kI .u8) 5 N S Y z::L) w->b5 U w:=by intro z C ht N S Y U w J X;subst ht;replace G:rY z C=some y:=G;unfold rY at G;exact hb1 z C G N S Y U w (J.sub _ rfl) X
 refine aT d1 (λs U w=>∃a3 a4 a5,FR 20 [] U [(0,.slice a3 a4 a5),(1,.int .u64 s.2)]/\SH r (own (kI .u8) 5 a3 a4 a5 s.1::L) w) ⟨A0,n0,c0,J.sub _ rfl,X⟩ ?_;intro e9 d3 d4 G d5 d6 U w hLab;obtain⟨b6,b7⟩:=d3;replace G:mE b6 b7=some d4:=G;unfold mE at G
 try dsimp only at hLab
 obtain⟨a3,a4,a5,J,X⟩:=hLab;refine wp_seq_k λf0 d7=>nz 2 J rfl λU J=>aX J G rfl (λd8 G=>?_) λd8 G=>?_
 ·refine wp_skip (d7 _ _ ?_);refine wp_seq_k λf1 d9=>aA λf2 e1=>aD (xk 2 J rfl λU J=>?_);refine eP G J (aQ bS uu5 rfl (J.ev rfl)) rfl λf3 _ U J G=>x_l G J rfl λa6 _ U J G=>kV (d:=(kI .u8)) (e:=5) (ps:=#[(0,.int .u8 a6)]) (cells:=[.int .u8 a6]) (xs:=[a6]) (λw=>by kernel_rfl) rfl ⟨[.int .u8 a6],_,rfl,rfl,rfl⟩ J X (λf4 U w X J=>?_) rfl;obtain⟨e2,G⟩:=aC G;have hr:=X.rd 0 rfl;refine lI 1 aE5 cL J X hr.1 hr.2.1 e2 rfl (λe3 e4 e5 U w X J=>?_) rfl;refine x_m J rfl λU J=>wpList_nil (e1 _ _ ?_);refine d9 _ _ (aD ?_);refine x_m J rfl λU J=>eP G J (uI rfl (J.ev rfl) (J.ev rfl) (by decide)) rfl λf5 _ U J G=>x_m J rfl λU J=>wpList_nil ?_;replace X:=X.drop 1;cases G;exact⟨_,d5 _ rfl,e3,e4,e5,J.sub _ rfl,X⟩
 cases G;exact wp_exit (d2 b6 b7 (d6 _ rfl) a3 a4 a5 U w (J.sub _ rfl) X)
theorem nX {a0 a1 A0 n0 c0 y} (G:lH a0 a1=some y) (X:SH r (own (kI .u8) 5 A0 n0 c0 a0::L) w) :
  Ret Tryz.prog 60 #[.slice A0 n0 c0,.int .i64 a1] w λv w'=>∃ (B0:Option Addr) (m0:Nat) (d0:Nat),v=.slice B0 m0 d0/\SH r (own (kI .u8) 5 B0 m0 d0 y::L) w':=by
 refine enter Tryz.func60 rfl Tryz.ntmps60 [(0,_),(1,_)] rfl (by simp) ?_;intro U J Qf hQ hQn;unfold lH at G;refine nz 1 J rfl λU J=>ws λY z=>xk 2 J rfl λU J=>eP G J (aDo rfl (J.ev rfl) (J.ev rfl) (by decide)) rfl λa3 _ U J G=>eP G J (aQ uu2 bS rfl (J.ev rfl)) rfl λa4 _ U J G=>x_m J rfl λU J=>eP G J (uI rfl (J.ev rfl) (J.ev rfl) (by decide)) rfl λa5 _ U J G=>eP G J (aQ uu2 bS rfl (J.ev rfl)) rfl λa6 _ U J G=>x_l G J rfl λa7 _ U J G=>?_;obtain⟨a8,C,G⟩:=bnd G;refine x_c aIo J rfl (iN C X :) λv U w hR J=>?_;obtain⟨I,N,S,rfl,X⟩:=hR;refine x_m J rfl λU J=>wn (z _ _ ?_);cases G;refine wp_ret (hQ _ _ ?_);exact lv Tryz.results60 J rfl ⟨I,N,S,rfl,X⟩
theorem wC {a0 a1 A0 n0 c0 y} (G:nL a0 a1=some y) (X:SH r (own (kI .u8) 5 A0 n0 c0 a0::L) w) :
  Ret Tryz.prog 85 #[.slice A0 n0 c0,str a1] w λv w'=>∃ (B0:Option Addr) (m0:Nat) (d0:Nat),v=.slice B0 m0 d0/\SH r (own (kI .u8) 5 B0 m0 d0 y::L) w':=by
 refine enter Tryz.func85 rfl Tryz.ntmps85 [(0,_),(1,_)] rfl (by simp) ?_;intro U J Qf hQ hQn;unfold nL at G;refine nz 1 J rfl λU J=>ws λa3 z=>xk 2 J rfl λU J=>x_v J (aBx uu9 rfl (J.ev rfl)) rfl λU J=>eP G J (aQ uu3 bS rfl (J.ev rfl)) rfl λa4 _ U J G=>?_;obtain⟨a5,C,G⟩:=bnd G;refine x_c aIo J rfl (iN C X :) λv U w hR J=>?_;obtain⟨a6,a7,a8,rfl,X⟩:=hR;refine x_m J rfl λU J=>?_;obtain⟨I,G⟩:=aC G;refine aUz 0 aE5 cL uu9 J X I rfl (λN S Y U w X J=>?_) rfl;refine x_m J rfl λU J=>wn (z _ _ ?_);cases G;refine wp_ret (hQ _ _ ?_);exact lv Tryz.results85 J rfl ⟨N,S,Y,rfl,X⟩
theorem zP {a0 A0 n0 c0 y} (G:iS a0=some y) (X:SH r (L) w) (ha0:RdL L (kI .i64) A0 n0 c0 a0) :
  Ret Tryz.prog 148 #[.slice A0 n0 c0] w λv w'=>v=.int .i64 y/\SH r (L) w':=by
 refine enter Tryz.func148 rfl Tryz.ntmps148 [(0,_)] rfl (by simp) ?_;intro U J Qf hQ hQn;unfold iS at G;refine nz 1 J rfl λU J=>wp_seq_k λd0 a1=>ws λd1 a3=>xk 1 J rfl λU J=>aW bT (X.rdl 0 ha0 rfl).2.1 J (λU J=>?_) rfl;refine nk 1 J rfl λU J=>a3 _ _ (aX J G rfl (λa4 G=>?_) λa4 G=>?_)
 ·refine aD (x_v J (aPl uu9 rfl rfl (J.ev rfl)) rfl λU J=>?_);cases G
 refine wp_skip (a1 _ _ ?_);refine ws λd2 a5=>xk 1 J rfl λU J=>?_;obtain⟨d3,I,G⟩:=bnd G;refine fK bT sz2 (X.rdl 0 ha0 rfl) I J (λU J=>?_) rfl;obtain⟨cs,hV,a6⟩:=el (X.rdl 0 ha0 rfl) I;obtain rfl:=hV;refine aM uu2 (a6 0 _ rfl) J (λU J=>?_) rfl;refine x_m J rfl λU J=>wn (a5 _ _ ?_);refine wp_seq_k λd4 a7=>nz 1 J rfl λU J=>aA λN a8=>?_;have hb1:∀C,nA C=some y->∀U w,FR 25 [] U [(3,.int .i64 C)]->SH r (L) w->N U w:=by intro C G U w J X;unfold nA at G;refine a8 _ _ (a7 _ _ ?_);refine nz 2 J rfl λU J=>?_;cases G;refine wp_ret (hQ _ _ ?_);exact lv Tryz.results148 J rfl ⟨rfl,X⟩
 obtain⟨a9,b3,G⟩:=bnd G;have b4:∀z,(z)=a9->∀U w,FR 25 [] U [(3,.int .i64 z)]->SH r (L) w->N U w:=by intro z ht U w J X;subst ht;replace G:lK z=some y:=G;unfold lK at G;exact hb1 z G U w (J.sub _ rfl) X
 refine aT b3 (λs U w=>FR 25 [] U [(0,.slice A0 n0 c0),(3,.int .i64 s.1),(4,.int .i64 s.2)]/\SH r (L) w) ⟨J.sub _ rfl,X⟩ ?_;intro d5 b5 b6 G b7 b8 U w hLab;obtain⟨S,b9⟩:=b5;replace G:dB a0 S b9=some b6:=G;unfold dB at G
 try dsimp only at hLab
 obtain⟨J,X⟩:=hLab;refine wp_seq_k λd6 c4=>ws λd7 c5=>xk 2 J rfl λU J=>aW bT (X.rdl 0 ha0 rfl).2.1 J (λU J=>?_) rfl;refine nk 1 J rfl λU J=>c5 _ _ (aX J G rfl (λc6 G=>?_) λc6 G=>?_)
 ·refine wp_skip (c4 _ _ ?_);refine wp_seq_k λd8 c7=>aA λd9 c8=>aD (xk 3 J rfl λU J=>?_);obtain⟨e1,Y,G⟩:=bnd G;refine fK bT sz2 (X.rdl 0 ha0 rfl) Y J (λU J=>?_) rfl;obtain⟨cs,hV,c9⟩:=el (X.rdl 0 ha0 rfl) Y;obtain rfl:=hV;refine aM uu2 (c9 0 _ rfl) J (λU J=>?_) rfl;refine x_v J (aH3 rfl (J.ev rfl) (J.ev rfl)) rfl λU J=>x_m J rfl λU J=>wpList_nil (c8 _ _ ?_);refine c7 _ _ (aD ?_);refine x_m J rfl λU J=>x_l G J rfl λe2 _ U J G=>x_m J rfl λU J=>wpList_nil ?_;cases G;exact⟨_,b7 _ rfl,J.sub _ rfl,X⟩
 cases G;exact wp_exit (b4 S (b8 _ rfl) U w (J.sub _ rfl) X)
theorem aJ9 {a0 y} (G:xY a0=some y) (X:SH r (L) w) :
  Ret Tryz.prog 134 #[.int .u64 a0] w λv w'=>v=.int .i64 y/\SH r (L) w':=by
 refine enter Tryz.func134 rfl Tryz.ntmps134 [(0,_)] rfl (by simp) ?_;intro U J Qf hQ hQn;unfold xY at G;refine nz 1 J rfl λU J=>wp_seq_k λa3 a4=>?_;have hj1:∀z C,qO z C=some y->∀U w,FR 25 [] U [(0,.int .u64 z),(2,.int .i64 C)]->SH r (L) w->a3 U w:=by
  intro z C G U w J X;unfold qO at G;refine a4 _ _ (wp_seq_k λa5 a6=>?_);have hj2:∀I N,qK I N=some y->∀U w,FR 25 [] U [(0,.int .u64 I),(2,.int .i64 N)]->SH r (L) w->a5 U w:=by
   intro I N G U w J X;unfold qK at G;refine a6 _ _ (wp_seq_k λa7 a8=>?_);have hj3:∀S Y,qQ S Y=some y->∀U w,FR 25 [] U [(0,.int .u64 S),(2,.int .i64 Y)]->SH r (L) w->a7 U w:=by intro S Y G U w J X;unfold qQ at G;refine a8 _ _ (ws λc7 a9=>?_);refine xk 2 J rfl λU J=>eP G J (aQ bS uu5 rfl (J.ev rfl)) rfl λc8 _ U J G=>?_;obtain⟨c9,a1,G⟩:=bnd G;refine x_v J (aL7 uu9 rfl (J.ev rfl) (J.ev rfl) (jJ a1).1 (jJ a1).2.2) rfl λU J=>eP G J (aQ uu5 uu3 rfl (J.ev rfl)) rfl λd0 _ U J G=>x_l G J rfl λd1 _ U J G=>x_m J rfl λU J=>wn (a9 _ _ ?_);cases G;refine wp_ret (hQ _ _ ?_);exact lv Tryz.results134 J rfl ⟨rfl,X⟩
   refine nz 2 J rfl λU J=>aX J G rfl (λb3 G=>?_) λb3 G=>?_
   ·refine ws λd2 b4=>xk 1 J rfl λU J=>eP G J (uI rfl (J.ev rfl) (J.ev rfl) (by decide)) rfl λb5 _ U J G=>x_m J rfl λU J=>wn (b4 _ _ ?_);refine aD (x_m J rfl λU J=>?_);exact x_l G J rfl λb6 _ U J G=>x_m J rfl λU J=>wpList_nil (hj3 b5 b6 G U w (J.sub _ rfl) X)
   exact wp_skip (hj3 I N G U w (J.sub _ rfl) X)
  refine nz 2 J rfl λU J=>aX J G rfl (λb7 G=>?_) λb7 G=>?_
  ·refine ws λd3 b8=>xk 1 J rfl λU J=>eP G J (uI rfl (J.ev rfl) (J.ev rfl) (by decide)) rfl λb9 _ U J G=>x_m J rfl λU J=>wn (b8 _ _ ?_);refine aD (x_m J rfl λU J=>?_);exact x_l G J rfl λc0 _ U J G=>x_m J rfl λU J=>wpList_nil (hj2 b9 c0 G U w (J.sub _ rfl) X)
  exact wp_skip (hj2 z C G U w (J.sub _ rfl) X)
 refine nz 2 J rfl λU J=>aX J G rfl (λc4 G=>?_) λc4 G=>?_
 ·refine ws λd4 c5=>xk 1 J rfl λU J=>eP G J (uI rfl (J.ev rfl) (J.ev rfl) (by decide)) rfl λc6 _ U J G=>x_m J rfl λU J=>wn (c5 _ _ ?_);refine aD (x_m J rfl λU J=>?_);exact wpList_nil (hj1 c6 32 G U w (J.sub _ rfl) X)
 exact wp_skip (hj1 a0 0 G U w (J.sub _ rfl) X)
theorem aIl {a0 a1 A0 n0 c0 A1 n1 c1 y} (G:tW a0 a1=some y) (X:SH r (own (kI .u8) 5 A0 n0 c0 a0::L) w) (ha1:RdL L (kI .i64) A1 n1 c1 a1) :
  Ret Tryz.prog 138 #[.slice A0 n0 c0,.slice A1 n1 c1] w λv w'=>∃ (B0:Option Addr) (m0:Nat) (d0:Nat),v=.slice B0 m0 d0/\SH r (own (kI .u8) 5 B0 m0 d0 y::L) w':=by
 refine enter Tryz.func138 rfl Tryz.ntmps138 [(0,_),(1,_)] rfl (by simp) ?_;intro U J Qf hQ hQn;unfold tW at G;refine nz 1 J rfl λU J=>wp_seq_k λm2 d7=>ws λm3 d8=>xk 1 J rfl λU J=>aW bT (X.rdl 1 ha1 rfl).2.1 J (λU J=>?_) rfl;refine nk 1 J rfl λU J=>d8 _ _ (aX J G rfl (λd9 G=>?_) λd9 G=>?_)
 ·refine nz 2 J rfl λU J=>?_;cases G;refine wp_ret (hQ _ _ ?_);exact lv Tryz.results138 J rfl ⟨A0,n0,c0,rfl,X⟩
 refine wp_skip (d7 _ _ ?_);refine ws λm4 e1=>xk 1 J rfl λU J=>?_;obtain⟨I,e2,G⟩:=bnd G;refine x_c aZ9 J rfl (zP e2 X (RdL.sfx 1 rfl ha1) :) λv U w hR J=>?_;obtain⟨rfl,X⟩:=hR;refine x_m J rfl λU J=>wn (e1 _ _ ?_);refine nz 1 J rfl λU J=>wp_seq_k λm5 e3=>ws λm6 e4=>xk 1 J rfl λU J=>aW bT (X.rdl 1 ha1 rfl).2.1 J (λU J=>?_) rfl;refine x_m J rfl λU J=>wn (e4 _ _ ?_);refine aA λc7 e5=>?_;have hb1:∀a4,uK a0 a1 I a4=some y->∀U w,FR 83 [] U [(0,.slice A0 n0 c0),(1,.slice A1 n1 c1),(5,.int .i64 I),(6,.int .i64 a4)]->SH r (own (kI .u8) 5 A0 n0 c0 a0::L) w->c7 U w:=by
  intro a4 G U w J X;unfold uK at G;refine e5 _ _ (e3 _ _ ?_);refine ws λm7 e6=>xk 2 J rfl λU J=>?_;obtain⟨a5,e7,G⟩:=bnd G;refine x_c aMc J rfl (nX e7 X :) λv U w hR J=>?_;obtain⟨m8,m9,n4,rfl,X⟩:=hR;refine x_m J rfl λU J=>eP G J (aQ uu3 uu5 rfl (J.ev rfl)) rfl λN _ U J G=>kV (d:=(kI .u8)) (e:=5) (ps:=#[(0,.int .u8 N)]) (cells:=[.int .u8 N]) (xs:=[N]) (λw=>by kernel_rfl) rfl ⟨[.int .u8 N],_,rfl,rfl,rfl⟩ J X (λn5 U w X J=>?_) rfl;obtain⟨e8,G⟩:=aC G;have hr:=X.rd 0 rfl;refine lI 1 aE5 cL J X hr.1 hr.2.1 e8 rfl (λS Y a3 U w X J=>?_) rfl;refine x_m J rfl λU J=>wn (e6 _ _ ?_);refine nz 1 J rfl λU J=>ws λn6 e9=>xk 1 J rfl λU J=>aW bT (X.rdl 2 ha1 rfl).2.1 J (λU J=>?_) rfl;refine x_m J rfl λU J=>x_l G J rfl λn7 _ U J G=>x_l G J rfl λn8 _ U J G=>eP G J (aMe rfl (J.ev rfl) (J.ev rfl) (by decide)) rfl λz _ U J G=>?_;obtain⟨f0,G⟩:=aC G;refine aOv (d:=(kI .u8)) (bytes:=1) 0 aE5 rfl cL f0 J X (λC U w X J=>?_) rfl;refine x_m J rfl λU J=>wn (e9 _ _ ?_);refine wp_seq_k λn9 f1=>ws λo0 f2=>xk 1 J rfl λU J=>aW bT (X.rdl 3 ha1 rfl).2.1 J (λU J=>?_) rfl;refine x_m J rfl λU J=>wn (f2 _ _ ?_);refine aA λc8 f3=>?_;have hb2:∀b6,uT a5 N b6=some y->∀U w,FR 83 [] U [(0,.slice S Y a3),(10,.slice (some ⟨C,0,none⟩) z.toNat z.toNat)]->SH r (own (kI .u8) 5 S Y a3 (a5++[N])::own (kI .u8) 5 (some ⟨C,0,none⟩) z.toNat z.toNat b6::L) w->c8 U w:=by intro b6 G U w J X;unfold uT at G;refine f3 _ _ (f1 _ _ ?_);refine ws λo1 f4=>xk 2 J rfl λU J=>?_;obtain⟨f5,G⟩:=aC G;have hr:=X.rd 1 rfl;refine lI 0 aE5 cL J X hr.1 hr.2.1 f5 rfl (λf6 f7 f8 U w X J=>?_) rfl;refine x_m J rfl λU J=>wn (f4 _ _ ?_);replace X:=X.drop 1;cases G;refine wp_ret (hQ _ _ ?_);exact lv Tryz.results138 J rfl ⟨f6,f7,f8,rfl,X⟩
  obtain⟨f9,g0,G⟩:=bnd G;have g1:∀a7,(a7)=f9->∀U w,FR 83 [] U [(0,.slice S Y a3),(10,.slice (some ⟨C,0,none⟩) z.toNat z.toNat)]->SH r (own (kI .u8) 5 S Y a3 (a5++[N])::own (kI .u8) 5 (some ⟨C,0,none⟩) z.toNat z.toNat a7::L) w->c8 U w:=by intro a7 ht U w J X;subst ht;replace G:rW a5 N a7=some y:=G;unfold rW at G;exact hb2 a7 G U w (J.sub _ rfl) X
  replace X:=X.drop 2 |>.pk 1;refine aT g0 (λs U w=>FR 83 [] U [(0,.slice S Y a3),(5,.int .i64 I),(6,.int .i64 a4),(9,.int .i64 s.1),(10,.slice (some ⟨C,0,none⟩) z.toNat z.toNat),(48,.slice A1 n1 c1),(49,.int .i64 (a1.length:Int)),(50,.int .i64 s.2.2)]/\SH r (own (kI .u8) 5 S Y a3 (a5++[N])::own (kI .u8) 5 (some ⟨C,0,none⟩) z.toNat z.toNat s.2.1::L) w) ⟨J.sub _ rfl,X⟩ ?_;intro o2 g2 b7 G g3 g4 U w hLab;obtain⟨g5,c9,a6⟩:=g2;replace G:iV a1 I a4 g5 c9 a6=some b7:=G;unfold iV at G
  try dsimp only at hLab
  obtain⟨J,X⟩:=hLab;refine nz 1 J rfl λU J=>wp_seq_k λo3 g6=>aX J G rfl (λg7 G=>?_) λg7 G=>?_
  ·refine wp_skip (g6 _ _ ?_);refine wp_seq_k λo4 g8=>aA λo5 g9=>ws λo6 h1=>?_;obtain⟨b8,d1,G⟩:=bnd G;refine fK bT sz2 (X.rdl 2 ha1 rfl) d1 J (λU J=>?_) rfl;obtain⟨cs,hV,h2⟩:=el (X.rdl 2 ha1 rfl) d1;obtain rfl:=hV;refine aM uu2 (h2 0 _ rfl) J (λU J=>?_) rfl;refine x_m J rfl λU J=>wn (h1 _ _ ?_);refine nz 2 J rfl λU J=>aA λd2 h3=>?_;have hb3:∀b9 c4,uN a6 b9 c4=some b7->∀U w,FR 83 [] U [(0,.slice S Y a3),(5,.int .i64 I),(6,.int .i64 a4),(9,.int .i64 b9),(10,.slice (some ⟨C,0,none⟩) z.toNat z.toNat),(48,.slice A1 n1 c1),(49,.int .i64 (a1.length:Int)),(50,.int .i64 a6)]->SH r (own (kI .u8) 5 S Y a3 (a5++[N])::own (kI .u8) 5 (some ⟨C,0,none⟩) z.toNat z.toNat c4::L) w->d2 U w:=by intro b9 c4 G U w J X;unfold uN at G;refine h3 _ _ (g9 _ _ ?_);refine g8 _ _ (aD ?_);refine x_l G J rfl λo7 _ U J G=>x_m J rfl λU J=>wpList_nil ?_;cases G;exact⟨_,g3 _ rfl,J.sub _ rfl,X⟩
   obtain⟨h4,h5,G⟩:=bnd G;have h6:∀a8 a9,(a8,a9)=h4->∀U w,FR 83 [] U [(0,.slice S Y a3),(5,.int .i64 I),(6,.int .i64 a4),(9,.int .i64 a8),(10,.slice (some ⟨C,0,none⟩) z.toNat z.toNat),(48,.slice A1 n1 c1),(49,.int .i64 (a1.length:Int)),(50,.int .i64 a6)]->SH r (own (kI .u8) 5 S Y a3 (a5++[N])::own (kI .u8) 5 (some ⟨C,0,none⟩) z.toNat z.toNat a9::L) w->d2 U w:=by intro a8 a9 ht U w J X;subst ht;replace G:sL a6 a8 a9=some b7:=G;unfold sL at G;exact hb3 a8 a9 G U w (J.sub _ rfl) X
   refine aT h5 (λs U w=>FR 83 [] U [(0,.slice S Y a3),(5,.int .i64 I),(6,.int .i64 a4),(9,.int .i64 s.1),(10,.slice (some ⟨C,0,none⟩) z.toNat z.toNat),(12,.int .i64 b8),(48,.slice A1 n1 c1),(49,.int .i64 (a1.length:Int)),(50,.int .i64 a6),(54,.int .i64 a4),(55,.int .i64 s.2.2)]/\SH r (own (kI .u8) 5 S Y a3 (a5++[N])::own (kI .u8) 5 (some ⟨C,0,none⟩) z.toNat z.toNat s.2.1::L) w) ⟨J.sub _ rfl,X⟩ ?_;intro o8 h7 h8 G h9 i0 U w hLab;obtain⟨b4,d3,d4⟩:=h7;replace G:iU I a4 b8 b4 d3 d4=some h8:=G;unfold iU at G
   try dsimp only at hLab
   obtain⟨J,X⟩:=hLab;refine nz 1 J rfl λU J=>wp_seq_k λo9 i1=>aX J G rfl (λi2 G=>?_) λi2 G=>?_
   ·refine wp_skip (i1 _ _ ?_);refine wp_seq_k λp0 i3=>aA λp4 i4=>nz 2 J rfl λU J=>wp_seq_k λp5 i5=>bZ [0,0,2,7,15,0,0,96,224,0,992,2016,4064,0,8192,32736,65535,131071,262143] [18] rfl J X (by kernel_rfl) (by kernel_rfl) (by kernel_rfl) (by kernel_rfl) λw X=>?_;obtain⟨c5,i6,G⟩:=gQ G;obtain⟨i7,b5,G⟩:=bnd G;obtain⟨cs,hV,i8⟩:=el (X.rd 1 rfl) b5;obtain rfl:=hV;obtain⟨i9,j0,G⟩:=gQ G;obtain⟨j1,j2,G⟩:=gQ G;obtain⟨j3,G⟩:=aC G;obtain⟨j4,j5,G⟩:=gQ G;obtain⟨j6,j7,G⟩:=gQ G;obtain⟨j8,j9,G⟩:=gQ G;obtain⟨k0,k1,G⟩:=gQ G;obtain⟨k2,G⟩:=aC G;obtain⟨k3,k4,G⟩:=gQ G;obtain⟨c6,k5,G⟩:=gQ G;refine⟨[(0,.slice (some ⟨C,0,none⟩) z.toNat z.toNat),(1,.int .i64 b4),(2,.int .i64 c5),(3,.pointer (some (ea (some ⟨C,0,none⟩) (c5.toNat * 1)))),(4,.int .u8 i7),(5,.int .i64 b8),(6,.int .i64 I),(7,.int .i64 i9),(8,.int .u64 j1),(9,.int .i64 d4),(10,.int .u64 j4),(11,.int .u64 j6),(12,.int .u8 j8),(13,.int .i64 b4),(14,.int .i64 k0),(15,.int .u8 k3),(16,.int .u8 c6),(17,.pointer (some (ea (some ⟨C,0,none⟩) (c5.toNat * 1))))],?_⟩;refine dF [0,1,2,3,4,5,6,7,8,9,10,11,12,13,14,15,16,17] [18] (by kernel_rfl) ⟨pm rfl,pm rfl,pt [(59,_)] rfl λU J=>cO i6 (aMe rfl (J.ev rfl) (J.ev rfl) (by decide)),pt [(58,_),(60,_)] rfl (λU J=>eW cL sz5 (X.rd 1 rfl) b5 J rfl rfl rfl),pt [(61,_)] rfl (λU J=>aP uu5 (i8 0 _ rfl) J rfl rfl rfl),pm rfl,pm rfl,pt [(63,_),(64,_)] rfl λU J=>cO j0 (zG rfl (J.ev rfl) (J.ev rfl)),pt [(65,_)] rfl λU J=>cO j2 (aQ uu2 bS rfl (J.ev rfl)),pm rfl,pt [(66,_),(67,_)] rfl λU J=>cO j5 (uI rfl (J.ev rfl) (J.ev rfl) j3),pt [(68,_)] rfl λU J=>cO j7 (aXb rfl (J.ev rfl) (J.ev rfl)),pt [(69,_)] rfl λU J=>cO j9 (aQ bS uu5 rfl (J.ev rfl)),pm rfl,pt [(71,_)] rfl λU J=>cO k1 (aIh rfl (J.ev rfl) (J.ev rfl) (by decide)),pt [(70,_),(72,_)] rfl λU J=>cO k4 (aDo rfl (J.ev rfl) (J.ev rfl) k2),pt [(62,_),(73,_)] rfl λU J=>cO k5 (aK8 rfl (J.ev rfl) (J.ev rfl)),pt [(58,_),(60,_)] rfl (λU J=>eW cL sz5 (X.rd 1 rfl) b5 J rfl rfl rfl),trivial⟩ ⟨et [(74,_),(75,_)] rfl (λU J K hK=>?_),trivial⟩;refine aMk (z':=c6) (off:=0) (vs:=[.int .u8 c6]) 1 sz5 J X rfl (jJ b5).2.2 (λc h=>by cases h; rfl) (λw X=>?_) rfl rfl rfl rfl rfl rfl;refine hK _ [] _ rfl (dU [] (by kernel_rfl) trivial ⟨by kernel_rfl,by kernel_rfl⟩ [(0,_),(5,_),(6,_),(9,_),(10,_),(12,_),(48,_),(49,_),(50,_),(54,_),(55,_)] rfl (λU J=>?_));refine i5 _ _ (aD ?_);refine x_m J rfl λU J=>x_l G J rfl λp6 _ U J G=>x_m J rfl λU J=>wpList_nil (i4 _ _ ?_);refine i3 _ _ (aD ?_);refine x_l G J rfl λp7 _ U J G=>x_m J rfl λU J=>wpList_nil ?_;replace X:=X.pk 1;cases G;exact⟨_,h9 _ rfl,J.sub _ rfl,X⟩
   cases G;exact wp_exit (h6 b4 d3 (i0 _ rfl) U w (J.sub _ rfl) X)
  cases G;exact wp_exit (g1 c9 (g4 _ rfl) U w (J.sub _ rfl) X)
 obtain⟨k6,k7,G⟩:=bnd G;have k8:∀b3,(b3)=k6->∀U w,FR 83 [] U [(0,.slice A0 n0 c0),(1,.slice A1 n1 c1),(5,.int .i64 I),(6,.int .i64 b3)]->SH r (own (kI .u8) 5 A0 n0 c0 a0::L) w->c7 U w:=by intro b3 ht U w J X;subst ht;replace G:rT a0 a1 I b3=some y:=G;unfold rT at G;exact hb1 b3 G U w (J.sub _ rfl) X
 refine aT k7 (λs U w=>FR 83 [] U [(0,.slice A0 n0 c0),(1,.slice A1 n1 c1),(5,.int .i64 I),(6,.int .i64 s.1),(20,.slice A1 n1 c1),(21,.int .i64 (a1.length:Int)),(22,.int .i64 s.2)]/\SH r (own (kI .u8) 5 A0 n0 c0 a0::L) w) ⟨J.sub _ rfl,X⟩ ?_;intro p8 k9 l0 G l1 l2 U w hLab;obtain⟨d5,l3⟩:=k9;replace G:iT a1 I d5 l3=some l0:=G;unfold iT at G
 try dsimp only at hLab
 obtain⟨J,X⟩:=hLab;refine nz 1 J rfl λU J=>wp_seq_k λp9 l4=>aX J G rfl (λl5 G=>?_) λl5 G=>?_
 ·refine wp_skip (l4 _ _ ?_);refine wp_seq_k λq0 l6=>aA λq1 l7=>ws λq2 l8=>?_;obtain⟨q3,d6,G⟩:=bnd G;refine fK bT sz2 (X.rdl 1 ha1 rfl) d6 J (λU J=>?_) rfl;obtain⟨cs,hV,l9⟩:=el (X.rdl 1 ha1 rfl) d6;obtain rfl:=hV;refine aM uu2 (l9 0 _ rfl) J (λU J=>?_) rfl;refine x_m J rfl λU J=>wn (l8 _ _ ?_);refine aD (xk 3 J rfl λU J=>?_);refine x_l G J rfl λq4 _ U J G=>eP G J (aQ uu2 bS rfl (J.ev rfl)) rfl λq5 _ U J G=>?_;obtain⟨q6,m1,G⟩:=bnd G;refine x_c aZ3 J rfl (aJ9 m1 X :) λv U w hR J=>?_;obtain⟨rfl,X⟩:=hR;refine x_v J (aDw rfl (J.ev rfl) (J.ev rfl)) rfl λU J=>x_m J rfl λU J=>wpList_nil (l7 _ _ ?_);refine l6 _ _ (aD ?_);refine x_l G J rfl λq7 _ U J G=>x_m J rfl λU J=>wpList_nil ?_;cases G;exact⟨_,l1 _ rfl,J.sub _ rfl,X⟩
 cases G;exact wp_exit (k8 d5 (l2 _ rfl) U w (J.sub _ rfl) X)
theorem aFp {a0 a1 A1 n1 c1 y} (G:vX a0 a1=some y) (X:SH r (L) w) (ha1:RdL L (kI .i64) A1 n1 c1 a1) :
  Ret Tryz.prog 122 #[.int .u8 a0,.slice A1 n1 c1] w λv w'=>∃ (B0:Option Addr) (m0:Nat) (d0:Nat),v=.slice B0 m0 d0/\SH r (own (kI .u8) 5 B0 m0 d0 y::L) w':=by
 refine enter Tryz.func122 rfl Tryz.ntmps122 [(0,_),(1,_)] rfl (by simp) ?_;intro U J Qf hQ hQn;unfold vX at G;refine nz 1 J rfl λU J=>ws λq7 g9=>xk 1 J rfl λU J=>kV (d:=(kI .u8)) (e:=5) (ps:=#[(0,.int .u8 a0)]) (cells:=[.int .u8 a0]) (xs:=[a0]) (λw=>by kernel_rfl) rfl ⟨[.int .u8 a0],_,rfl,rfl,rfl⟩ J X (λq8 U w X J=>?_) rfl;refine x_m J rfl λU J=>aW bT (X.rdl 1 ha1 rfl).2.1 J (λU J=>?_) rfl;refine eP G J (aQ uu3 bS rfl (J.ev rfl)) rfl λq9 _ U J G=>?_;obtain⟨h1,h2,G⟩:=bnd G;refine x_c aIo J rfl (iN h2 X :) λv U w hR J=>?_;obtain⟨b4,b5,b6,rfl,X⟩:=hR;refine x_m J rfl λU J=>wn (g9 _ _ ?_);refine wp_seq_k λr0 h3=>nz 1 J rfl λU J=>aA λh4 h5=>?_;have hb1:∀f2,iZ f2=some y->∀b7 b8 b9 U w,FR 93 [] U [(5,.slice b7 b8 b9)]->SH r (own (kI .u8) 5 b7 b8 b9 f2::L) w->h4 U w:=by intro f2 G b7 b8 b9 U w J X;unfold iZ at G;refine h5 _ _ (h3 _ _ ?_);refine nz 2 J rfl λU J=>?_;cases G;refine wp_ret (hQ _ _ ?_);exact lv Tryz.results122 J rfl ⟨b7,b8,b9,rfl,X⟩
 refine nz 2 J rfl λU J=>aX J G rfl (λh6 G=>?_) λh6 G=>?_
 ·refine ws λr1 h7=>xk 1 J rfl λU J=>aW bT (X.rdl 1 ha1 rfl).2.1 J (λU J=>?_) rfl;refine x_m J rfl λU J=>wn (h7 _ _ ?_);refine aA λf7 h8=>?_;have hb2:∀c0,xB c0=some y->∀c4 c5 c6 U w,FR 93 [] U [(5,.slice c4 c5 c6)]->SH r (own (kI .u8) 5 c4 c5 c6 c0::L) w->f7 U w:=by intro c0 G c4 c5 c6 U w J X;unfold xB at G;exact h8 _ _ (hb1 c0 G c4 c5 c6 U w (J.sub _ rfl) X)
  obtain⟨h9,i0,G⟩:=bnd G;have i1:∀a7,(a7)=h9->∀c7 c8 c9 U w,FR 93 [] U [(5,.slice c7 c8 c9)]->SH r (own (kI .u8) 5 c7 c8 c9 a7::L) w->f7 U w:=by intro a7 ht c7 c8 c9 U w J X;subst ht;replace G:uY a7=some y:=G;unfold uY at G;exact hb2 a7 G c7 c8 c9 U w (J.sub _ rfl) X
  refine aT i0 (λs U w=>∃d1 d2 d3,FR 93 [] U [(5,.slice d1 d2 d3),(22,.slice A1 n1 c1),(23,.int .i64 (a1.length:Int)),(24,.int .i64 s.2)]/\SH r (own (kI .u8) 5 d1 d2 d3 s.1::L) w) ⟨b4,b5,b6,J.sub _ rfl,X⟩ ?_;intro r2 i2 i3 G i4 i5 U w hLab;obtain⟨f8,i6⟩:=i2;replace G:lS a1 f8 i6=some i3:=G;unfold lS at G
  try dsimp only at hLab
  obtain⟨d1,d2,d3,J,X⟩:=hLab;refine nz 1 J rfl λU J=>wp_seq_k λr3 i7=>aX J G rfl (λi8 G=>?_) λi8 G=>?_
  ·refine wp_skip (i7 _ _ ?_);refine wp_seq_k λr4 i9=>aA λr5 j0=>ws λr6 j1=>?_;obtain⟨r7,f9,G⟩:=bnd G;refine fK bT sz2 (X.rdl 1 ha1 rfl) f9 J (λU J=>?_) rfl;obtain⟨cs,hV,j2⟩:=el (X.rdl 1 ha1 rfl) f9;obtain rfl:=hV;refine aM uu2 (j2 0 _ rfl) J (λU J=>?_) rfl;refine x_m J rfl λU J=>wn (j1 _ _ ?_);refine aD (xk 2 J rfl λU J=>?_);obtain⟨r8,j3,G⟩:=bnd G;refine x_c aMc J rfl (nX j3 X :) λv U w hR J=>?_;obtain⟨j4,j5,j6,rfl,X⟩:=hR;refine x_m J rfl λU J=>wpList_nil (j0 _ _ ?_);refine i9 _ _ (aD ?_);refine x_l G J rfl λr9 _ U J G=>x_m J rfl λU J=>wpList_nil ?_;cases G;exact⟨_,i4 _ rfl,j4,j5,j6,J.sub _ rfl,X⟩
  cases G;exact wp_exit (i1 f8 (i5 _ rfl) d1 d2 d3 U w (J.sub _ rfl) X)
 refine nz 2 J rfl λU J=>aX J G rfl (λj7 G=>?_) λj7 G=>?_
 ·refine nz 1 J rfl λU J=>ws λs2 j8=>xk 1 J rfl λU J=>aW bT (X.rdl 1 ha1 rfl).2.1 J (λU J=>?_) rfl;refine x_m J rfl λU J=>wn (j8 _ _ ?_);refine aA λg0 j9=>?_;have hb3:∀d4,xL d4=some y->∀d5 d6 d7 U w,FR 93 [] U [(5,.slice d5 d6 d7)]->SH r (own (kI .u8) 5 d5 d6 d7 d4::L) w->g0 U w:=by intro d4 G d5 d6 d7 U w J X;unfold xL at G;exact j9 _ _ (hb1 d4 G d5 d6 d7 U w (J.sub _ rfl) X)
  obtain⟨k0,k1,G⟩:=bnd G;have k2:∀a8,(a8)=k0->∀d8 d9 e1 U w,FR 93 [] U [(5,.slice d8 d9 e1)]->SH r (own (kI .u8) 5 d8 d9 e1 a8::L) w->g0 U w:=by intro a8 ht d8 d9 e1 U w J X;subst ht;replace G:uH a8=some y:=G;unfold uH at G;exact hb3 a8 G d8 d9 e1 U w (J.sub _ rfl) X
  refine aT k1 (λs U w=>∃e2 e3 e4,FR 93 [] U [(5,.slice e2 e3 e4),(8,.int .i64 s.2.1),(34,.slice A1 n1 c1),(35,.int .i64 (a1.length:Int)),(36,.int .i64 s.2.2)]/\SH r (own (kI .u8) 5 e2 e3 e4 s.1::L) w) ⟨b4,b5,b6,J.sub _ rfl,X⟩ ?_;intro s3 k3 k4 G k5 k6 U w hLab;obtain⟨g1,k7,k8⟩:=k3;replace G:lL a1 g1 k7 k8=some k4:=G;unfold lL at G
  try dsimp only at hLab
  obtain⟨e2,e3,e4,J,X⟩:=hLab;refine nz 1 J rfl λU J=>wp_seq_k λs4 k9=>aX J G rfl (λl0 G=>?_) λl0 G=>?_
  ·refine wp_skip (k9 _ _ ?_);refine wp_seq_k λs5 l1=>aA λs6 l2=>ws λs7 l3=>?_;obtain⟨s8,g2,G⟩:=bnd G;refine fK bT sz2 (X.rdl 1 ha1 rfl) g2 J (λU J=>?_) rfl;obtain⟨cs,hV,l4⟩:=el (X.rdl 1 ha1 rfl) g2;obtain rfl:=hV;refine aM uu2 (l4 0 _ rfl) J (λU J=>?_) rfl;refine x_m J rfl λU J=>wn (l3 _ _ ?_);refine ws λs9 l5=>xk 3 J rfl λU J=>x_l G J rfl λt0 _ U J G=>?_;obtain⟨t1,l6,G⟩:=bnd G;refine x_c aMc J rfl (nX l6 X :) λv U w hR J=>?_;obtain⟨l7,l8,l9,rfl,X⟩:=hR;refine x_m J rfl λU J=>wn (l5 _ _ ?_);refine aD (nk 2 J rfl λU J=>?_);refine l2 _ _ (l1 _ _ ?_);refine aD (x_l G J rfl λt3 _ U J G=>?_);refine x_m J rfl λU J=>wpList_nil ?_;cases G;exact⟨_,k5 _ rfl,l7,l8,l9,J.sub _ rfl,X⟩
  cases G;exact wp_exit (k2 g1 (k6 _ rfl) e2 e3 e4 U w (J.sub _ rfl) X)
 refine nz 2 J rfl λU J=>aX J G rfl (λm1 G=>?_) λm1 G=>?_
 ·refine nz 1 J rfl λU J=>aA λg3 m2=>?_;have hb4:∀e5,xN e5=some y->∀e6 e7 e8 U w,FR 93 [] U [(5,.slice e6 e7 e8)]->SH r (own (kI .u8) 5 e6 e7 e8 e5::L) w->g3 U w:=by intro e5 G e6 e7 e8 U w J X;unfold xN at G;exact m2 _ _ (hb1 e5 G e6 e7 e8 U w (J.sub _ rfl) X)
  obtain⟨m3,m4,G⟩:=bnd G;have m5:∀a9,(a9)=m3->∀e9 f0 f1 U w,FR 93 [] U [(5,.slice e9 f0 f1)]->SH r (own (kI .u8) 5 e9 f0 f1 a9::L) w->g3 U w:=by intro a9 ht e9 f0 f1 U w J X;subst ht;replace G:vA a9=some y:=G;unfold vA at G;exact hb4 a9 G e9 f0 f1 U w (J.sub _ rfl) X
  refine aT m4 (λs U w=>∃N S Y,FR 93 [] U [(1,.slice A1 n1 c1),(5,.slice N S Y),(11,.int .i64 s.2)]/\SH r (own (kI .u8) 5 N S Y s.1::L) w) ⟨b4,b5,b6,J.sub _ rfl,X⟩ ?_;intro t4 m6 f3 G m7 m8 U w hLab;obtain⟨a4,I⟩:=m6;replace G:nP a1 a4 I=some f3:=G;unfold nP at G
  try dsimp only at hLab
  obtain⟨N,S,Y,J,X⟩:=hLab;refine wp_seq_k λt5 m9=>ws λt6 n0=>xk 2 J rfl λU J=>aW bT (X.rdl 1 ha1 rfl).2.1 J (λU J=>?_) rfl;refine nk 1 J rfl λU J=>n0 _ _ (aX J G rfl (λn4 G=>?_) λn4 G=>?_)
  ·refine wp_skip (m9 _ _ ?_);refine aA λt7 n5=>nz 1 J rfl λU J=>wp_seq_k λt8 n6=>aA λg4 n7=>?_;have hb5:∀f4,xI a1 a4 I f4=some f3->∀U w,FR 93 [] U [(1,.slice A1 n1 c1),(5,.slice N S Y),(11,.int .i64 I),(12,.int .i64 f4)]->SH r (own (kI .u8) 5 N S Y a4::L) w->g4 U w:=by intro f4 G U w J X;unfold xI at G;refine n7 _ _ (n6 _ _ ?_);refine ws λt9 n8=>xk 3 J rfl λU J=>?_;obtain⟨u0,g5,G⟩:=bnd G;refine fK bT sz2 (X.rdl 1 ha1 rfl) g5 J (λU J=>?_) rfl;obtain⟨cs,hV,n9⟩:=el (X.rdl 1 ha1 rfl) g5;obtain rfl:=hV;refine aM uu2 (n9 0 _ rfl) J (λU J=>?_) rfl;obtain⟨u1,o0,G⟩:=bnd G;refine x_c aMc J rfl (nX o0 X :) λv U w hR J=>?_;obtain⟨u2,u3,u4,rfl,X⟩:=hR;refine x_m J rfl λU J=>x_l G J rfl λu5 _ U J G=>eP G J (aQ uu3 bS rfl (J.ev rfl)) rfl λu6 _ U J G=>?_;obtain⟨u7,o1,G⟩:=bnd G;refine x_c aIo J rfl (iN o1 X :) λv U w hR J=>?_;obtain⟨o2,o3,o4,rfl,X⟩:=hR;refine x_m J rfl λU J=>wn (n8 _ _ ?_);refine aD (xk 2 J rfl λU J=>?_);refine x_l G J rfl λu9 _ U J G=>x_m J rfl λU J=>wpList_nil ?_;cases G;exact n5 _ _ ⟨_,m7 _ rfl,o2,o3,o4,J.sub _ rfl,X⟩
   obtain⟨o5,o6,G⟩:=bnd G;have o7:∀b3,(b3)=o5->∀U w,FR 93 [] U [(1,.slice A1 n1 c1),(5,.slice N S Y),(11,.int .i64 I),(12,.int .i64 b3)]->SH r (own (kI .u8) 5 N S Y a4::L) w->g4 U w:=by intro b3 ht U w J X;subst ht;replace G:uL a1 a4 I b3=some f3:=G;unfold uL at G;exact hb5 b3 G U w (J.sub _ rfl) X
   refine aT o6 (λs U w=>FR 93 [] U [(1,.slice A1 n1 c1),(5,.slice N S Y),(11,.int .i64 I),(12,.int .i64 s)]/\SH r (own (kI .u8) 5 N S Y a4::L) w) ⟨J.sub _ rfl,X⟩ ?_;intro v0 o8 g6 G o9 p0 U w hLab;obtain⟨a3,rfl⟩:∃ q,q=o8:=⟨_,rfl⟩;replace G:nS a1 I a3=some g6:=G;unfold nS at G
   try dsimp only at hLab
   obtain⟨J,X⟩:=hLab;refine wp_seq_k λv1 p4=>wp_seq_k λp5 p6=>?_;have hj1:∀f5,pO a3 f5=some g6->∀U w,FR 93 [] U [(1,.slice A1 n1 c1),(5,.slice N S Y),(11,.int .i64 I),(12,.int .i64 a3),(71,.bool f5)]->SH r (own (kI .u8) 5 N S Y a4::L) w->p5 U w:=by
    intro f5 G U w J X;unfold pO at G;refine p6 _ _ (aX J G rfl (λp7 G=>?_) λp7 G=>?_)
    ·refine wp_skip (p4 _ _ ?_);refine aA λv2 p8=>aD (x_m J rfl λU J=>?_);refine x_l G J rfl λv3 _ U J G=>x_m J rfl λU J=>wpList_nil ?_;cases G;exact p8 _ _ ⟨_,o9 _ rfl,J.sub _ rfl,X⟩
    cases G;exact wp_exit (o7 a3 (p0 _ rfl) U w (J.sub _ rfl) X)
   refine bZ [0,0,3,0,8,31,63,127,127,127,895,2047,4095,127,127,24703,57471,131071,262143] [] rfl J X (by kernel_rfl) (by kernel_rfl) (by kernel_rfl) (by kernel_rfl) λw X=>?_;obtain⟨z,f6,G⟩:=gQ G;refine bcG G (λC G=>?_) λC G=>?_
   ·obtain⟨a5,g7,G⟩:=bnd G;obtain⟨cs,hV,p9⟩:=el (X.rdl 1 ha1 rfl) g7;obtain rfl:=hV;obtain⟨a6,g8,G⟩:=bnd G;obtain⟨cs,hV,q0⟩:=el (X.rdl 1 ha1 rfl) g8;obtain rfl:=hV;refine⟨[(0,.int .i64 I),(1,.int .i64 a3),(2,.int .i64 z),(3,.slice A1 n1 c1),(4,.int .i64 (a1.length:Int)),(5,.bool (decide (z<(a1.length:Int)))),(6,.bool (decide (z<(a1.length:Int)))),(7,.slice A1 n1 c1),(8,.int .i64 I),(9,.int .i64 a3),(10,.int .i64 z),(11,.pointer (some (ea A1 (z.toNat * 1)))),(12,.int .i64 a5),(13,.slice A1 n1 c1),(14,.int .i64 I),(15,.pointer (some (ea A1 (I.toNat * 1)))),(16,.int .i64 a6),(17,.bool (a5==a6)),(18,.bool (a5==a6))],?_⟩;refine dU [0,1,2,3,4,5,6,7,8,9,10,11,12,13,14,15,16,17,18] (by kernel_rfl) ⟨pm rfl,pm rfl,pt [(53,.int .i64 I),(54,.int .i64 a3)] rfl λU J=>cO f6 (kT rfl (J.ev rfl) (J.ev rfl)),pm rfl,pt [(56,.slice A1 n1 c1)] rfl (λU J=>sN bT (X.rdl 1 ha1 rfl).2.1 J rfl rfl),pt [(55,.int .i64 z),(57,.int .i64 (a1.length:Int))] rfl (λU J=>aDi rfl (J.ev rfl) (J.ev rfl)),pm rfl,cB rfl rfl rfl rfl [(1,.slice A1 n1 c1),(59,.bool (decide (z<(a1.length:Int))))] rfl C (λU J=>fH J rfl rfl) rfl,cB rfl rfl rfl rfl [(11,.int .i64 I),(59,.bool (decide (z<(a1.length:Int))))] rfl C (λU J=>fH J rfl rfl) rfl,cB rfl rfl rfl rfl [(12,.int .i64 a3),(59,.bool (decide (z<(a1.length:Int))))] rfl C (λU J=>fH J rfl rfl) rfl,cB rfl rfl rfl rfl [(59,.bool (decide (z<(a1.length:Int)))),(61,.int .i64 I),(62,.int .i64 a3)] rfl C (λU J=>(cO f6 (kT rfl (J.ev rfl) (J.ev rfl)):RunV _ _ _ _ (.int .i64 z))) rfl,cB rfl rfl rfl rfl [(59,.bool (decide (z<(a1.length:Int)))),(60,.slice A1 n1 c1),(63,.int .i64 z)] rfl C (λU J=>eW bT sz2 (X.rdl 1 ha1 rfl) g7 J rfl rfl rfl) rfl,cB rfl rfl rfl rfl [(59,.bool (decide (z<(a1.length:Int)))),(64,.pointer (some (ea A1 (z.toNat * 1))))] rfl C (λU J=>aP uu2 (p9 0 _ rfl) J rfl rfl rfl) rfl,cB rfl rfl rfl rfl [(1,.slice A1 n1 c1),(59,.bool (decide (z<(a1.length:Int))))] rfl C (λU J=>fH J rfl rfl) rfl,cB rfl rfl rfl rfl [(11,.int .i64 I),(59,.bool (decide (z<(a1.length:Int))))] rfl C (λU J=>fH J rfl rfl) rfl,cB rfl rfl rfl rfl [(59,.bool (decide (z<(a1.length:Int)))),(66,.slice A1 n1 c1),(67,.int .i64 I)] rfl C (λU J=>eW bT sz2 (X.rdl 1 ha1 rfl) g8 J rfl rfl rfl) rfl,cB rfl rfl rfl rfl [(59,.bool (decide (z<(a1.length:Int)))),(68,.pointer (some (ea A1 (I.toNat * 1))))] rfl C (λU J=>aP uu2 (q0 0 _ rfl) J rfl rfl rfl) rfl,cB rfl rfl rfl rfl [(59,.bool (decide (z<(a1.length:Int)))),(65,.int .i64 a5),(69,.int .i64 a6)] rfl C (λU J=>yZ rfl (J.ev rfl) (J.ev rfl)) rfl,pt [(59,.bool (decide (z<(a1.length:Int)))),(70,.bool (a5==a6))] rfl (λU J=>mL C J rfl rfl rfl),trivial⟩ ⟨by kernel_rfl,by kernel_rfl⟩ [(1,_),(5,_),(11,_),(12,_),(60,_),(61,_),(62,_),(63,_),(65,_),(66,_),(67,_),(69,_),(70,_),(71,_)] rfl (λU J=>?_);exact hj1 (a5==a6) G U w (J.sub _ rfl) X
   refine⟨[(0,.int .i64 I),(1,.int .i64 a3),(2,.int .i64 z),(3,.slice A1 n1 c1),(4,.int .i64 (a1.length:Int)),(5,.bool (decide (z<(a1.length:Int)))),(6,.bool (decide (z<(a1.length:Int)))),(7,undef),(8,undef),(9,undef),(10,undef),(11,undef),(12,undef),(13,undef),(14,undef),(15,undef),(16,undef),(17,undef),(18,.bool false)],?_⟩;refine dU [0,1,2,3,4,5,6,7,8,9,10,11,12,13,14,15,16,17,18] (by kernel_rfl) ⟨pm rfl,pm rfl,pt [(53,.int .i64 I),(54,.int .i64 a3)] rfl λU J=>cO f6 (kT rfl (J.ev rfl) (J.ev rfl)),pm rfl,pt [(56,.slice A1 n1 c1)] rfl (λU J=>sN bT (X.rdl 1 ha1 rfl).2.1 J rfl rfl),pt [(55,.int .i64 z),(57,.int .i64 (a1.length:Int))] rfl (λU J=>aDi rfl (J.ev rfl) (J.ev rfl)),pm rfl,bB rfl rfl rfl rfl [(1,.slice A1 n1 c1),(59,.bool (decide (z<(a1.length:Int))))] rfl C rfl,bB rfl rfl rfl rfl [(11,.int .i64 I),(59,.bool (decide (z<(a1.length:Int))))] rfl C rfl,bB rfl rfl rfl rfl [(12,.int .i64 a3),(59,.bool (decide (z<(a1.length:Int))))] rfl C rfl,bB rfl rfl rfl rfl [(59,.bool (decide (z<(a1.length:Int)))),(61,undef),(62,undef)] rfl C rfl,bB rfl rfl rfl rfl [(59,.bool (decide (z<(a1.length:Int)))),(60,undef),(63,undef)] rfl C rfl,bB rfl rfl rfl rfl [(59,.bool (decide (z<(a1.length:Int)))),(64,undef)] rfl C rfl,bB rfl rfl rfl rfl [(1,.slice A1 n1 c1),(59,.bool (decide (z<(a1.length:Int))))] rfl C rfl,bB rfl rfl rfl rfl [(11,.int .i64 I),(59,.bool (decide (z<(a1.length:Int))))] rfl C rfl,bB rfl rfl rfl rfl [(59,.bool (decide (z<(a1.length:Int)))),(66,undef),(67,undef)] rfl C rfl,bB rfl rfl rfl rfl [(59,.bool (decide (z<(a1.length:Int)))),(68,undef)] rfl C rfl,bB rfl rfl rfl rfl [(59,.bool (decide (z<(a1.length:Int)))),(65,undef),(69,undef)] rfl C rfl,pt [(59,.bool (decide (z<(a1.length:Int)))),(70,undef)] rfl (λU J=>nV C J rfl rfl rfl),trivial⟩ ⟨by kernel_rfl,by kernel_rfl⟩ [(1,_),(5,_),(11,_),(12,_),(71,_)] rfl (λU J=>?_);exact hj1 false G U w (J.sub _ rfl) X
  cases G;exact wp_exit (m5 a4 (m8 _ rfl) N S Y U w (J.sub _ rfl) X)
 refine nz 2 J rfl λU J=>aX J G rfl (λq1 G=>?_) λq1 G=>?_
 ·refine aD (xk 2 J rfl λU J=>?_);obtain⟨q2,q3,G⟩:=bnd G;refine x_c bBx J rfl (aIl q3 X (RdL.sfx 0 rfl ha1) :) λv U w hR J=>?_;obtain⟨q4,q5,q6,rfl,X⟩:=hR;exact x_m J rfl λU J=>wpList_nil (hb1 q2 G q4 q5 q6 U w (J.sub _ rfl) X)
 exact wp_skip (hb1 h1 G b4 b5 b6 U w (J.sub _ rfl) X)
theorem sW {a0 A0 n0 c0 y} (G:nF a0=some y) (X:SH r (L) w) (ha0:RdL L (kI .i64) A0 n0 c0 a0) :
  Ret Tryz.prog 103 #[.slice A0 n0 c0] w λv w'=>∃ (B0:Option Addr) (m0:Nat) (d0:Nat),v=.slice B0 m0 d0/\SH r (own (kI .u8) 5 B0 m0 d0 y::L) w':=by
 refine enter Tryz.func103 rfl Tryz.ntmps103 [(0,_)] rfl (by simp) ?_;intro U J Qf hQ hQn;unfold nF at G;refine nz 1 J rfl λU J=>ws λf0 b8=>xk 1 J rfl λU J=>?_;obtain⟨f1,b9,G⟩:=bnd G;refine x_c aXs J rfl (aFp b9 X (RdL.sfx 0 rfl ha0) :) λv U w hR J=>?_;obtain⟨c4,c5,c6,rfl,X⟩:=hR;refine x_m J rfl λU J=>wn (b8 _ _ ?_);refine wp_seq_k λf2 c7=>nz 1 J rfl λU J=>aA λb6 c8=>?_;have hb1:∀a9,xZ a9=some y->∀S Y a1 U w,FR 22 [] U [(3,.slice S Y a1)]->SH r (own (kI .u8) 5 S Y a1 a9::L) w->b6 U w:=by intro a9 G S Y a1 U w J X;unfold xZ at G;refine c8 _ _ (c7 _ _ ?_);refine nz 2 J rfl λU J=>?_;cases G;refine wp_ret (hQ _ _ ?_);exact lv Tryz.results103 J rfl ⟨S,Y,a1,rfl,X⟩
 obtain⟨c9,d1,G⟩:=bnd G;have d2:∀z,(z)=c9->∀a3 a4 a5 U w,FR 22 [] U [(3,.slice a3 a4 a5)]->SH r (own (kI .u8) 5 a3 a4 a5 z::L) w->b6 U w:=by intro z ht a3 a4 a5 U w J X;subst ht;replace G:vW z=some y:=G;unfold vW at G;exact hb1 z G a3 a4 a5 U w (J.sub _ rfl) X
 refine aT d1 (λs U w=>∃C I N,FR 22 [] U [(0,.slice A0 n0 c0),(3,.slice C I N),(4,.int .u8 s.2)]/\SH r (own (kI .u8) 5 C I N s.1::L) w) ⟨c4,c5,c6,J.sub _ rfl,X⟩ ?_;intro f3 d3 b7 G d4 d5 U w hLab;obtain⟨b3,b4⟩:=d3;replace G:fV a0 b3 b4=some b7:=G;unfold fV at G
 try dsimp only at hLab
 obtain⟨C,I,N,J,X⟩:=hLab;refine wp_seq_k λf4 d6=>nz 2 J rfl λU J=>aX J G rfl (λd7 G=>?_) λd7 G=>?_
 ·refine wp_skip (d6 _ _ ?_);refine wp_seq_k λf5 d8=>aA λd9 e1=>?_;have hb2:∀b5,rI b4 b5=some b7->∀a6 a7 a8 U w,FR 22 [] U [(0,.slice A0 n0 c0),(3,.slice a6 a7 a8),(4,.int .u8 b4)]->SH r (own (kI .u8) 5 a6 a7 a8 b5::L) w->d9 U w:=by intro b5 G a6 a7 a8 U w J X;unfold rI at G;refine e1 _ _ (d8 _ _ ?_);refine aD (x_m J rfl λU J=>?_);refine x_l G J rfl λf6 _ U J G=>x_m J rfl λU J=>wpList_nil ?_;cases G;exact⟨_,d4 _ rfl,a6,a7,a8,J.sub _ rfl,X⟩
  refine ws λf7 e2=>xk 2 J rfl λU J=>?_;obtain⟨e3,e4,G⟩:=bnd G;refine x_c aXs J rfl (aFp e4 X (RdL.sfx 1 rfl ha0) :) λv U w hR J=>?_;obtain⟨e5,e6,e7,rfl,X⟩:=hR;refine x_m J rfl λU J=>wn (e2 _ _ ?_);refine ws λf8 e8=>xk 1 J rfl λU J=>aW cL (X.rd 0 rfl).2.1 J (λU J=>?_) rfl;refine x_m J rfl λU J=>aW cL (X.rd 1 rfl).2.1 J (λU J=>?_) rfl;refine nk 1 J rfl λU J=>e8 _ _ (aX J G rfl (λe9 G=>?_) λe9 G=>?_)
  ·refine aD (nk 2 J rfl λU J=>?_);replace X:=X.drop 1;exact hb2 e3 G e5 e6 e7 U w (J.sub _ rfl) X
  replace X:=X.drop 0;exact wp_skip (hb2 b3 G C I N U w (J.sub _ rfl) X)
 cases G;exact wp_exit (d2 b3 (d5 _ rfl) C I N U w (J.sub _ rfl) X)
end
theorem aQ6 {r:World} {L:List HP} {g:Nat} {b:Bool} {w:World} (hS:SH r (blk g 4 [.bool b]::L) w) :
    CallsD Tryz.prog 73 #[.pointer (some ⟨g,0,none⟩)] (.panicking aDd) w λe u' w'=>e=.returned (.tuple #[])/\u'=.panicking [{ v:=.iface 137 (.agg #[]),recovered:=true }]/\SH r (blk g 4 [.bool false]::L) w':=by
  refine callsD_of_wpS Tryz.func73 rfl λc₀ cs hu=>?_;apply wpS_seq;apply wpS_region;simp only [List.size_toArray,List.length_cons,List.length_nil,Nat.zero_add];rw [show List.range (1+1)=[0,1] from rfl];simp [wpOpsS,go_sem,recoverD,hu,aDd,Tryz.ntmps73,Exit.thenS];generalize hac:({ tmps:=_,defers:=_ }:Act)=ac;have hA:FR 15 [] ac [(0,.pointer (some ⟨g,0,none⟩)),(1,.iface 137 (.agg #[]))]:=by
    subst hac;refine⟨by simp,rfl,λt v hv=>?_⟩;simp only [lk] at hv;by_cases e0:t=0
    · subst e0; cases hv; rfl
    by_cases e1:t=1
    · subst e1; cases hv; rfl
    · exfalso
      rw [show Nat.beq 0 t=false by cases h:Nat.beq 0 t; rfl; exact absurd (Nat.eq_of_beq_eq_true h).symm e0,show Nat.beq 1 t=false by cases h:Nat.beq 1 t; rfl; exact absurd (Nat.eq_of_beq_eq_true h).symm e1] at hv;cases hv
  clear hac;refine wpS_of_wp ?_;have fin:∀ (a:Act) (w:World),FR 15 [] a []->SH r (blk g 4 [.bool false]::L) w->bodyPostS Tryz.prog Tryz.f73 c₀ cs (λe u' w'=>e=.returned (.tuple #[])/\u'=.panicking [{ v:=.iface 137 (.agg #[]),recovered:=true }]/\SH r (blk g 4 [.bool false]::L) w') .normal a ({ c₀ with mode:=.panicking [{ v:=.iface 137 (.agg #[]),recovered:=true }] }::cs) w:=by intro a w hA hS;exact⟨hA.defers,_,rfl,_,results_none Tryz.results73 _ _ _,rfl,rfl,hS⟩
  refine wp_seq_k λK1 h1=>?_;refine aD ?_;refine dV hA (λac hA=>?_);refine dY (v:=.bool true) hA (aRc Tryz.underlying20 rfl (hA.ev rfl) (hA.ev rfl)) (λac hA=>?_);refine wpList_nil ?_;refine h1 _ _ ?_;refine c_t (b:=true) rfl hA ?_;refine wp_seq_k λK4 h4=>?_;refine wp_seq_k λK2 h2=>?_;refine aD ?_;refine dV hA (λac hA=>?_);refine dY (v:=.tuple #[.agg #[],.bool true]) hA (aKu Tryz.underlying137 rfl rfl (hA.ev rfl)) (λac hA=>?_);refine dV hA (λac hA=>?_);refine dY hA (tU rfl (hA.ev rfl) rfl) (λac hA=>?_);refine dY hA (tU rfl (hA.ev rfl) rfl) (λac hA=>?_);refine aK0 (cs:=[]) aZ4 hA hS (λg2 ac w hS hA=>?_);refine aP4 (vs:=[]) 0 bAl hA hS rfl (λac w hS hA=>?_);refine eO hA (λac hA=>?_);refine wpList_nil ?_;refine h2 _ _ ?_;refine wp_seq_k λK3 h3=>?_;refine aD ?_;refine dV hA (λac hA=>?_);refine dY hA (aLv rfl (hA.ev rfl)) (λac hA=>?_);refine wpList_nil ?_;refine h3 _ _ ?_;refine c_f (b := !true) rfl hA ?_;refine wp_skip ?_;refine h4 _ _ ?_;refine aD ?_;refine aP4 (vs:=[.bool false]) 1 sz4 hA hS rfl (λac w hS hA=>?_);refine wpList_nil ?_;have hS':=hS.pk 1;exact fin _ _ (hA.sub _ rfl) (hS'.tail)
theorem aNt {g:Nat} {w:World} :
    CallsD Tryz.prog 73 #[.pointer (some ⟨g,0,none⟩)] .returning w λe u' w'=>e=.returned (.tuple #[])/\u'=.returning/\w'=w:=by
  refine callsD_of_wpS Tryz.func73 rfl λc₀ cs hu=>?_;apply wpS_seq;apply wpS_region;simp only [List.size_toArray,List.length_cons,List.length_nil,Nat.zero_add];rw [show List.range (1+1)=[0,1] from rfl];simp [wpOpsS,go_sem,recoverD,hu,Tryz.ntmps73,Exit.thenS];generalize hac:({ tmps:=_,defers:=_ }:Act)=ac;have hA:FR 15 [] ac [(0,.pointer (some ⟨g,0,none⟩)),(1,.nilIface)]:=by
    subst hac;refine⟨by simp,rfl,λt v hv=>?_⟩;simp only [lk] at hv;by_cases e0:t=0
    · subst e0; cases hv; rfl
    by_cases e1:t=1
    · subst e1; cases hv; rfl
    · exfalso
      rw [show Nat.beq 0 t=false by cases h:Nat.beq 0 t; rfl; exact absurd (Nat.eq_of_beq_eq_true h).symm e0,show Nat.beq 1 t=false by cases h:Nat.beq 1 t; rfl; exact absurd (Nat.eq_of_beq_eq_true h).symm e1] at hv;cases hv
  clear hac;refine wpS_of_wp ?_;refine wp_seq_k λK1 h1=>?_;refine aD ?_;refine dV hA (λac hA=>?_);refine dY (v:=.bool false) hA (aQf Tryz.underlying20 rfl (hA.ev rfl)) (λac hA=>?_);refine wpList_nil ?_;refine h1 _ _ ?_;refine c_f (b:=false) rfl hA ?_;refine wp_skip ?_;refine⟨hA.defers,c₀.mode,rfl,_,results_none Tryz.results73 _ _ _,rfl,hu,rfl⟩
theorem aE3 {r:World} {L:List HP} {w:World} {g:Nat} {b:Bool} {a:Act} {n:Nat} {D:List Deferred} {F:List (Nat×Value)} (hA:FR n D a F) (h1:lk F 4=some (.pointer (some ⟨g,0,none⟩))) (hS:SH r (blk g 4 [.bool b]::L) w) :
    (results Tryz.f47 a.tmps).run Tryz.prog w=.ok (.bool b) w:=by
  have e1:a.tmps.getD 4 undef=.pointer (some ⟨g,0,none⟩):=hA.ev (x:=.tmp 4) h1;have e1':a.tmps[4]?.getD undef=.pointer (some ⟨g,0,none⟩):=by rw [← Array.getD_eq_getD_getElem?]; exact e1
  have hc:=hS.cell 0 rfl 0 (.bool b) rfl;have hagg:(isAgg 4).run Tryz.prog w=.ok false w:=by rw [pC Tryz.underlying4]; rfl
  have hld:(loadVar 4 ⟨g,0,none⟩).run Tryz.prog w=.ok (.bool b) w:=by simp [loadVar,hagg,hc]
  simp [results,Tryz.results47,e1',asAddr,hld]
section
variable {r:World} {L:List HP} {w:World} {A:Option Addr} {n c f:Nat} {fs caps:Array Value}
theorem aCd {R:Value->World->Prop} (hf:EN Tryz.prog f) (hS:SH r L w)
    (hret:∀ g g4 w1,SH r (blk g 140 [.slice A n c]::blk g4 4 [.bool false]::L) w1 ->
      (Ret Tryz.prog f (fs++#[.pointer (some ⟨g,0,none⟩)]++caps) w1 λv w2=>∃ L1 A' n' c',SH r (blk g 140 [.slice A' n' c']::blk g4 4 [.bool false]::L1) w2/\∀ w3,SH r L1 w3->R (.bool ((n':Int)==0)) w3) \/
      (Calls Tryz.prog f (fs++#[.pointer (some ⟨g,0,none⟩)]++caps) w1 λe w2=>e=.panicked aDd/\∃ L1,SH r (blk g4 4 [.bool false]::L1) w2/\∀ w3,SH r L1 w3->R (.bool false) w3)) :
    Ret Tryz.prog 47 #[.slice A n c,.func (.func f) fs caps] w R:=by
  refine aX9 Tryz.func47 rfl Tryz.ntmps47 [(0,.slice A n c),(1,.func (.func f) fs caps)] rfl (by simp) ?_;intro ac hA;refine wp_seq_k λK0 h0=>?_;refine aD ?_;refine aK0 (cs:=[.bool false]) zr4 hA hS (λg4 ac w hS hA=>?_);refine wpList_nil ?_;refine h0 _ _ ?_;refine wp_seq_k λK1 h1=>?_;refine aD ?_;refine dY hA (gO rfl (lU (vals:=#[]) hA rfl) (lU (vals:=#[.pointer (some ⟨g4,0,none⟩)]) hA rfl)) (λac hA=>?_);refine aUl (vs:=#[]) hA (λac hA=>?_);refine wpList_nil ?_;refine h1 _ _ ?_;refine wp_seq_k λK2 h2=>?_;refine aD ?_;refine dV hA (λac hA=>?_);refine dY (v:=.agg #[.slice A n c]) hA (jL (ps:=#[(0,.slice A n c)]) rfl (mB hA rfl) (λw=>by kernel_rfl)) (λac hA=>?_);refine aL6 hA hS (λg ac w hS hA=>?_);refine eO hA (λac hA=>?_);refine wpList_nil ?_;refine h2 _ _ ?_;refine wp_seq_k λK3 h3=>?_;refine aD ?_;refine dV hA (λac hA=>?_);refine dV hA (λac hA=>?_);rcases hret g g4 w hS with hr | hp
  · refine aPh (vs:=#[.pointer (some ⟨g,0,none⟩)]) hf hA hr (λv ac w hR hA=>?_)
    obtain⟨L1,A',n',c',hS,hR⟩:=hR;refine wpList_nil ?_;refine h3 _ _ ?_;refine wp_seq_k λK4 h4=>?_;refine aD ?_;refine dV hA (λac hA=>?_);refine dY hA (aK rfl (hA.ev rfl)) (λac hA=>?_);refine aXy rU hA (λac hA=>?_);refine aOh Tryz.underlying23 (hS.cell 0 rfl 0 _ rfl) hA (λac hA=>?_);refine dY hA (aCj Tryz.underlying23 rfl (hA.ev rfl)) (λac hA=>?_);refine dY hA (yZ rfl (hA.ev rfl) (hA.ev rfl)) (λac hA=>?_);refine aP4 (vs:=[.bool ((n':Int)==0)]) 1 sz4 hA hS rfl (λac w hS hA=>?_);refine wpList_nil ?_;refine h4 _ _ ?_;refine wp_ret ?_;show Leaves _ _ _ _ _ _ _;rw [hA.defers];refine leaves_cons (f:=73) (args:=#[.pointer (some ⟨g4,0,none⟩)]) (by simp) (by simp [invoke,(bBq _ _:_=_)]) ?_;refine CallsD.mono aNt ?_;rintro e u' w' ⟨rfl,rfl,rfl⟩;exact⟨_,aE3 hA rfl hS,_,rfl,hR _ (hS.tail.tail)⟩
  · refine aPy (vs:=#[.pointer (some ⟨g,0,none⟩)]) hf hA hp (λw hR=>?_)
    obtain⟨L1,hS,hR⟩:=hR;show Leaves _ _ _ _ _ _ _;rw [hA.defers];refine leaves_cons (f:=73) (args:=#[.pointer (some ⟨g4,0,none⟩)]) (by simp) (by simp [invoke,(bBq _ _:_=_)]) ?_;refine CallsD.mono (aQ6 hS) ?_;rintro e u' w' ⟨rfl,rfl,hS⟩;exact⟨_,aE3 hA rfl hS,_,rfl,hR _ hS.tail⟩
end
noncomputable section
set_option linter.unusedSimpArgs false
def aI (a0:S140) (a1:Bool):Option ((S140)⊕(S140)) :=
  if (!a1)=true then (some (.inr a0)) else (some (.inl a0))
def fS (a0:S140):Option ((Int×S140)⊕(S140)) :=
  (aI a0 (decide (0<(a0.f0.length:Int)))).bind λz=>(fL z (λz=>((at_ z.f0 0).bind λC=>((kX z.f0 1 (z.f0.length:Int)).bind λG=>(some (.inl (C,(⟨G⟩:S140))))))) (λz=>(some (.inr z))))
def jP (z:Int) (C:(List Int)):Option (((List Int)×Int×Int)⊕(((Int×S140)⊕(S140)))) :=
  some (.inr (.inl (z,(⟨C⟩:S140))))
def dW (a1:Int) (X:Int) (N:Int) (S:(Int×S140)) (J:(List Int)):Option (((List Int)×Int×Int)⊕(((Int×S140)⊕(S140)))) :=
  ltt (aAv .u8 S.1 127) λY=>(ltt (IntKind.u64.wrap Y) λa0=>(ltt (IntKind.i64.wrap (7 * N)) λU=>(chk (0<=U) (ltt (wD .u64 a0 U) λa3=>(ltt (ior .u64 X a3) λz=>(if (decide (S.1<128))=true then (if (decide (z<=a1))=true then (if (N==0)=true then ((aI (⟨J⟩:S140) true).bind λC=>(fL C (λC=>(jP z C.f0)) (λC=>(some (.inr (.inr C)))))) else ((aI (⟨J⟩:S140) (decide (0<S.1))).bind λG=>(fL G (λG=>(jP z G.f0)) (λG=>(some (.inr (.inr G))))))) else ((aI (⟨J⟩:S140) false).bind λI=>(fL I (λI=>(jP z I.f0)) (λI=>(some (.inr (.inr I))))))) else (ltt (IntKind.i64.wrap (N+1)) λa4=>(some (.inl (J,z,a4))))))))))
def dZ (a1:Int) (S:(List Int)) (N:Int) (C:Int):Option (((List Int)×Int×Int)⊕(((Int×S140)⊕(S140)))) :=
  (fS (⟨S⟩:S140)).bind λz=>(fL z (λz=>(if (decide (C<9))=true then ((aI z.2 true).bind λG=>(fL G (λG=>(dW a1 N C z G.f0)) (λG=>(some (.inr (.inr G)))))) else (if (C==9)=true then ((aI z.2 (decide (z.1<2))).bind λI=>(fL I (λI=>(dW a1 N C z I.f0)) (λI=>(some (.inr (.inr I)))))) else ((aI z.2 false).bind λJ=>(fL J (λJ=>(dW a1 N C z J.f0)) (λJ=>(some (.inr (.inr J))))))))) (λz=>(some (.inr (.inr z)))))
def bC (a0:S140) (a1:Int):Option ((Int×S140)⊕(S140)) :=
  (loop (λs=>dZ a1 s.1 s.2.1 s.2.2) (a0.f0,0,0)).bind λt=>some t
def cX (a0:S140):Option ((Int×S140)⊕(S140)) :=
  (bC a0 18446744073709551615).bind λz=>(fL z (λz=>(ltt (pH .u64 z.1 1) λC=>(ltt (IntKind.i64.wrap C) λG=>(ltt (aAv .u64 z.1 1) λI=>(ltt (IntKind.i64.wrap I) λJ=>(ltt (zW .i64 G (IntKind.i64.wrap (0 - J))) λN=>(some (.inl (N,z.2))))))))) (λz=>(some (.inr z))))
def eU (a0:S140) (a1:Int):Option (((List UInt8)×S140)⊕(S140)) :=
  ltt (IntKind.u64.wrap a1) λG=>((bC a0 G).bind λz=>(fL z (λz=>(ltt (IntKind.u64.wrap (z.2.f0.length:Int)) λI=>((aI z.2 (decide (z.1<=I))).bind λC=>(fL C (λC=>((kX C.f0 0 z.1).bind λJ=>((kX C.f0 z.1 (C.f0.length:Int)).bind λN=>(some (.inl (bts J,(⟨N⟩:S140))))))) (λC=>(some (.inr C))))))) (λz=>(some (.inr z)))))
def rN (z:(List Int)) (C:(List Int)):Option (((List Int)×S140)⊕(S140)) :=
  some (.inl (C,(⟨z⟩:S140)))
def pL (z:(List Int)) (C:(List Int)):Option (((List Int)×S140)⊕(S140)) :=
  rN z C
def dG (a0:Int) (G:(List Int)) (C:(List Int)) (I:Int):Option (((List Int)×(List Int)×Int)⊕(((List Int)×(List Int))⊕(((List Int)×S140)⊕(S140)))) :=
  if (decide (I<a0))=true then ((cX (⟨G⟩:S140)).bind λz=>(fL z (λz=>(chk (C.length+[z.1].length<=140737488355328 / 8) (ltt (IntKind.i64.wrap (I+1)) λJ=>(some (.inl (z.2.f0,C++[z.1],J)))))) (λz=>(some (.inr (.inr (.inr z))))))) else (some (.inr (.inl (G,C))))
def nW (a0:Int) (z:S140):Option (((List Int)×S140)⊕(S140)) :=
  (loop (λs=>dG a0 s.1 s.2.1 s.2.2) (z.f0,[],0)).bind λt=>match t with | (.inl t)=>pL t.1 t.2 | (.inr t)=>some t
def vL (z:(List Int)):Option (((List Int)×S140)⊕(S140)) :=
  some (.inl (z,(⟨[]⟩:S140)))
def tK (z:(List Int)):Option (((List Int)×S140)⊕(S140)) :=
  vL z
def gG (G:(Int×S140)) (I:(List Int)) (C:(List Int)) (z:Int):Option (((List Int)×Int)⊕(((List Int)))) :=
  if (decide (z<(I.length:Int)))=true then ((at_ C z).bind λJ=>(ltt (IntKind.i64.wrap (J+G.1)) λN=>(ltt (IntKind.i64.wrap (z+1)) λS=>(some (.inl (C.set z.toNat N,S)))))) else (some (.inr (C)))
def rZ (C:(Int×S140)) (G:(List Int)) (z:(List Int)):Option (((List Int)×S140)⊕(S140)) :=
  (loop (λs=>gG C z s.1 s.2) (z,0)).bind λt=>tK t
def pW (z:(Int×S140)) (C:(List Int)) (G:(List Int)):Option (((List Int)×S140)⊕(S140)) :=
  rZ z C G
def lY (z:Int) (C:(List Int)) (G:(List Int)):Option (((List Int)×(List Int)×Int)⊕(((List Int)×(List Int))⊕(((List Int)×S140)⊕(S140)))) :=
  ltt (IntKind.i64.wrap (z+1)) λI=>(some (.inl (C,G,I)))
def iI (a1:Int) (C:Int) (Y:Int) (I:(List Int)) (J:(List Int)) (z:Int):Option (((List Int)×(List Int)×Int)⊕(((List Int)×(List Int))⊕(((List Int)×S140)⊕(S140)))) :=
  if (decide (z<Y))=true then (ltt (IntKind.i64.wrap (z.tdiv 8)) λa0=>((at_ I a0).bind λa3=>(ltt (z.tmod 8) λN=>(chk (0<=N) (ltt (pH .u8 a3 N) λa4=>(ltt (IntKind.u64.wrap a4) λa5=>(ltt (aAv .u64 a5 1) λS=>(ltt (IntKind.i64.wrap (a1 * C)) λa6=>(if (decide (a6<=z))=true then ((aI (⟨I⟩:S140) (S==0)).bind λG=>(fL G (λG=>(lY z G.f0 J)) (λG=>(some (.inr (.inr (.inr G))))))) else (chk (C≠0) (ltt (IntKind.i64.wrap (z.tdiv C)) λU=>((at_ J U).bind λa7=>(chk (C≠0) (ltt (z.tmod C) λX=>(chk (0<=X) (ltt (wD .u64 S X) λa8=>(ltt (IntKind.i64.wrap a8) λa9=>(ltt (ior .i64 a7 a9) λb3=>(lY z I (J.set U.toNat b3)))))))))))))))))))) else (some (.inr (.inl (I,J))))
def pF (a1:Int) (C:(Int×S140)) (G:Int) (z:(List Int)):Option (((List Int)×S140)⊕(S140)) :=
  chk (0<=a1/\(8:Int) * a1<=140737488355328) (ltt (IntKind.i64.wrap (8 * (z.length:Int))) λI=>((loop (λs=>iI a1 G I s.1 s.2.1 s.2.2) (z,List.replicate a1.toNat (0:Int),0)).bind λt=>match t with | (.inl t)=>pW C t.1 t.2 | (.inr t)=>some t))
def tB (a0:S140) (a1:Int):Option (((List Int)×S140)⊕(S140)) :=
  (cX a0).bind λC=>(fL C (λC=>((fS C.2).bind λz=>(fL z (λz=>(ltt (IntKind.i64.wrap z.1) λJ=>(if (decide (J<=64))=true then (ltt (IntKind.i64.wrap (a1 * J)) λN=>(ltt (IntKind.i64.wrap (N+7)) λS=>(ltt (IntKind.i64.wrap (S.tdiv 8)) λU=>((aI z.2 ((z.2.f0.length:Int)==U)).bind λG=>(fL G (λG=>(pF a1 C J G.f0)) (λG=>(some (.inr G)))))))) else ((aI z.2 false).bind λI=>(fL I (λI=>(pF a1 C J I.f0)) (λI=>(some (.inr I)))))))) (λz=>(some (.inr z)))))) (λC=>(some (.inr C))))
def kW (z:(List Int)) (C:(List Int)):Option (((List Int)×S140)⊕(S140)) :=
  some (.inl (C,(⟨z⟩:S140)))
def yR (z:(List Int)) (C:(List Int)):Option (((List Int)×S140)⊕(S140)) :=
  kW z C
def vK (z:(List Int)) (C:(List Int)):Option (((List Int)×S140)⊕(S140)) :=
  yR z C
def hG (N:Int) (I:(List Int)) (C:(List Int)) (S:Int) (J:Int):Option (((List Int)×(List Int)×Int×Int)⊕(((List Int)×(List Int))⊕(((List Int)×S140)⊕(S140)))) :=
  if (decide (J<N))=true then ((cX (⟨I⟩:S140)).bind λz=>(fL z (λz=>(ltt (IntKind.i64.wrap (S+z.1)) λG=>(chk (C.length+[G].length<=140737488355328 / 8) (ltt (IntKind.i64.wrap (J+1)) λU=>(some (.inl (z.2.f0,C++[G],G,U))))))) (λz=>(some (.inr (.inr (.inr z))))))) else (some (.inr (.inl (I,C))))
def xX (z:(List Int)) (C:(List Int)):Option (((List Int)×S140)⊕(S140)) :=
  kW z C
def vS (z:(List Int)) (C:(List Int)):Option (((List Int)×S140)⊕(S140)) :=
  xX z C
def yL (z:(Int×S140)) (C:(List Int)):Option (((List Int)×(List Int))⊕(((List Int)×(List Int))⊕(((List Int)×S140)⊕(S140)))) :=
  some (.inl (z.2.f0,C))
def vY (z:(Int×S140)) (C:(List Int)):Option (((List Int)×(List Int))⊕(((List Int)×(List Int))⊕(((List Int)×S140)⊕(S140)))) :=
  yL z C
def iR (C:(Int×S140)) (I:Int) (z:(List Int)) (G:Int):Option (((List Int)×Int)⊕(((List Int)))) :=
  if (decide (G<I))=true then (chk (z.length+[C.1].length<=140737488355328 / 8) (ltt (IntKind.u64.wrap (G+1)) λJ=>(some (.inl (z++[C.1],J))))) else (some (.inr (z)))
def dS (I:Int) (J:(List Int)) (G:(List Int)):Option (((List Int)×(List Int))⊕(((List Int)×(List Int))⊕(((List Int)×S140)⊕(S140)))) :=
  if (decide ((G.length:Int)<I))=true then ((cX (⟨J⟩:S140)).bind λz=>(fL z (λz=>(ltt (IntKind.i64.wrap (I - (G.length:Int))) λN=>(ltt (IntKind.i64.wrap (N - 1)) λS=>(ltt (IntKind.u64.wrap S) λU=>((bC z.2 U).bind λC=>(fL C (λC=>(ltt (IntKind.u64.wrap (1+C.1)) λX=>((loop (λs=>iR z X s.1 s.2) (G,0)).bind λt=>vY C t))) (λC=>(some (.inr (.inr (.inr C))))))))))) (λz=>(some (.inr (.inr (.inr z))))))) else (some (.inr (.inl (J,G))))
def tY (a0:S140):Option (((List Int)×S140)⊕(S140)) :=
  (fS a0).bind λC=>(fL C (λC=>((aI C.2 (decide (C.1<=3))).bind λJ=>(fL J (λJ=>((bC J 4096).bind λz=>(fL z (λz=>(ltt (IntKind.i64.wrap z.1) λN=>(if (C.1==0)=true then ((nW N z.2).bind λG=>(fL G (λG=>(kW G.2.f0 G.1)) (λG=>(some (.inr G))))) else (if (C.1==1)=true then ((loop (λs=>hG N s.1 s.2.1 s.2.2.1 s.2.2.2) (z.2.f0,[],0,0)).bind λt=>match t with | (.inl t)=>vK t.1 t.2 | (.inr t)=>some t) else (if (C.1==2)=true then ((loop (λs=>dS N s.1 s.2) (z.2.f0,[])).bind λt=>match t with | (.inl t)=>vS t.1 t.2 | (.inr t)=>some t) else (if (C.1==3)=true then (if (decide (0<N))=true then ((tB z.2 N).bind λI=>(fL I (λI=>(kW I.2.f0 I.1)) (λI=>(some (.inr I))))) else (kW z.2.f0 [])) else (kW z.2.f0 []))))))) (λz=>(some (.inr z)))))) (λJ=>(some (.inr J)))))) (λC=>(some (.inr C))))
def rE (a0:S140) (a1:(List Int)):Option ((S140×(List Int))⊕(S140×(List Int))) :=
  (tY a0).bind λz=>(fL z (λz=>(some (.inl (z.2,z.1)))) (λz=>(some (.inr (z,a1)))))
def qU (a0:(List Int)) (z:(List Int)):Option (Bool×(List Int)) :=
  (rE (⟨a0⟩:S140) z).bind λy=>(fL y (λy=>some ((((y.1.f0.length:Int)==0),y.2))) (λy=>some ((false,y.2))))
def jB (a0:(List Int)):Option ((List Int)×Int) :=
  (qU a0 []).bind λz=>(if (!z.1)=true then (some ([],3)) else (some (z.2,0)))
end
end Go.Proofs.YtdkpjpoajlmmfaaGreatDoor.M
