/- Texts of the claim, joined: what it uses of Gr, Op, Dpg, Mpg, Dpl, Mpl, Dce, Mce, Tr, Dcr. -/
import Derived.Test.YtdkpjpoajlmmfaaGreatDoorZb
import Derived.Test.YtdkpjpoajlmmfaaGreatDoorProg
namespace Go.Proofs.YtdkpjpoajlmmfaaGreatDoor.M
open Go Go.RowKit Go.Proofs.YtdkpjpoajlmmfaaGreatDoor.E
set_option linter.unusedVariables false
set_option linter.unusedSimpArgs false
def aDm:List PanicEntry:=[{ v:=.iface 137 (.agg #[]),recovered:=false }]
theorem by5:Tryz.prog.bytesOf 5=1:=by kernel_rfl
theorem bDx:Tryz.prog.bytesOf 61=48:=by kernel_rfl
theorem ce2:Tryz.prog.cellsOf 2=1:=by kernel_rfl
theorem aVg:Tryz.prog.cellsOf 24=1:=by kernel_rfl
theorem bDy:Tryz.prog.cellsOf 26=4:=by kernel_rfl
theorem ce3:Tryz.prog.cellsOf 3=1:=by kernel_rfl
theorem ce5:Tryz.prog.cellsOf 5=1:=by kernel_rfl
theorem bDz:Tryz.prog.cellsOf 59=1:=by kernel_rfl
theorem bAl:Tryz.prog.cellsOf 61=5:=by kernel_rfl
theorem bD0:Tryz.prog.cellsOf 67=1:=by kernel_rfl
theorem ce9:Tryz.prog.cellsOf 9=1:=by kernel_rfl
theorem bAq:EN Tryz.prog 10:=aZ Tryz.func10 (by kernel_rfl) rfl
theorem bAr:EN Tryz.prog 100:=aZ Tryz.func100 (by kernel_rfl) rfl
theorem aPy:EN Tryz.prog 101:=aZ Tryz.func101 (by kernel_rfl) rfl
theorem bAs:EN Tryz.prog 102:=aZ Tryz.func102 (by kernel_rfl) rfl
theorem aM1:EN Tryz.prog 103:=aZ Tryz.func103 (by kernel_rfl) rfl
theorem bAt:EN Tryz.prog 104:=aZ Tryz.func104 (by kernel_rfl) rfl
theorem bAu:EN Tryz.prog 105:=aZ Tryz.func105 (by kernel_rfl) rfl
theorem bAv:EN Tryz.prog 106:=aZ Tryz.func106 (by kernel_rfl) rfl
theorem bAw:EN Tryz.prog 107:=aZ Tryz.func107 (by kernel_rfl) rfl
theorem bAx:EN Tryz.prog 11:=aZ Tryz.func11 (by kernel_rfl) rfl
theorem bAy:EN Tryz.prog 110:=aZ Tryz.func110 (by kernel_rfl) rfl
theorem aXo:EN Tryz.prog 111:=aZ Tryz.func111 (by kernel_rfl) rfl
theorem bAz:EN Tryz.prog 112:=aZ Tryz.func112 (by kernel_rfl) rfl
theorem bA0:EN Tryz.prog 113:=aZ Tryz.func113 (by kernel_rfl) rfl
theorem bA1:EN Tryz.prog 114:=aZ Tryz.func114 (by kernel_rfl) rfl
theorem aXp:EN Tryz.prog 115:=aZ Tryz.func115 (by kernel_rfl) rfl
theorem bA2:EN Tryz.prog 116:=aZ Tryz.func116 (by kernel_rfl) rfl
theorem aS0:EN Tryz.prog 12:=aZ Tryz.func12 (by kernel_rfl) rfl
theorem aXq:EN Tryz.prog 122:=aZ Tryz.func122 (by kernel_rfl) rfl
theorem bA3:EN Tryz.prog 123:=aZ Tryz.func123 (by kernel_rfl) rfl
theorem bA4:EN Tryz.prog 124:=aZ Tryz.func124 (by kernel_rfl) rfl
theorem bA5:EN Tryz.prog 125:=aZ Tryz.func125 (by kernel_rfl) rfl
theorem bA6:EN Tryz.prog 126:=aZ Tryz.func126 (by kernel_rfl) rfl
theorem bA7:EN Tryz.prog 128:=aZ Tryz.func128 (by kernel_rfl) rfl
theorem bA8:EN Tryz.prog 129:=aZ Tryz.func129 (by kernel_rfl) rfl
theorem aY4:EN Tryz.prog 13:=aZ Tryz.func13 (by kernel_rfl) rfl
theorem bA9:EN Tryz.prog 130:=aZ Tryz.func130 (by kernel_rfl) rfl
theorem aXr:EN Tryz.prog 131:=aZ Tryz.func131 (by kernel_rfl) rfl
theorem bBa:EN Tryz.prog 134:=aZ Tryz.func134 (by kernel_rfl) rfl
theorem bBb:EN Tryz.prog 138:=aZ Tryz.func138 (by kernel_rfl) rfl
theorem aVr:EN Tryz.prog 14:=aZ Tryz.func14 (by kernel_rfl) rfl
theorem bBc:EN Tryz.prog 142:=aZ Tryz.func142 (by kernel_rfl) rfl
theorem aXs:EN Tryz.prog 143:=aZ Tryz.func143 (by kernel_rfl) rfl
theorem bBd:EN Tryz.prog 145:=aZ Tryz.func145 (by kernel_rfl) rfl
theorem bBe:EN Tryz.prog 148:=aZ Tryz.func148 (by kernel_rfl) rfl
theorem bBf:EN Tryz.prog 15:=aZ Tryz.func15 (by kernel_rfl) rfl
theorem aXt:EN Tryz.prog 152:=aZ Tryz.func152 (by kernel_rfl) rfl
theorem bBg:EN Tryz.prog 16:=aZ Tryz.func16 (by kernel_rfl) rfl
theorem bBh:EN Tryz.prog 17:=aZ Tryz.func17 (by kernel_rfl) rfl
theorem bD7:EN Tryz.prog 18:=aZ Tryz.func18 (by kernel_rfl) rfl
theorem bD8:EN Tryz.prog 19:=aZ Tryz.func19 (by kernel_rfl) rfl
theorem bBi:EN Tryz.prog 20:=aZ Tryz.func20 (by kernel_rfl) rfl
theorem bD9:EN Tryz.prog 29:=aZ Tryz.func29 (by kernel_rfl) rfl
theorem bEa:EN Tryz.prog 30:=aZ Tryz.func30 (by kernel_rfl) rfl
theorem aY5:EN Tryz.prog 31:=aZ Tryz.func31 (by kernel_rfl) rfl
theorem bBj:EN Tryz.prog 32:=aZ Tryz.func32 (by kernel_rfl) rfl
theorem aY6:EN Tryz.prog 33:=aZ Tryz.func33 (by kernel_rfl) rfl
theorem aY7:EN Tryz.prog 34:=aZ Tryz.func34 (by kernel_rfl) rfl
theorem bBk:EN Tryz.prog 35:=aZ Tryz.func35 (by kernel_rfl) rfl
theorem bEb:EN Tryz.prog 36:=aZ Tryz.func36 (by kernel_rfl) rfl
theorem bBl:EN Tryz.prog 37:=aZ Tryz.func37 (by kernel_rfl) rfl
theorem bBm:EN Tryz.prog 38:=aZ Tryz.func38 (by kernel_rfl) rfl
theorem bBn:EN Tryz.prog 39:=aZ Tryz.func39 (by kernel_rfl) rfl
theorem bEc:EN Tryz.prog 40:=aZ Tryz.func40 (by kernel_rfl) rfl
theorem bEd:EN Tryz.prog 41:=aZ Tryz.func41 (by kernel_rfl) rfl
theorem bEe:EN Tryz.prog 42:=aZ Tryz.func42 (by kernel_rfl) rfl
theorem aK7:EN Tryz.prog 43:=aZ Tryz.func43 (by kernel_rfl) rfl
theorem aRc:EN Tryz.prog 44:=aZ Tryz.func44 (by kernel_rfl) rfl
theorem aY8:EN Tryz.prog 45:=aZ Tryz.func45 (by kernel_rfl) rfl
theorem bEf:EN Tryz.prog 46:=aZ Tryz.func46 (by kernel_rfl) rfl
theorem aS1:EN Tryz.prog 47:=aZ Tryz.func47 (by kernel_rfl) rfl
theorem bEg:EN Tryz.prog 48:=aZ Tryz.func48 (by kernel_rfl) rfl
theorem rD:EN Tryz.prog 49:=aZ Tryz.func49 (by kernel_rfl) rfl
theorem xL:EN Tryz.prog 50:=aZ Tryz.func50 (by kernel_rfl) rfl
theorem aM2:EN Tryz.prog 51:=aZ Tryz.func51 (by kernel_rfl) rfl
theorem aY9:EN Tryz.prog 52:=aZ Tryz.func52 (by kernel_rfl) rfl
theorem bEh:EN Tryz.prog 53:=aZ Tryz.func53 (by kernel_rfl) rfl
theorem bEi:EN Tryz.prog 54:=aZ Tryz.func54 (by kernel_rfl) rfl
theorem bEj:EN Tryz.prog 55:=aZ Tryz.func55 (by kernel_rfl) rfl
theorem bEk:EN Tryz.prog 56:=aZ Tryz.func56 (by kernel_rfl) rfl
theorem bEl:EN Tryz.prog 57:=aZ Tryz.func57 (by kernel_rfl) rfl
theorem bBo:EN Tryz.prog 58:=aZ Tryz.func58 (by kernel_rfl) rfl
theorem aJb:EN Tryz.prog 59:=aZ Tryz.func59 (by kernel_rfl) rfl
theorem aM3:EN Tryz.prog 60:=aZ Tryz.func60 (by kernel_rfl) rfl
theorem aVs:EN Tryz.prog 61:=aZ Tryz.func61 (by kernel_rfl) rfl
theorem bEm:EN Tryz.prog 62:=aZ Tryz.func62 (by kernel_rfl) rfl
theorem aVt:EN Tryz.prog 64:=aZ Tryz.func64 (by kernel_rfl) rfl
theorem bEn:EN Tryz.prog 65:=aZ Tryz.func65 (by kernel_rfl) rfl
theorem bEo:EN Tryz.prog 66:=aZ Tryz.func66 (by kernel_rfl) rfl
theorem bBp:EN Tryz.prog 67:=aZ Tryz.func67 (by kernel_rfl) rfl
theorem bEp:EN Tryz.prog 68:=aZ Tryz.func68 (by kernel_rfl) rfl
theorem bEq:EN Tryz.prog 69:=aZ Tryz.func69 (by kernel_rfl) rfl
theorem bBq:EN Tryz.prog 70:=aZ Tryz.func70 (by kernel_rfl) rfl
theorem bEr:EN Tryz.prog 71:=aZ Tryz.func71 (by kernel_rfl) rfl
theorem bBr:EN Tryz.prog 72:=aZ Tryz.func72 (by kernel_rfl) rfl
theorem bBs:EN Tryz.prog 73:=aZ Tryz.func73 (by kernel_rfl) rfl
theorem aZa:EN Tryz.prog 74:=aZ Tryz.func74 (by kernel_rfl) rfl
theorem bBt:EN Tryz.prog 75:=aZ Tryz.func75 (by kernel_rfl) rfl
theorem bEs:EN Tryz.prog 76:=aZ Tryz.func76 (by kernel_rfl) rfl
theorem bEt:EN Tryz.prog 77:=aZ Tryz.func77 (by kernel_rfl) rfl
theorem aZb:EN Tryz.prog 78:=aZ Tryz.func78 (by kernel_rfl) rfl
theorem bEu:EN Tryz.prog 79:=aZ Tryz.func79 (by kernel_rfl) rfl
theorem en8:EN Tryz.prog 8:=aZ Tryz.func8 (by kernel_rfl) rfl
theorem bBu:EN Tryz.prog 80:=aZ Tryz.func80 (by kernel_rfl) rfl
theorem bBv:EN Tryz.prog 81:=aZ Tryz.func81 (by kernel_rfl) rfl
theorem bEv:EN Tryz.prog 82:=aZ Tryz.func82 (by kernel_rfl) rfl
theorem bEw:EN Tryz.prog 83:=aZ Tryz.func83 (by kernel_rfl) rfl
theorem bBw:EN Tryz.prog 84:=aZ Tryz.func84 (by kernel_rfl) rfl
theorem aVu:EN Tryz.prog 85:=aZ Tryz.func85 (by kernel_rfl) rfl
theorem bEx:EN Tryz.prog 86:=aZ Tryz.func86 (by kernel_rfl) rfl
theorem bEy:EN Tryz.prog 87:=aZ Tryz.func87 (by kernel_rfl) rfl
theorem bBx:EN Tryz.prog 88:=aZ Tryz.func88 (by kernel_rfl) rfl
theorem bBy:EN Tryz.prog 89:=aZ Tryz.func89 (by kernel_rfl) rfl
theorem en9:EN Tryz.prog 9:=aZ Tryz.func9 (by kernel_rfl) rfl
theorem bEz:EN Tryz.prog 90:=aZ Tryz.func90 (by kernel_rfl) rfl
theorem bBz:EN Tryz.prog 91:=aZ Tryz.func91 (by kernel_rfl) rfl
theorem bB0:EN Tryz.prog 92:=aZ Tryz.func92 (by kernel_rfl) rfl
theorem aVv:EN Tryz.prog 93:=aZ Tryz.func93 (by kernel_rfl) rfl
theorem bE0:EN Tryz.prog 94:=aZ Tryz.func94 (by kernel_rfl) rfl
theorem aVw:EN Tryz.prog 95:=aZ Tryz.func95 (by kernel_rfl) rfl
theorem bE1:EN Tryz.prog 96:=aZ Tryz.func96 (by kernel_rfl) rfl
theorem bE2:EN Tryz.prog 97:=aZ Tryz.func97 (by kernel_rfl) rfl
theorem bE3:EN Tryz.prog 98:=aZ Tryz.func98 (by kernel_rfl) rfl
theorem bB1:EN Tryz.prog 99:=aZ Tryz.func99 (by kernel_rfl) rfl
theorem aXu (b:Nat):EXT Tryz.prog 117 #[.float .f64 b] (.int .u64 b):=λw=>by kernel_rfl
theorem aXv (n:Int):EXT Tryz.prog 132 #[.int .u64 n] (.float .f64 n.toNat):=λw=>by kernel_rfl
theorem aA2:FA Tryz.prog 128 0 0:=λad w=>by kernel_rfl
theorem aG4:FA Tryz.prog 128 1 1:=λad w=>by kernel_rfl
theorem tF:FA Tryz.prog 128 2 2:=λad w=>by kernel_rfl
theorem rU:FA Tryz.prog 140 0 0:=λad w=>by kernel_rfl
theorem aFi:FA Tryz.prog 26 0 0:=λad w=>by kernel_rfl
theorem aFj:FA Tryz.prog 26 1 1:=λad w=>by kernel_rfl
theorem aFk:FA Tryz.prog 26 2 2:=λad w=>by kernel_rfl
theorem aFl:FA Tryz.prog 26 3 3:=λad w=>by kernel_rfl
theorem aHx:FA Tryz.prog 46 0 0:=λad w=>by kernel_rfl
theorem tK:FA Tryz.prog 46 1 1:=λad w=>by kernel_rfl
theorem wY:FA Tryz.prog 46 2 2:=λad w=>by kernel_rfl
theorem aHy:FA Tryz.prog 46 3 3:=λad w=>by kernel_rfl
theorem aFm:FA Tryz.prog 46 4 4:=λad w=>by kernel_rfl
theorem iZ:FA Tryz.prog 61 0 0:=λad w=>by kernel_rfl
theorem tL:FA Tryz.prog 61 1 1:=λad w=>by kernel_rfl
theorem dU:FA Tryz.prog 61 2 2:=λad w=>by kernel_rfl
theorem vU:FA Tryz.prog 61 3 3:=λad w=>by kernel_rfl
theorem aHz:FA Tryz.prog 61 4 4:=λad w=>by kernel_rfl
theorem nU:FA Tryz.prog 77 0 0:=λad w=>by kernel_rfl
theorem aK9:FA Tryz.prog 77 1 1:=λad w=>by kernel_rfl
theorem aLa:FA Tryz.prog 77 2 2:=λad w=>by kernel_rfl
theorem aOr:FA Tryz.prog 77 3 3:=λad w=>by kernel_rfl
theorem aS8:FA Tryz.prog 77 4 4:=λad w=>by kernel_rfl
theorem aFn:FA Tryz.prog 79 0 0:=λad w=>by kernel_rfl
theorem aFo:FA Tryz.prog 79 1 1:=λad w=>by kernel_rfl
theorem iD:FA Tryz.prog 79 2 2:=λad w=>by kernel_rfl
theorem aH0:FA Tryz.prog 90 0 0:=λad w=>by kernel_rfl
theorem aD5:FA Tryz.prog 90 1 1:=λad w=>by kernel_rfl
theorem yS:FA Tryz.prog 90 2 2:=λad w=>by kernel_rfl
theorem zS:FA Tryz.prog 90 3 3:=λad w=>by kernel_rfl
theorem aH1:FA Tryz.prog 90 4 4:=λad w=>by kernel_rfl
theorem aFp:FA Tryz.prog 90 5 5:=λad w=>by kernel_rfl
theorem aLb:FA Tryz.prog 90 6 6:=λad w=>by kernel_rfl
theorem aH2:FA Tryz.prog 90 7 7:=λad w=>by kernel_rfl
theorem aLc:FA Tryz.prog 98 0 0:=λad w=>by kernel_rfl
theorem aH3:FA Tryz.prog 98 1 1:=λad w=>by kernel_rfl
theorem aZe:FA Tryz.prog 98 2 2:=λad w=>by kernel_rfl
theorem bE6:Tryz.prog.eqGuardType Tryz.prog.depth 90=false:=by kernel_rfl
theorem lS:(Tryz.prog.info? 2).map (λi=>(i.zero,i.size,i.bytes))=some (some (.int .i64 0),1,8):=by kernel_rfl
theorem bE7:(Tryz.prog.info? 4).map (λi=>(i.zero,i.size,i.bytes))=some (some (.bool false),1,1):=by kernel_rfl
theorem aNd:(Tryz.prog.info? 46).map (λi=>(i.zero,i.size,i.bytes))=some (some (.agg #[(str []),(.int .u64 0),(.int .u64 0),(.int .i64 0),(.int .i64 0)]),5,48):=by kernel_rfl
theorem aFs:(Tryz.prog.info? 5).map (λi=>(i.zero,i.size,i.bytes))=some (some (.int .u8 0),1,1):=by kernel_rfl
theorem aP7:(Tryz.prog.info? 59).map (λi=>(i.zero,i.size,i.bytes))=some (some (.float .f64 0),1,8):=by kernel_rfl
theorem aJp:(Tryz.prog.info? 61).map (λi=>(i.zero,i.size,i.bytes))=some (some (.agg #[(.int .u64 0),(.int .i64 0),(.int .i64 0),(str []),(.float .f64 0)]),5,48):=by kernel_rfl
theorem aRg:(Tryz.prog.info? 9).map (λi=>(i.zero,i.size,i.bytes))=some (some (str []),1,16):=by kernel_rfl
theorem aXw:(Tryz.prog.info? 90).map (λi=>(i.zero,i.size,i.bytes))=some (some (.agg #[(.int .i64 0),(.int .i64 0),(.int .u64 0),(.int .u64 0),(.int .i64 0),(.int .i64 0),(str []),(str [])]),8,80):=by kernel_rfl
theorem aXx:(Tryz.prog.info? 98).map (λi=>(i.zero,i.size,i.bytes))=some (some (.agg #[(str []),(.slice none 0 0),(.int .i64 0)]),3,48):=by kernel_rfl
theorem aZm {args:Array Value} {w:World} (h:(Extern.SlicesOverlaps.overlaps #[75,75] #[4] args).run Tryz.prog w=.ok (.bool false) w):(callFunc 108 args).run Tryz.prog w=.ok (.value (.bool false)) w:=by rw [run_callFunc_extern Tryz.func108 (by kernel_rfl) (by kernel_rfl) (by kernel_rfl) (e:=Extern.SlicesOverlaps.overlaps #[75,75] #[4]) (by kernel_rfl),h];rfl
theorem bFb:Tryz.prog.stoodInHeld 90=false:=by kernel_rfl
theorem aYd:(Tryz.prog.info? 126).map (·.size)=some 1:=by kernel_rfl
theorem bCs:(Tryz.prog.info? 137).map (·.size)=some 0:=by kernel_rfl
theorem bCt:(Tryz.prog.info? 158).map (·.size)=some 1:=by kernel_rfl
theorem sz2:(Tryz.prog.info? 2).map (·.size)=some 1:=by kernel_rfl
theorem aFa:(Tryz.prog.info? 23).map (·.size)=some 1:=by kernel_rfl
theorem aRx:(Tryz.prog.info? 24).map (·.size)=some 1:=by kernel_rfl
theorem aUm:(Tryz.prog.info? 26).map (·.size)=some 4:=by kernel_rfl
theorem sz3:(Tryz.prog.info? 3).map (·.size)=some 1:=by kernel_rfl
theorem bFc:(Tryz.prog.info? 30).map (·.size)=some 1:=by kernel_rfl
theorem bCu:(Tryz.prog.info? 38).map (·.size)=some 1:=by kernel_rfl
theorem sz4:(Tryz.prog.info? 4).map (·.size)=some 1:=by kernel_rfl
theorem iT:(Tryz.prog.info? 46).map (·.size)=some 5:=by kernel_rfl
theorem sz5:(Tryz.prog.info? 5).map (·.size)=some 1:=by kernel_rfl
theorem bFd:(Tryz.prog.info? 53).map (·.size)=some 1:=by kernel_rfl
theorem aZt:(Tryz.prog.info? 59).map (·.size)=some 1:=by kernel_rfl
theorem hN:(Tryz.prog.info? 61).map (·.size)=some 5:=by kernel_rfl
theorem bCv:(Tryz.prog.info? 67).map (·.size)=some 1:=by kernel_rfl
theorem aWm:(Tryz.prog.info? 75).map (·.size)=some 1:=by kernel_rfl
theorem sz9:(Tryz.prog.info? 9).map (·.size)=some 1:=by kernel_rfl
theorem zB:(Tryz.prog.info? 90).map (·.size)=some 8:=by kernel_rfl
theorem nY:(Tryz.prog.info? 98).map (·.size)=some 3:=by kernel_rfl
theorem bDq:(Tryz.prog.info? 126).bind (·.zero)=some (.slice none 0 0):=by kernel_rfl
theorem bDr:(Tryz.prog.info? 137).bind (·.zero)=some (.agg #[]):=by kernel_rfl
theorem bDs:(Tryz.prog.info? 157).bind (·.zero)=some (.agg #[(.slice none 0 0),(.slice none 0 0),(.slice none 0 0),(.slice none 0 0),(.slice none 0 0)]):=by kernel_rfl
theorem bDt:(Tryz.prog.info? 158).bind (·.zero)=some (.slice none 0 0):=by kernel_rfl
theorem bFh:(Tryz.prog.info? 23).bind (·.zero)=some (.slice none 0 0):=by kernel_rfl
theorem zr4:(Tryz.prog.info? 4).bind (·.zero)=some (.bool false):=by kernel_rfl
theorem aGw:(Tryz.prog.info? 46).bind (·.zero)=some (.agg #[(str []),(.int .u64 0),(.int .u64 0),(.int .i64 0),(.int .i64 0)]):=by kernel_rfl
theorem bFi:(Tryz.prog.info? 53).bind (·.zero)=some (.slice none 0 0):=by kernel_rfl
theorem aN6:(Tryz.prog.info? 61).bind (·.zero)=some (.agg #[(.int .u64 0),(.int .i64 0),(.int .i64 0),(str []),(.float .f64 0)]):=by kernel_rfl
theorem zr9:(Tryz.prog.info? 9).bind (·.zero)=some (str []):=by kernel_rfl
theorem aPi:(Tryz.prog.info? 90).bind (·.zero)=some (.agg #[(.int .i64 0),(.int .i64 0),(.int .u64 0),(.int .u64 0),(.int .i64 0),(.int .i64 0),(str []),(str [])]):=by kernel_rfl
theorem aW9:(Tryz.prog.info? 98).bind (·.zero)=some (.agg #[(str []),(.slice none 0 0),(.int .i64 0)]):=by kernel_rfl
set_option maxRecDepth 100000 in
theorem bB2 (x y:S90) (w:World):(Op.equalIn 10000 90 (.agg #[.int .i64 x.f0,.int .i64 x.f1,.int .u64 x.f2,.int .u64 x.f3,.int .i64 x.f4,.int .i64 x.f5,str x.f6,str x.f7]) (.agg #[.int .i64 y.f0,.int .i64 y.f1,.int .u64 y.f2,.int .u64 y.f3,.int .i64 y.f4,.int .i64 y.f5,str y.f6,str y.f7])).run Tryz.prog w=.ok (aJc x y) w :=
  eqs Tryz.underlying90 bFb (eqf (iU Tryz.underlying3 rfl rfl) (iU Tryz.underlying3 rfl rfl) (run_equalIn_int w 9998 3 .i64 .i64 _ _ Tryz.underlying3) (eqf (iU Tryz.underlying3 rfl rfl) (iU Tryz.underlying3 rfl rfl) (run_equalIn_int w 9998 3 .i64 .i64 _ _ Tryz.underlying3) (eqf (iU Tryz.underlying24 rfl rfl) (iU Tryz.underlying24 rfl rfl) (run_equalIn_int w 9998 24 .u64 .u64 _ _ Tryz.underlying24) (eqf (iU Tryz.underlying24 rfl rfl) (iU Tryz.underlying24 rfl rfl) (run_equalIn_int w 9998 24 .u64 .u64 _ _ Tryz.underlying24) (eqf (iU Tryz.underlying2 rfl rfl) (iU Tryz.underlying2 rfl rfl) (run_equalIn_int w 9998 2 .i64 .i64 _ _ Tryz.underlying2) (eqf (iU Tryz.underlying2 rfl rfl) (iU Tryz.underlying2 rfl rfl) (run_equalIn_int w 9998 2 .i64 .i64 _ _ Tryz.underlying2) (eqf (iU Tryz.underlying9 rfl rfl) (iU Tryz.underlying9 rfl rfl) (aS4 (d:=9998) Tryz.underlying9) (eqf (iU Tryz.underlying9 rfl rfl) (iU Tryz.underlying9 rfl rfl) (aS4 (d:=9998) Tryz.underlying9) eqn rfl) rfl) rfl) rfl) rfl) rfl) rfl) rfl)
abbrev pP (g:Nat):Value:=.pointer (some ⟨g,0,none⟩)
abbrev uu2:=Tryz.underlying2
abbrev uu3:=Tryz.underlying3
abbrev uu4:=Tryz.underlying4
abbrev uu5:=Tryz.underlying5
abbrev uu9:=Tryz.underlying9
abbrev gW:=Tryz.underlying22
abbrev cK:=Tryz.underlying23
abbrev bM:=Tryz.underlying24
abbrev aUs:=Tryz.underlying26
abbrev oV:=Tryz.underlying29
abbrev bFe:=Tryz.underlying30
abbrev aF0:=Tryz.underlying33
abbrev gM:=Tryz.underlying38
abbrev zC:=Tryz.underlying46
abbrev vE:=Tryz.underlying53
abbrev bCy:=Tryz.underlying58
abbrev aN1:=Tryz.underlying59
abbrev aCo:=Tryz.underlying61
abbrev aEc:=Tryz.underlying67
abbrev iE:=Tryz.underlying75
abbrev aN2:=Tryz.underlying90
abbrev aR1:=Tryz.underlying91
abbrev aPf:=Tryz.underlying98
abbrev aQo:=Tryz.underlying125
abbrev lW:=Tryz.underlying126
abbrev bCx:=Tryz.underlying137
abbrev aKn:=Tryz.underlying157
abbrev bV:=Tryz.underlying158
abbrev aFe:=Tryz.underlying163
abbrev aYg:=Tryz.underlying167
abbrev aYh:=Tryz.underlying173
abbrev aYi:=Tryz.underlying174
abbrev aQp:=Tryz.underlying178
def g26 (x:S26):Prop:=(gI .u64) x.f0/\(gI .u64) x.f1/\(gI .i64) x.f2/\(gI .i64) x.f3
set_option maxRecDepth 100000 in
theorem op26 {W:World}:Opens Tryz.prog W 26 k26 g26:=by
  intro H enc l fuel cs x h hw;obtain⟨ys,n,_,rfl,hl,a,hf⟩:=DataW.trod_struct Tryz.underlying26 h;rw [bDy] at hl
  match cs,hl with
  | [c0,c1,c2,c3],_ =>
    obtain⟨a0,h0,d⟩:=fld Tryz.underlying26 hf a hw 0 rfl (o:=0) (c:=1) (t:=24) rfl rfl aVg (opI Tryz.underlying24);cases (show [c0]=[.int .u64 a0] from h0);obtain⟨b,e,f⟩:=fld Tryz.underlying26 hf a hw 1 rfl (o:=1) (c:=1) (t:=24) rfl rfl aVg (opI Tryz.underlying24);cases (show [c1]=[.int .u64 b] from e);obtain⟨a2,g,i⟩:=fld Tryz.underlying26 hf a hw 2 rfl (o:=2) (c:=1) (t:=2) rfl rfl ce2 (opI Tryz.underlying2);cases (show [c2]=[.int .i64 a2] from g);obtain⟨a3,j,k⟩:=fld Tryz.underlying26 hf a hw 3 rfl (o:=3) (c:=1) (t:=2) rfl rfl ce2 (opI Tryz.underlying2);cases (show [c3]=[.int .i64 a3] from j);exact⟨⟨a0,b,a2,a3⟩,rfl,d,f,i,k⟩
def g61 (x:S61):Prop:=(gI .u64) x.f0/\(gI .i64) x.f1/\(gI .i64) x.f2/\gS x.f3/\gF x.f4
set_option maxRecDepth 100000 in
theorem op61 {W:World}:Opens Tryz.prog W 61 k61 g61:=by
  intro H enc p fuel cs x h hw;obtain⟨ys,n,_,rfl,hl,a,hf⟩:=DataW.trod_struct Tryz.underlying61 h;rw [bAl] at hl
  match cs,hl with
  | [c0,c1,c2,c3,c4],_ =>
    obtain⟨a0,h0,d⟩:=fld Tryz.underlying61 hf a hw 0 rfl (o:=0) (c:=1) (t:=24) rfl rfl aVg (opI Tryz.underlying24);cases (show [c0]=[.int .u64 a0] from h0);obtain⟨b,e,f⟩:=fld Tryz.underlying61 hf a hw 1 rfl (o:=1) (c:=1) (t:=3) rfl rfl ce3 (opI Tryz.underlying3);cases (show [c1]=[.int .i64 b] from e);obtain⟨a2,g,i⟩:=fld Tryz.underlying61 hf a hw 2 rfl (o:=2) (c:=1) (t:=2) rfl rfl ce2 (opI Tryz.underlying2);cases (show [c2]=[.int .i64 a2] from g);obtain⟨a3,j,k⟩:=fld Tryz.underlying61 hf a hw 3 rfl (o:=3) (c:=1) (t:=9) rfl rfl ce9 (opS Tryz.underlying9);cases (show [c3]=[str a3] from j);obtain⟨a4,l,m⟩:=fld Tryz.underlying61 hf a hw 4 rfl (o:=4) (c:=1) (t:=59) rfl rfl bDz (opF Tryz.underlying59);cases (show [c4]=[.float .f64 a4] from l);exact⟨⟨a0,b,a2,a3,a4⟩,rfl,d,f,i,k,m⟩
noncomputable section
set_option linter.unusedSimpArgs false
def aCb (a:Int):Option (Int) :=
  some (aAf .u32 (IntKind.u32.max) a)
def zV (a:Int):Option (Int) :=
  aCb a
def nI (a0:(List Int)) (a:Int) (b:Int):Option ((Int×Int)⊕((Int))) :=
  if (decide (b<(a0.length:Int)))=true then ((at_ a0 b).bind λe=>(ltt (IntKind.u32.wrap e) λc=>(ltt (aAf .u32 a c) λf=>(ltt (aA3 .u32 f 15) λg=>((at_ bX g).bind λh=>(ltt (nX .u32 a 4) λi=>(ltt (aAf .u32 h i) λd=>(ltt (nX .u32 c 4) λj=>(ltt (aAf .u32 d j) λk=>(ltt (aA3 .u32 k 15) λl=>((at_ bX l).bind λm=>(ltt (nX .u32 d 4) λn=>(ltt (aAf .u32 m n) λo=>(ltt (IntKind.i64.wrap (b+1)) λp=>(some (.inl (o,p))))))))))))))))) else (some (.inr (a)))
def aAk (a0:(List Int)):Option (Int) :=
  (loop (λs=>nI a0 s.1 s.2) (4294967295,0)).bind λt=>zV t
def uB (a0:(List Int)):Option (Int) :=
  (at_ a0 0).bind λa=>(ltt (IntKind.u32.wrap a) λb=>((at_ a0 1).bind λc=>(ltt (IntKind.u32.wrap c) λd=>(ltt (wL .u32 d 8) λe=>(ltt (ior .u32 b e) λf=>((at_ a0 2).bind λg=>(ltt (IntKind.u32.wrap g) λh=>(ltt (wL .u32 h 16) λi=>(ltt (ior .u32 f i) λj=>((at_ a0 3).bind λk=>(ltt (IntKind.u32.wrap k) λl=>(ltt (wL .u32 l 24) λm=>(ltt (ior .u32 j m) λn=>(some n))))))))))))))
def dG (a0:(List Int)):Option ((List Int)) :=
  tA (a0).isEmpty (some []) (chk (([]:List Int).length+a0.length<=140737488355328 / 1) (some a0))
def vB (o:Int) (a:(List Int)) (c:(Int)) (d:Bool):Option (Int×(List Int)×Int×Int) :=
  if d=true then (some (0,[],0,3)) else (ltt (IntKind.i64.wrap c) λe=>(ltt (IntKind.i64.wrap (5+e)) λb=>((jX a 0 b).bind λf=>((jX a b (a.length:Int)).bind λg=>((aAk f).bind λh=>((uB g).bind λi=>(if (h != i)=true then (some (0,[],0,4)) else ((at_ a 4).bind λj=>((jX a 5 b).bind λk=>(ltt (IntKind.i64.wrap (o+b)) λl=>(ltt (IntKind.i64.wrap (l+4)) λm=>((dG k).bind λn=>(some (j,n,m,0))))))))))))))
def vA (a0:(List Int)) (c:Int) (d:Bool):Option (Int×(List Int)×Int×Int) :=
  if d=true then (some (0,[],0,1)) else ((jX a0 c (a0.length:Int)).bind λa=>(if (decide ((a.length:Int)<9))=true then (some (0,[],0,3)) else ((uB a).bind λb=>(if (decide (1048576<b))=true then (vB c a b true) else (ltt (IntKind.i64.wrap b) λe=>(ltt (IntKind.i64.wrap ((a.length:Int) - 9)) λf=>(vB c a b (decide (f<e)))))))))
def sA (a0:(List Int)) (a:Int):Option (Int×(List Int)×Int×Int) :=
  if (decide (a<0))=true then (vA a0 a true) else (vA a0 a (decide ((a0.length:Int)<a)))
end
set_option maxRecDepth 100000
set_option maxHeartbeats 4000000
section
variable {r:World} {L:List HP} {w:World} {Z:Nat->Prop} {wz:World}
theorem aHe {a0 A0 n0 c0 y} (G:aAk a0=some y) (X:SH r (L) w) (qz:Nat) (c:L[qz]?=some (zone Z wz)) (f:RdL L (kI .u8) A0 n0 c0 a0) (d:Imm Z wz (kI .u32) (some ⟨0,0,none⟩) 16 16 bX) :
  Ret Tryz.prog 89 #[.slice A0 n0 c0] w λv w'=>v=.int .u32 y/\SH r (L) w':=by
 refine enter Tryz.func89 rfl Tryz.ntmps89 [(0,_)] rfl (by simp) ?_;intro U J Qf R c2;unfold aAk at G;refine nz 1 J rfl λU J=>nz 1 J rfl λU J=>wp_seq_k λT m=>ws λW n=>xk 1 J rfl λU J=>aW cK (X.rdl 0 f rfl).2.1 J rfl λU J=>x_m J rfl λU J=>wn (n _ _ ?_);refine aA λg o=>?_;have S:∀e,aCb e=some y->∀U w,FR 36 [] U [(3,.int .u32 e)]->SH r (L) w->g U w:=by intro e G U w J X;unfold aCb at G;refine o _ _ (m _ _ ?_);refine ws λY p=>xk 1 J rfl λU J=>x_v J (aWd rfl (J.ev rfl)) rfl λU J=>x_m J rfl λU J=>wn (p _ _ ?_);cases G;refine wp_ret (R _ _ ?_);exact lv Tryz.results89 J rfl ⟨rfl,X⟩
 obtain⟨q,t,G⟩:=bnd G;have u:∀a,(a)=q->∀U w,FR 36 [] U [(3,.int .u32 a)]->SH r (L) w->g U w:=by intro a ht U w J X;subst ht;replace G:zV a=some y:=G;unfold zV at G;exact S a G U w (J.sub _ rfl) X
 refine aS t (λs U w=>FR 36 [] U [(3,.int .u32 s.1),(6,.slice A0 n0 c0),(7,.int .i64 (a0.length:Int)),(8,.int .i64 s.2)]/\SH r (L) w) ⟨J.sub _ rfl,X⟩ ?_;intro a1 x z G A B U w l;obtain⟨h,C⟩:=x;replace G:nI a0 h C=some z:=G;unfold nI at G
 try dsimp only at l
 obtain⟨J,X⟩:=l;refine nz 1 J rfl λU J=>wp_seq_k λa2 D=>aX J G rfl (λE G=>?_) λE G=>?_
 ·refine wp_skip (D _ _ ?_);refine wp_seq_k λa3 F=>aA λa4 H=>ws λa5 I=>?_;obtain⟨a6,i,G⟩:=bnd G;refine fS cK sz5 (X.rdl 0 f rfl) i J rfl λU J=>?_;obtain⟨cs,b,K⟩:=el (X.rdl 0 f rfl) i;obtain rfl:=b;refine aL uu5 (K 0 _ rfl) J rfl λU J=>x_m J rfl λU J=>wn (I _ _ ?_);refine ws λa7 M=>xk 2 J rfl λU J=>eR G J (aR uu5 aEc rfl (J.ev rfl)) rfl λN O U J G=>x_l G J rfl λa8 _ U J G=>x_l G J rfl λa9 _ U J G=>?_;obtain⟨b1,j,G⟩:=bnd G;refine aCs aYi bCv (X.rdl 0 (d.rdl qz c) rfl) j J rfl λU J=>?_;obtain⟨cs,b,P⟩:=el (X.rdl 0 (d.rdl qz c) rfl) j;obtain rfl:=b;refine aL aEc (P 0 _ rfl) J rfl λU J=>x_m J rfl λU J=>eR G J (uC rfl (J.ev rfl) (J.ev rfl) (by decide)) rfl λb2 _ U J G=>x_l G J rfl λb3 _ U J G=>x_m J rfl λU J=>wn (M _ _ ?_);refine aC (xk 2 J rfl λU J=>?_);refine x_v (v:=.int .u32 N) J (dA O (aR uu5 aEc rfl (J.ev rfl))) rfl λU J=>eR G J (uC rfl (J.ev rfl) (J.ev rfl) (by decide)) rfl λb4 _ U J G=>x_l G J rfl λb5 _ U J G=>x_l G J rfl λb6 _ U J G=>?_;obtain⟨b7,k,G⟩:=bnd G;refine aCs aYi bCv (X.rdl 0 (d.rdl qz c) rfl) k J rfl λU J=>?_;obtain⟨cs,b,Q⟩:=el (X.rdl 0 (d.rdl qz c) rfl) k;obtain rfl:=b;refine aL aEc (Q 0 _ rfl) J rfl λU J=>x_m J rfl λU J=>eR G J (uC rfl (J.ev rfl) (J.ev rfl) (by decide)) rfl λb8 _ U J G=>x_l G J rfl λb9 _ U J G=>x_m J rfl λU J=>wpList_nil (H _ _ ?_);refine F _ _ (aC ?_);refine x_l G J rfl λc1 _ U J G=>x_m J rfl λU J=>wpList_nil ?_;cases G;exact⟨_,A _ rfl,J.sub _ rfl,X⟩
 cases G;exact wp_exit (u h (B _ rfl) U w (J.sub _ rfl) X)
theorem aDr {a0 A0 n0 c0 y} (G:uB a0=some y) (X:SH r (L) w) (a:RdL L (kI .u8) A0 n0 c0 a0) :
  Ret Tryz.prog 92 #[.slice A0 n0 c0] w λv w'=>v=.int .u32 y/\SH r (L) w':=by
 refine enter Tryz.func92 rfl Tryz.ntmps92 [(0,_)] rfl (by simp) ?_;intro U J Qf Q S;unfold uB at G;refine nz 1 J rfl λU J=>wp_seq_k λR x=>wD [0,1,3,7,0,16,48,112,240,511,0,1024,3072,7168,15360,32767,0,65536,196608,458752,983040,2097151,4194303] [] rfl J X (by kernel_rfl) λw X=>?_;obtain⟨c,d,G⟩:=bnd G;obtain⟨cs,b,z⟩:=el (X.rdl 0 a rfl) d;obtain rfl:=b;obtain⟨e,A,G⟩:=gV G;obtain⟨f,g,G⟩:=bnd G;obtain⟨cs,b,B⟩:=el (X.rdl 0 a rfl) g;obtain rfl:=b;obtain⟨h,C,G⟩:=gV G;obtain⟨i,D,G⟩:=gV G;obtain⟨j,E,G⟩:=gV G;obtain⟨k,l,G⟩:=bnd G;obtain⟨cs,b,F⟩:=el (X.rdl 0 a rfl) l;obtain rfl:=b;obtain⟨m,H,G⟩:=gV G;obtain⟨n,I,G⟩:=gV G;obtain⟨o,K,G⟩:=gV G;obtain⟨p,q,G⟩:=bnd G;obtain⟨cs,b,M⟩:=el (X.rdl 0 a rfl) q;obtain rfl:=b;obtain⟨s,N,G⟩:=gV G;obtain⟨t,O,G⟩:=gV G;obtain⟨u,P,G⟩:=gV G;refine⟨[(0,.slice A0 n0 c0),(1,.pointer (some (ea A0 ((0:Int).toNat * 1)))),(2,.int .u8 c),(3,.int .u32 e),(4,.slice A0 n0 c0),(5,.pointer (some (ea A0 ((1:Int).toNat * 1)))),(6,.int .u8 f),(7,.int .u32 h),(8,.int .u32 i),(9,.int .u32 j),(10,.slice A0 n0 c0),(11,.pointer (some (ea A0 ((2:Int).toNat * 1)))),(12,.int .u8 k),(13,.int .u32 m),(14,.int .u32 n),(15,.int .u32 o),(16,.slice A0 n0 c0),(17,.pointer (some (ea A0 ((3:Int).toNat * 1)))),(18,.int .u8 p),(19,.int .u32 s),(20,.int .u32 t),(21,.int .u32 u),(22,.int .u32 u)],?_⟩;refine dZ [0,1,2,3,4,5,6,7,8,9,10,11,12,13,14,15,16,17,18,19,20,21,22] (by kernel_rfl) ⟨pm rfl,pt [(3,.slice A0 n0 c0)] rfl (λU J=>fC cK sz5 (X.rdl 0 a rfl) d J rfl rfl rfl),pt [(4,.pointer (some (ea A0 ((0:Int).toNat * 1))))] rfl (λU J=>aQ uu5 (z 0 _ rfl) J rfl rfl rfl),pt [(5,.int .u8 c)] rfl λU J=>dA A (aR uu5 aEc rfl (J.ev rfl)),pm rfl,pt [(7,.slice A0 n0 c0)] rfl (λU J=>fC cK sz5 (X.rdl 0 a rfl) g J rfl rfl rfl),pt [(8,.pointer (some (ea A0 ((1:Int).toNat * 1))))] rfl (λU J=>aQ uu5 (B 0 _ rfl) J rfl rfl rfl),pt [(9,.int .u8 f)] rfl λU J=>dA C (aR uu5 aEc rfl (J.ev rfl)),pt [(10,.int .u32 h)] rfl λU J=>dA D (aDv rfl (J.ev rfl) (J.ev rfl) (by decide)),pt [(6,.int .u32 e),(11,.int .u32 i)] rfl λU J=>dA E (aLu rfl (J.ev rfl) (J.ev rfl)),pm rfl,pt [(13,.slice A0 n0 c0)] rfl (λU J=>fC cK sz5 (X.rdl 0 a rfl) l J rfl rfl rfl),pt [(14,.pointer (some (ea A0 ((2:Int).toNat * 1))))] rfl (λU J=>aQ uu5 (F 0 _ rfl) J rfl rfl rfl),pt [(15,.int .u8 k)] rfl λU J=>dA H (aR uu5 aEc rfl (J.ev rfl)),pt [(16,.int .u32 m)] rfl λU J=>dA I (aDv rfl (J.ev rfl) (J.ev rfl) (by decide)),pt [(12,.int .u32 j),(17,.int .u32 n)] rfl λU J=>dA K (aLu rfl (J.ev rfl) (J.ev rfl)),pm rfl,pt [(19,.slice A0 n0 c0)] rfl (λU J=>fC cK sz5 (X.rdl 0 a rfl) q J rfl rfl rfl),pt [(20,.pointer (some (ea A0 ((3:Int).toNat * 1))))] rfl (λU J=>aQ uu5 (M 0 _ rfl) J rfl rfl rfl),pt [(21,.int .u8 p)] rfl λU J=>dA N (aR uu5 aEc rfl (J.ev rfl)),pt [(22,.int .u32 s)] rfl λU J=>dA O (aDv rfl (J.ev rfl) (J.ev rfl) (by decide)),pt [(18,.int .u32 o),(23,.int .u32 t)] rfl λU J=>dA P (aLu rfl (J.ev rfl) (J.ev rfl)),pm rfl,trivial⟩ [(2,_)] rfl (λU J=>?_);cases G;refine x _ _ (wp_ret ?_);refine Q _ _ (lv Tryz.results92 J rfl ?_);exact⟨rfl,X⟩
theorem nP {a0 A0 n0 c0 y} (G:dG a0=some y) (X:SH r (L) w) (c:RdL L (kI .u8) A0 n0 c0 a0) :
  Ret Tryz.prog 45 #[.slice A0 n0 c0] w λv w'=>∃ (f:Option Addr) (g:Nat) (h:Nat),v=.slice f g h/\SH r (own (kI .u8) 5 f g h y::L) w':=by
 refine enter Tryz.func45 rfl Tryz.ntmps45 [(0,_)] rfl (by simp) ?_;intro U J Qf i z;unfold dG at G;refine nz 1 J rfl λU J=>wp_seq_k λs j=>ws λt a=>xk 1 J rfl λU J=>?_;rcases A0 with _ | k
 ·replace G:=aX1 (RdL.none_nil c (X.sfx 0)) G;refine x_v (v:=.bool true) J (aE2 (p:=none) cK rfl (J.ev rfl) (J.ev rfl)) rfl λU J=>wn (a _ _ ?_);refine c_t (b:=true) rfl J ?_ rfl;refine nz 1 J rfl λU J=>?_;replace X:=SH.nil_own (d:=(kI .u8)) (e:=5) X;cases G;refine wp_ret (i _ _ ?_);exact lv Tryz.results45 J rfl ⟨none,0,0,rfl,X⟩
 replace G:=aX2 G;refine x_v (v:=.bool false) J (aE2 (p:=some k) cK rfl (J.ev rfl) (J.ev rfl)) rfl λU J=>wn (a _ _ ?_);refine c_f (b:=false) rfl J ?_ rfl;refine wp_skip (j _ _ ?_);refine ws λu l=>jS (d:=(kI .u8)) (e:=5) (ps:=#[]) (cells:=[]) (xs:=[]) (λw=>by kernel_rfl) rfl rfl J X rfl λx U w X J=>x_m J rfl λU J=>?_;obtain⟨m,G⟩:=aD G;have hr:=X.rdl 1 c rfl;refine kJ 0 aFs cK J X hr.1 hr.2.1 m rfl rfl λn o q U w X J=>?_;rw [List.nil_append] at X;refine x_m J rfl λU J=>wn (l _ _ ?_);cases G;refine wp_ret (i _ _ ?_);exact lv Tryz.results45 J rfl ⟨n,o,q,rfl,X⟩
theorem zF {a0 a1 A0 n0 c0 y} (G:sA a0 a1=some y) (X:SH r (L) w) (qz:Nat) (a:L[qz]?=some (zone Z wz)) (p:Imm Z wz (kI .u8) A0 n0 c0 a0) (e5:Imm Z wz (kI .u32) (some ⟨0,0,none⟩) 16 16 bX) :
  Ret Tryz.prog 64 #[.slice A0 n0 c0,.int .i64 a1] w λv w'=>∃ (P:Option Addr) (Q:Nat) (R:Nat),v=.tuple #[(.int .u8 y.1),(.slice P Q R),(.int .i64 y.2.2.1),(.int .i64 y.2.2.2)]/\SH r (own (kI .u8) 5 P Q R y.2.1::L) w':=by
 refine enter Tryz.func64 rfl Tryz.ntmps64 [(0,_),(1,_)] rfl (by simp) ?_;intro U J Qf m g1;unfold sA at G;refine nz 4 J rfl λU J=>wp_seq_k λe6 W=>wp_seq_k λY a2=>?_;have S:∀q,vA a0 a1 q=some y->∀U w,FR 60 [] U [(0,.slice A0 n0 c0),(1,.int .i64 a1),(18,.bool q)]->SH r (L) w->Y U w:=by
  intro q G U w J X;unfold vA at G;refine a2 _ _ (aX J G rfl (λa3 G=>?_) λa3 G=>?_)
  ·refine nz 4 J rfl λU J=>?_;replace X:=SH.nil_own (d:=(kI .u8)) (e:=5) X;cases G;refine wp_ret (m _ _ ?_);exact lv4 Tryz.results64 J rfl rfl rfl rfl ⟨none,0,0,rfl,X⟩
  refine wp_skip (W _ _ ?_);refine ws λe7 a4=>xk 2 J rfl λU J=>?_;obtain⟨a5,s,G⟩:=bnd G;obtain⟨c,g,h,a6,b⟩:=aH8 p s;refine x_v (v:=.slice c g h) J (aD9 a6 (lN cK sz5 rfl (J.ev rfl) (J.ev rfl) (mJ (X.rdl 0 (p.rdl qz a) rfl) s).1 (mJ (X.rdl 0 (p.rdl qz a) rfl) s).2.2.2.2.2)) rfl λU J=>x_m J rfl λU J=>wn (a4 _ _ ?_);refine wp_seq_k λe8 a7=>ws λe9 a8=>xk 1 J rfl λU J=>aW cK (X.rdl 0 (b.rdl qz a) rfl).2.1 J rfl λU J=>nk 1 J rfl λU J=>a8 _ _ (aX J G rfl (λa9 G=>?_) λa9 G=>?_)
  ·refine nz 4 J rfl λU J=>?_;replace X:=SH.nil_own (d:=(kI .u8)) (e:=5) X;cases G;refine wp_ret (m _ _ ?_);exact lv4 Tryz.results64 J rfl rfl rfl rfl ⟨none,0,0,rfl,X⟩
  refine wp_skip (a7 _ _ ?_);refine ws λf0 b1=>xk 1 J rfl λU J=>?_;obtain⟨z,b2,G⟩:=bnd G;refine x_c bB0 J rfl (aDr b2 X (RdL.sfx 0 rfl (b.rdl qz a)) :) λv U w i J=>?_;obtain⟨rfl,X⟩:=i;refine x_m J rfl λU J=>wn (b1 _ _ ?_);refine wp_seq_k λf1 b3=>wp_seq_k λb4 b5=>?_;have T:∀t,vB a1 a5 z t=some y->∀U w,FR 60 [] U [(1,.int .i64 a1),(8,.slice c g h),(9,.int .u32 z),(36,.bool t)]->SH r (L) w->b4 U w:=by
   intro t G U w J X;unfold vB at G;refine b5 _ _ (aX J G rfl (λb6 G=>?_) λb6 G=>?_)
   ·refine nz 4 J rfl λU J=>?_;replace X:=SH.nil_own (d:=(kI .u8)) (e:=5) X;cases G;refine wp_ret (m _ _ ?_);exact lv4 Tryz.results64 J rfl rfl rfl rfl ⟨none,0,0,rfl,X⟩
   refine wp_skip (b3 _ _ ?_);refine ws λf2 b7=>xk 1 J rfl λU J=>eR G J (aR aEc uu3 rfl (J.ev rfl)) rfl λf3 _ U J G=>x_l G J rfl λj _ U J G=>x_m J rfl λU J=>wn (b7 _ _ ?_);refine wp_seq_k λf4 b8=>wp_seq_k λf5 b9=>wD [0,0,3,7,0,0,48,127,255] [3,7] rfl J X (by kernel_rfl) λw X=>?_;obtain⟨f6,u,G⟩:=bnd G;obtain⟨c1,c2,c3,c4,c5⟩:=aH7 b u;obtain⟨f7,k,G⟩:=bnd G;obtain⟨c6,c7,c8,A,c9⟩:=aH8 b k;refine⟨[(0,.slice c g h),(1,.int .i64 j),(2,.slice c1 c2 c3),(4,.slice c g h),(5,.int .i64 j),(6,.slice c6 c7 c8)],?_⟩;refine dF [0,1,2,4,5,6] [3] (by kernel_rfl) ⟨pm rfl,pm rfl,pt [(40,_),(41,_)] rfl λU J=>aD9 c4 (mQ cK sz5 rfl (J.ev rfl) (J.ev rfl) (mJ (X.rdl 0 (b.rdl qz a) rfl) u).2.2.2.2.1 (mJ (X.rdl 0 (b.rdl qz a) rfl) u).2.2.1),pm rfl,pm rfl,pt [(44,_),(45,_)] rfl λU J=>aD9 A (lN cK sz5 rfl (J.ev rfl) (J.ev rfl) (mJ (X.rdl 0 (b.rdl qz a) rfl) k).1 (mJ (X.rdl 0 (b.rdl qz a) rfl) k).2.2.2.2.2),trivial⟩ ⟨et [(42,_)] rfl (λU J K hK=>?_),trivial⟩;obtain⟨B,d0,G⟩:=bnd G;refine dR bBy J (aHe d0 X (qz+0) a (RdL.sfx 0 rfl (c5.rdl qz a)) e5 :) rfl λv w i=>?_;obtain⟨rfl,X⟩:=i;refine hK _ [] _ rfl (dF [4,5,6] [7] (by kernel_rfl) ⟨pm rfl,pm rfl,pt [(44,_),(45,_)] rfl λU J=>aD9 A (lN cK sz5 rfl (J.ev rfl) (J.ev rfl) (mJ (X.rdl 0 (b.rdl qz a) rfl) k).1 (mJ (X.rdl 0 (b.rdl qz a) rfl) k).2.2.2.2.2),trivial⟩ ⟨et [(46,_)] rfl (λU J K hK=>?_),trivial⟩);obtain⟨C,d2,G⟩:=bnd G;refine dR bB0 J (aDr d2 X (RdL.sfx 0 rfl (c9.rdl qz a)) :) rfl λv w i=>?_;obtain⟨rfl,X⟩:=i;refine hK _ [(8,.bool (B != C))] _ rfl (dZ [8] (by kernel_rfl) ⟨pt [(43,.int .u32 B),(47,.int .u32 C)] rfl (λU J=>yZ rfl (J.ev rfl) (J.ev rfl)),trivial⟩ [(1,_),(8,_),(10,_),(48,_)] rfl (λU J=>?_));refine b9 _ _ (aX J G rfl (λd3 G=>?_) λd3 G=>?_)
   ·refine nz 4 J rfl λU J=>?_;replace X:=SH.nil_own (d:=(kI .u8)) (e:=5) X;cases G;refine wp_ret (m _ _ ?_);exact lv4 Tryz.results64 J rfl rfl rfl rfl ⟨none,0,0,rfl,X⟩
   refine wp_skip (b8 _ _ ?_);refine wp_seq_k λf8 d4=>wD [0,1,3,0,0,24,56,0,0,384,896,127,2175,8191,16383] [6] rfl J X (by kernel_rfl) λw X=>?_;obtain⟨D,n,G⟩:=bnd G;obtain⟨cs,x,d5⟩:=el (X.rdl 0 (b.rdl qz a) rfl) n;obtain rfl:=x;obtain⟨f9,o,G⟩:=bnd G;obtain⟨d6,d7,d8,d9,e0⟩:=aLf b o;obtain⟨E,F,G⟩:=gV G;obtain⟨H,I,G⟩:=gV G;refine⟨[(0,.slice c g h),(1,.pointer (some (ea c ((4:Int).toNat * 1)))),(2,.int .u8 D),(3,.slice c g h),(4,.int .i64 j),(5,.slice d6 d7 d8),(7,.int .i64 a1),(8,.int .i64 j),(9,.int .i64 E),(10,.int .i64 H)],?_⟩;refine dF [0,1,2,3,4,5,7,8,9,10] [6] (by kernel_rfl) ⟨pm rfl,pt [(49,_)] rfl (λU J=>fC cK sz5 (X.rdl 0 (b.rdl qz a) rfl) n J rfl rfl rfl),pt [(50,_)] rfl (λU J=>aQ uu5 (d5 0 _ rfl) J rfl rfl rfl),pm rfl,pm rfl,pt [(52,_),(53,_)] rfl λU J=>aD9 d9 (aBc cK sz5 rfl (J.ev rfl) (J.ev rfl) (J.ev rfl) (mJ (X.rdl 0 (b.rdl qz a) rfl) o).1 (mJ (X.rdl 0 (b.rdl qz a) rfl) o).2.1 (mJ (X.rdl 0 (b.rdl qz a) rfl) o).2.2.1),pm rfl,pm rfl,pt [(56,_),(57,_)] rfl λU J=>dA F (kR rfl (J.ev rfl) (J.ev rfl)),pt [(58,_)] rfl λU J=>dA I (kR rfl (J.ev rfl) (J.ev rfl)),trivial⟩ ⟨et [(54,_)] rfl (λU J K hK=>?_),trivial⟩;obtain⟨g0,e1,G⟩:=bnd G;refine dR aY8 J (nP e1 X (RdL.sfx 0 rfl (e0.rdl qz a)) :) rfl λv w i=>?_;obtain⟨M,N,O,rfl,X⟩:=i;obtain⟨cs,x,e2⟩:=el (X.rdl 1 (b.rdl qz a) rfl) n;obtain rfl:=x;refine hK _ [(11,.int .u8 D),(12,.slice M N O),(13,.int .i64 H),(14,.int .i64 0)] _ rfl (dZ [0,1,2,7,8,9,10,11,12,13,14] (by kernel_rfl) ⟨pm rfl,pt [(49,.slice c g h)] rfl (λU J=>fC cK sz5 (X.rdl 1 (b.rdl qz a) rfl) n J rfl rfl rfl),pt [(50,.pointer (some (ea c ((4:Int).toNat * 1))))] rfl (λU J=>aQ uu5 (e2 0 _ rfl) J rfl rfl rfl),pm rfl,pm rfl,pt [(56,.int .i64 a1),(57,.int .i64 j)] rfl λU J=>dA F (kR rfl (J.ev rfl) (J.ev rfl)),pt [(58,.int .i64 E)] rfl λU J=>dA I (kR rfl (J.ev rfl) (J.ev rfl)),pm rfl,pm rfl,pm rfl,pm rfl,trivial⟩ [(4,_),(5,_),(6,_),(7,_)] rfl (λU J=>?_));cases G;refine d4 _ _ (wp_ret ?_);refine m _ _ (lv4 Tryz.results64 J rfl rfl rfl rfl ?_);exact⟨M,N,O,rfl,X⟩
  refine aC (xk 3 J rfl λU J=>?_);refine bcG G (λf G=>?_) λf G=>?_
  ·exact ng 7 f J rfl rfl λU J=>T true G U w (J.sub _ rfl) X
  refine xg 1 f J rfl rfl λU J=>aH f J ?_ rfl;refine eR G J (aR aEc uu3 rfl (J.ev rfl)) rfl λe3 _ U J G=>xg 1 f J rfl rfl λU J=>aH f J ?_ rfl;refine aW cK (X.rdl 0 (b.rdl qz a) rfl).2.1 J rfl λU J=>aH f J ?_ rfl;exact x_l G J rfl λe4 _ U J G=>ng 2 f J rfl rfl λU J=>T (decide (e4<e3)) G U w (J.sub _ rfl) X
 refine aC (xk 3 J rfl λU J=>?_);refine bcG G (λl G=>?_) λl G=>?_
 ·exact ng 5 l J rfl rfl λU J=>S true G U w (J.sub _ rfl) X
 refine xg 2 l J rfl rfl λU J=>aH l J ?_ rfl;exact aW cK (X.rdl 0 (p.rdl qz a) rfl).2.1 J rfl λU J=>ng 2 l J rfl rfl λU J=>S (decide ((a0.length:Int)<a1)) G U w (J.sub _ rfl) X
end
noncomputable section
set_option linter.unusedSimpArgs false
def yA (a0:Int):Option ((List Int)) :=
  ltt (IntKind.u8.wrap a0) λa=>(ltt (nX .u32 a0 8) λb=>(ltt (IntKind.u8.wrap b) λc=>(ltt (nX .u32 a0 16) λd=>(ltt (IntKind.u8.wrap d) λe=>(ltt (nX .u32 a0 24) λf=>(ltt (IntKind.u8.wrap f) λg=>(some [a,c,e,g])))))))
def wN (a0:(List Int)) (b:Int) (a2:(List Int)):Option ((List Int)) :=
  ltt (IntKind.u32.wrap (a2.length:Int)) λd=>((yA d).bind λa=>(chk (a.length+[b].length<=140737488355328 / 1) (chk ((a++[b]).length+a2.length<=140737488355328 / 1) (chk (a0.length+((a++[b])++a2).length<=140737488355328 / 1) ((aAk ((a++[b])++a2)).bind λe=>((yA e).bind λc=>(chk ((a0++((a++[b])++a2)).length+c.length<=140737488355328 / 1) (some ((a0++((a++[b])++a2))++c)))))))))
end
section
variable {r:World} {L:List HP} {w:World} {Z:Nat->Prop} {wz:World}
theorem aF4 {a0 y} (G:yA a0=some y) (X:SH r (L) w) :
  Ret Tryz.prog 88 #[.int .u32 a0] w λv w'=>∃ (g:Option Addr) (h:Nat) (i:Nat),v=.slice g h i/\SH r (own (kI .u8) 5 g h i y::L) w':=by
 refine enter Tryz.func88 rfl Tryz.ntmps88 [(0,_)] rfl (by simp) ?_;intro U J Qf l q;unfold yA at G;refine nz 1 J rfl λU J=>ws λm j=>xk 1 J rfl λU J=>eR G J (aR aEc uu5 rfl (J.ev rfl)) rfl λa _ U J G=>x_m J rfl λU J=>eR G J (uC rfl (J.ev rfl) (J.ev rfl) (by decide)) rfl λn _ U J G=>eR G J (aR aEc uu5 rfl (J.ev rfl)) rfl λb _ U J G=>x_m J rfl λU J=>eR G J (uC rfl (J.ev rfl) (J.ev rfl) (by decide)) rfl λo _ U J G=>eR G J (aR aEc uu5 rfl (J.ev rfl)) rfl λc _ U J G=>x_m J rfl λU J=>eR G J (uC rfl (J.ev rfl) (J.ev rfl) (by decide)) rfl λp _ U J G=>eR G J (aR aEc uu5 rfl (J.ev rfl)) rfl λf _ U J G=>jS (d:=(kI .u8)) (e:=5) (ps:=#[(0,.int .u8 a),(1,.int .u8 b),(2,.int .u8 c),(3,.int .u8 f)]) (cells:=[.int .u8 a,.int .u8 b,.int .u8 c,.int .u8 f]) (xs:=[a,b,c,f]) (λw=>by kernel_rfl) rfl ⟨[.int .u8 a],_,rfl,rfl,⟨[.int .u8 b],_,rfl,rfl,⟨[.int .u8 c],_,rfl,rfl,⟨[.int .u8 f],_,rfl,rfl,rfl⟩⟩⟩⟩ J X rfl λk U w X J=>x_m J rfl λU J=>wn (j _ _ ?_);cases G;refine wp_ret (l _ _ ?_);exact lv Tryz.results88 J rfl ⟨some ⟨k,0,none⟩,4,4,rfl,X⟩
theorem aAx {a0 a1 a2 A0 n0 c0 A2 n2 c2 y} (G:wN a0 a1 a2=some y) (X:SH r (own (kI .u8) 5 A0 n0 c0 a0::L) w) (qz:Nat) (u:L[qz]?=some (zone Z wz)) (b:RdL L (kI .u8) A2 n2 c2 a2) (x:Imm Z wz (kI .u32) (some ⟨0,0,none⟩) 16 16 bX) :
  Ret Tryz.prog 61 #[.slice A0 n0 c0,.int .u8 a1,.slice A2 n2 c2] w λv w'=>∃ (c:Option Addr) (f:Nat) (g:Nat),v=.slice c f g/\SH r (own (kI .u8) 5 c f g y::L) w':=by
 refine enter Tryz.func61 rfl Tryz.ntmps61 [(0,_),(1,_),(2,_)] rfl (by simp) ?_;intro U J Qf z a6;unfold wN at G;refine nz 1 J rfl λU J=>ws λA h=>xk 1 J rfl λU J=>aW cK (X.rdl 1 b rfl).2.1 J rfl λU J=>eR G J (aR uu3 aEc rfl (J.ev rfl)) rfl λB _ U J G=>?_;obtain⟨C,i,G⟩:=bnd G;refine x_c bBx J rfl (aF4 i X :) λv U w a J=>?_;obtain⟨D,E,F,rfl,X⟩:=a;refine x_m J rfl λU J=>jS (d:=(kI .u8)) (e:=5) (ps:=#[(0,.int .u8 a1)]) (cells:=[.int .u8 a1]) (xs:=[a1]) (λw=>by kernel_rfl) rfl ⟨[.int .u8 a1],_,rfl,rfl,rfl⟩ J X rfl λH U w X J=>?_;obtain⟨j,G⟩:=aD G;have hr:=X.rd 0 rfl;refine kJ 1 aFs cK J X hr.1 hr.2.1 j rfl rfl λI K M U w X J=>x_m J rfl λU J=>?_;obtain⟨k,G⟩:=aD G;have hr:=X.rdl 3 b rfl;refine kJ 0 aFs cK J X hr.1 hr.2.1 k rfl rfl λN O P U w X J=>x_m J rfl λU J=>wn (h _ _ ?_);refine ws λQ l=>xk 2 J rfl λU J=>?_;obtain⟨m,G⟩:=aD G;have hr:=X.rd 0 rfl;refine kJ 2 aFs cK J X hr.1 hr.2.1 m rfl rfl λR S T U w X J=>x_m J rfl λU J=>?_;obtain⟨W,n,G⟩:=bnd G;refine x_c bBy J rfl (aHe n X (qz+3) u (RdL.own 1 rfl (X.dropN 0)) x :) λv U w a J=>?_;obtain⟨rfl,X⟩:=a;obtain⟨Y,o,G⟩:=bnd G;refine x_c bBx J rfl (aF4 o X :) λv U w a J=>?_;obtain⟨a3,a4,a5,rfl,X⟩:=a;obtain⟨p,G⟩:=aD G;have hr:=X.rd 0 rfl;refine kJ 1 aFs cK J X hr.1 hr.2.1 p rfl rfl λq s t U w X J=>x_m J rfl λU J=>wn (l _ _ ?_);replace X:=X.drop 1 |>.drop 1 |>.drop 1;cases G;refine wp_ret (z _ _ ?_);exact lv Tryz.results61 J rfl ⟨q,s,t,rfl,X⟩
end
noncomputable section
set_option linter.unusedSimpArgs false
def uP (a:(List Int)) (c:Int):Option ((List Int)) :=
  ltt (IntKind.u8.wrap c) λb=>(chk (a.length+[b].length<=140737488355328 / 1) (some (a++[b])))
def rP (a:(List Int)) (b:Int):Option ((List Int)) :=
  uP a b
def lR (b:(List Int)) (a:Int):Option (((List Int)×Int)⊕(((List Int)×Int))) :=
  if (decide (128<=a))=true then (ltt (IntKind.u8.wrap a) λd=>(ltt (ior .u8 d 128) λc=>(chk (b.length+[c].length<=140737488355328 / 1) (ltt (nX .u64 a 7) λe=>(some (.inl (b++[c],e))))))) else (some (.inr (b,a)))
def fX (a0:(List Int)) (a:Int):Option ((List Int)) :=
  (loop (λs=>lR s.1 s.2) (a0,a)).bind λt=>rP t.1 t.2
def kW (a0:(List Int)) (a:Int):Option ((List Int)) :=
  ltt (wL .i64 a 1) λb=>(ltt (IntKind.u64.wrap b) λc=>(ltt (nX .i64 a 63) λd=>(ltt (IntKind.u64.wrap d) λe=>(ltt (aAf .u64 c e) λf=>((fX a0 f).bind λg=>(some g))))))
def mX (a0:(List Int)) (a:(List UInt8)):Option ((List Int)) :=
  ltt (IntKind.u64.wrap (a.length:Int)) λc=>((fX a0 c).bind λb=>(chk (b.length+a.length<=140737488355328 / 1) (some (b++stb a))))
def mN (a:Int):Option (Int) :=
  some a
def lI (a:Int):Option (Int) :=
  mN a
def cZ (a0:(List Int)) (a:Int) (b:Int):Option ((Int×Int)⊕((Int))) :=
  if (decide (b<(a0.length:Int)))=true then ((at_ a0 b).bind λc=>(ltt (IntKind.i64.wrap (b+1)) λd=>(some (.inl (if c<a then c else a,d))))) else (some (.inr (a)))
def iS (a0:(List Int)):Option (Int) :=
  if (decide ((a0.length:Int)<1))=true then (none) else ((at_ a0 0).bind λa=>((loop (λs=>cZ a0 s.1 s.2) (a,1)).bind λt=>lI t))
def qF (a:Int) (b:Int):Option (Int) :=
  ltt (IntKind.u8.wrap a) λc=>((at_ ([0,1,2,2,3,3,3,3,4,4,4,4,4,4,4,4,5,5,5,5,5,5,5,5,5,5,5,5,5,5,5,5,6,6,6,6,6,6,6,6,6,6,6,6,6,6,6,6,6,6,6,6,6,6,6,6,6,6,6,6,6,6,6,6,7,7,7,7,7,7,7,7,7,7,7,7,7,7,7,7,7,7,7,7,7,7,7,7,7,7,7,7,7,7,7,7,7,7,7,7,7,7,7,7,7,7,7,7,7,7,7,7,7,7,7,7,7,7,7,7,7,7,7,7,7,7,7,7,8,8,8,8,8,8,8,8,8,8,8,8,8,8,8,8,8,8,8,8,8,8,8,8,8,8,8,8,8,8,8,8,8,8,8,8,8,8,8,8,8,8,8,8,8,8,8,8,8,8,8,8,8,8,8,8,8,8,8,8,8,8,8,8,8,8,8,8,8,8,8,8,8,8,8,8,8,8,8,8,8,8,8,8,8,8,8,8,8,8,8,8,8,8,8,8,8,8,8,8,8,8,8,8,8,8,8,8,8,8,8,8,8,8,8,8,8,8,8,8,8,8,8,8,8,8,8,8]:List UInt8) c).bind λd=>(ltt (IntKind.i64.wrap (d.toNat:Int)) λe=>(ltt (IntKind.i64.wrap (b+e)) λf=>(some f))))
def qE (a:Int) (b:Int):Option (Int) :=
  if (decide (256<=a))=true then (ltt (nX .u64 a 8) λc=>(ltt (IntKind.i64.wrap (b+8)) λd=>(qF c d))) else (qF a b)
def qD (a:Int) (b:Int):Option (Int) :=
  if (decide (65536<=a))=true then (ltt (nX .u64 a 16) λc=>(ltt (IntKind.i64.wrap (b+16)) λd=>(qE c d))) else (qE a b)
def yI (a0:Int):Option (Int) :=
  if (decide (4294967296<=a0))=true then (ltt (nX .u64 a0 32) λa=>(qD a 32)) else (qD a0 0)
def uR (a:((List Int))) (b:Int) (c:(List Int)):Option ((List Int)) :=
  chk ((a++[b]).length+c.length<=140737488355328 / 1) (some ((a++[b])++c))
def rQ (a:((List Int))) (b:Int) (c:(List Int)):Option ((List Int)) :=
  uR a b c
def uS (a:Int) (b:Int) (c:(List Int)):Option ((Int×(List Int)×Int)⊕(((List Int)))) :=
  ltt (IntKind.i64.wrap (a+1)) λd=>(some (.inl (b,c,d)))
def rR (a:Int) (b:Int) (c:(List Int)):Option ((Int×(List Int)×Int)⊕(((List Int)))) :=
  uS a b c
def iN (f:(Int)) (g:Int) (h:Int) (a:Int) (c:(List Int)) (b:Int):Option ((Int×(List Int)×Int)⊕((Int×(List Int)))) :=
  if (decide (b<g))=true then (ltt (IntKind.i64.wrap (a.tdiv 8)) λd=>((at_ c d).bind λi=>(ltt (IntKind.i64.wrap (h - f)) λj=>(ltt (IntKind.u64.wrap j) λk=>(chk (0<=b) (ltt (nX .u64 k b) λl=>(ltt (aA3 .u64 l 1) λm=>(ltt (IntKind.u8.wrap m) λn=>(ltt (a.tmod 8) λe=>(chk (0<=e) (ltt (wL .u8 n e) λo=>(ltt (ior .u8 i o) λp=>(ltt (IntKind.i64.wrap (a+1)) λq=>(ltt (IntKind.i64.wrap (b+1)) λr=>(some (.inl (q,c.set d.toNat p,r))))))))))))))))) else (some (.inr (a,c)))
def iM (c:(List Int)) (d:(Int)) (e:Int) (f:Int) (b:(List Int)) (a:Int):Option ((Int×(List Int)×Int)⊕(((List Int)))) :=
  if (decide (a<(c.length:Int)))=true then ((at_ c a).bind λg=>((loop (λs=>iN d e g s.1 s.2.1 s.2.2) (f,b,0)).bind λt=>rR a t.1 t.2)) else (some (.inr (b)))
def uQ (a0:(List Int)) (f:(List Int)) (c:(Int)) (a:Int):Option ((List Int)) :=
  (kW a0 c).bind λd=>(ltt (IntKind.u8.wrap a) λe=>(chk (d.length+[e].length<=140737488355328 / 1) (ltt (IntKind.i64.wrap ((f.length:Int) * a)) λg=>(ltt (IntKind.i64.wrap (g+7)) λh=>(ltt (IntKind.i64.wrap (h.tdiv 8)) λb=>(chk (0<=b/\(1:Int) * b<=140737488355328) ((loop (λs=>iM f c a s.1 s.2.1 s.2.2) (0,List.replicate b.toNat (0:Int),0)).bind λt=>rQ d e t)))))))
def rS (a0:(List Int)) (c:(List Int)) (a:(Int)) (b:Int):Option ((List Int)) :=
  uQ a0 c a b
def iO (d:(List Int)) (e:(Int)) (a:Int) (b:Int):Option ((Int×Int)⊕((Int))) :=
  if (decide (b<(d.length:Int)))=true then ((at_ d b).bind λf=>(ltt (IntKind.i64.wrap (f - e)) λg=>(ltt (IntKind.u64.wrap g) λh=>((yI h).bind λc=>(ltt (IntKind.i64.wrap (b+1)) λi=>(some (.inl (if a<c then c else a,i)))))))) else (some (.inr (a)))
def tW (a0:(List Int)) (a:(List Int)):Option ((List Int)) :=
  if ((a.length:Int)==0)=true then (some a0) else ((iS a).bind λb=>((loop (λs=>iO a b s.1 s.2) (0,0)).bind λt=>rS a0 a b t))
def iK (a:(List Int)):Option ((List Int)) :=
  some a
def xH (a:(List Int)):Option ((List Int)) :=
  iK a
def uJ (a:(List Int)):Option ((List Int)) :=
  xH a
def lD (c:(List Int)) (b:(List Int)) (a:Int):Option (((List Int)×Int)⊕(((List Int)))) :=
  if (decide (a<(c.length:Int)))=true then ((at_ c a).bind λd=>((kW b d).bind λe=>(ltt (IntKind.i64.wrap (a+1)) λf=>(some (.inl (e,f)))))) else (some (.inr (b)))
def xI (a:(List Int)):Option ((List Int)) :=
  iK a
def uK (a:(List Int)):Option ((List Int)) :=
  xI a
def lE (d:(List Int)) (b:(List Int)) (e:Int) (a:Int):Option (((List Int)×Int×Int)⊕(((List Int)))) :=
  if (decide (a<(d.length:Int)))=true then ((at_ d a).bind λc=>(ltt (IntKind.i64.wrap (c - e)) λf=>((kW b f).bind λg=>(ltt (IntKind.i64.wrap (a+1)) λh=>(some (.inl (g,c,h))))))) else (some (.inr (b)))
def xJ (a:(List Int)):Option ((List Int)) :=
  iK a
def uL (a:(List Int)):Option ((List Int)) :=
  xJ a
def xK (j:(List Int)) (c:(List Int)) (a:Int) (b:Int):Option (((List Int)×Int)⊕(((List Int)))) :=
  (at_ j a).bind λd=>((kW c d).bind λe=>(ltt (IntKind.i64.wrap (b - 1)) λf=>(ltt (IntKind.u64.wrap f) λg=>((fX e g).bind λh=>(ltt (IntKind.i64.wrap (a+b)) λi=>(some (.inl (h,i))))))))
def uM (d:(List Int)) (a:(List Int)) (b:Int) (c:Int):Option (((List Int)×Int)⊕(((List Int)))) :=
  xK d a b c
def pE (a:Int) (b:Bool):Option ((Int)⊕((Int))) :=
  if b=true then (ltt (IntKind.i64.wrap (a+1)) λc=>(some (.inl (c)))) else (some (.inr (a)))
def mV (b:(List Int)) (c:Int) (a:Int):Option ((Int)⊕((Int))) :=
  ltt (IntKind.i64.wrap (c+a)) λd=>(if (decide (d<(b.length:Int)))=true then ((at_ b d).bind λe=>((at_ b c).bind λf=>(pE a (e==f)))) else (pE a false))
def mU (b:(List Int)) (c:(List Int)) (a:Int):Option (((List Int)×Int)⊕(((List Int)))) :=
  if (decide (a<(b.length:Int)))=true then ((loop (λs=>mV b a s) (1)).bind λt=>uM b c a t) else (some (.inr (c)))
def vL (a0:Int) (b:(List Int)):Option ((List Int)) :=
  ltt (IntKind.u64.wrap (b.length:Int)) λc=>((fX [a0] c).bind λa=>(if (a0==0)=true then ((loop (λs=>lD b s.1 s.2) (a,0)).bind λt=>uJ t) else (if (a0==1)=true then ((loop (λs=>lE b s.1 s.2.1 s.2.2) (a,0,0)).bind λt=>uK t) else (if (a0==2)=true then ((loop (λs=>mU b s.1 s.2) (a,0)).bind λt=>uL t) else (if (a0==3)=true then ((tW a b).bind λd=>(iK d)) else (iK a))))))
def yM (a:(List Int)):Option ((List Int)) :=
  some a
def vM (a:(List Int)):Option ((List Int)) :=
  yM a
def rA (a:Int) (b:(List Int)):Option (((List Int)×Int)⊕(((List Int)))) :=
  ltt (IntKind.u8.wrap (a+1)) λc=>(some (.inl (b,c)))
def fV (a0:(List Int)) (b:(List Int)) (a:Int):Option (((List Int)×Int)⊕(((List Int)))) :=
  if (decide (a<=3))=true then ((vL a a0).bind λc=>(if (decide ((c.length:Int)<(b.length:Int)))=true then (rA a c) else (rA a b))) else (some (.inr (b)))
def mW (a0:(List Int)):Option ((List Int)) :=
  (vL 0 a0).bind λa=>((loop (λs=>fV a0 s.1 s.2) (a,1)).bind λt=>vM t)
end
section
variable {r:World} {L:List HP} {w:World} {Z:Nat->Prop} {wz:World}
theorem iF {a0 a1 A0 n0 c0 y} (G:fX a0 a1=some y) (X:SH r (own (kI .u8) 5 A0 n0 c0 a0::L) w) :
  Ret Tryz.prog 59 #[.slice A0 n0 c0,.int .u64 a1] w λv w'=>∃ (z:Option Addr) (A:Nat) (B:Nat),v=.slice z A B/\SH r (own (kI .u8) 5 z A B y::L) w':=by
 refine enter Tryz.func59 rfl Tryz.ntmps59 [(0,_),(1,_)] rfl (by simp) ?_;intro U J Qf hQ c1;unfold fX at G;refine nz 1 J rfl λU J=>wp_seq_k λa9 D=>aA λt E=>?_;have a8:∀m n,uP m n=some y->∀o p q U w,FR 20 [] U [(0,.slice o p q),(1,.int .u64 n)]->SH r (own (kI .u8) 5 o p q m::L) w->t U w:=by intro m n G o p q U w J X;unfold uP at G;refine E _ _ (D _ _ ?_);refine ws λb1 F=>xk 2 J rfl λU J=>eR G J (aR bM uu5 rfl (J.ev rfl)) rfl λc _ U J G=>jS (d:=(kI .u8)) (e:=5) (ps:=#[(0,.int .u8 c)]) (cells:=[.int .u8 c]) (xs:=[c]) (λw=>by kernel_rfl) rfl ⟨[.int .u8 c],_,rfl,rfl,rfl⟩ J X rfl λb2 U w X J=>?_;obtain⟨H,G⟩:=aD G;have hr:=X.rd 0 rfl;refine kJ 1 aFs cK J X hr.1 hr.2.1 H rfl rfl λI K M U w X J=>x_m J rfl λU J=>wn (F _ _ ?_);replace X:=X.drop 1;cases G;refine wp_ret (hQ _ _ ?_);exact lv Tryz.results59 J rfl ⟨I,K,M,rfl,X⟩
 obtain⟨N,O,G⟩:=bnd G;have P:∀a b,(a,b)=N->∀f g h U w,FR 20 [] U [(0,.slice f g h),(1,.int .u64 b)]->SH r (own (kI .u8) 5 f g h a::L) w->t U w:=by intro a b ht f g h U w J X;subst ht;replace G:rP a b=some y:=G;unfold rP at G;exact a8 a b G f g h U w (J.sub _ rfl) X
 refine aS O (λs U w=>∃i j k,FR 20 [] U [(0,.slice i j k),(1,.int .u64 s.2)]/\SH r (own (kI .u8) 5 i j k s.1::L) w) ⟨A0,n0,c0,J.sub _ rfl,X⟩ ?_;intro b3 Q R G S T U w C;obtain⟨u,x⟩:=Q;replace G:lR u x=some R:=G;unfold lR at G
 try dsimp only at C
 obtain⟨i,j,k,J,X⟩:=C;refine wp_seq_k λb4 W=>nz 2 J rfl λU J=>aX J G rfl (λY G=>?_) λY G=>?_
 ·refine wp_skip (W _ _ ?_);refine wp_seq_k λb5 Z=>aA λb6 a2=>aC (xk 2 J rfl λU J=>?_);refine eR G J (aR bM uu5 rfl (J.ev rfl)) rfl λb7 _ U J G=>x_l G J rfl λl _ U J G=>jS (d:=(kI .u8)) (e:=5) (ps:=#[(0,.int .u8 l)]) (cells:=[.int .u8 l]) (xs:=[l]) (λw=>by kernel_rfl) rfl ⟨[.int .u8 l],_,rfl,rfl,rfl⟩ J X rfl λb8 U w X J=>?_;obtain⟨a3,G⟩:=aD G;have hr:=X.rd 0 rfl;refine kJ 1 aFs cK J X hr.1 hr.2.1 a3 rfl rfl λa4 a5 a6 U w X J=>x_m J rfl λU J=>wpList_nil (a2 _ _ ?_);refine Z _ _ (aC ?_);refine x_m J rfl λU J=>eR G J (uC rfl (J.ev rfl) (J.ev rfl) (by decide)) rfl λb9 _ U J G=>x_m J rfl λU J=>wpList_nil ?_;replace X:=X.drop 1;cases G;exact⟨_,S _ rfl,a4,a5,a6,J.sub _ rfl,X⟩
 cases G;exact wp_exit (P u x (T _ rfl) i j k U w (J.sub _ rfl) X)
theorem mS {a0 a1 A0 n0 c0 y} (G:kW a0 a1=some y) (X:SH r (own (kI .u8) 5 A0 n0 c0 a0::L) w) :
  Ret Tryz.prog 60 #[.slice A0 n0 c0,.int .i64 a1] w λv w'=>∃ (a:Option Addr) (b:Nat) (c:Nat),v=.slice a b c/\SH r (own (kI .u8) 5 a b c y::L) w':=by
 refine enter Tryz.func60 rfl Tryz.ntmps60 [(0,_),(1,_)] rfl (by simp) ?_;intro U J Qf i s;unfold kW at G;refine nz 1 J rfl λU J=>ws λk d=>xk 2 J rfl λU J=>eR G J (aDv rfl (J.ev rfl) (J.ev rfl) (by decide)) rfl λl _ U J G=>eR G J (aR uu2 bM rfl (J.ev rfl)) rfl λm _ U J G=>x_m J rfl λU J=>eR G J (uC rfl (J.ev rfl) (J.ev rfl) (by decide)) rfl λn _ U J G=>eR G J (aR uu2 bM rfl (J.ev rfl)) rfl λo _ U J G=>x_l G J rfl λp _ U J G=>?_;obtain⟨q,e,G⟩:=bnd G;refine x_c aJb J rfl (iF e X :) λv U w j J=>?_;obtain⟨f,g,h,rfl,X⟩:=j;refine x_m J rfl λU J=>wn (d _ _ ?_);cases G;refine wp_ret (i _ _ ?_);exact lv Tryz.results60 J rfl ⟨f,g,h,rfl,X⟩
theorem wA {a0 a1 A0 n0 c0 y} (G:mX a0 a1=some y) (X:SH r (own (kI .u8) 5 A0 n0 c0 a0::L) w) :
  Ret Tryz.prog 85 #[.slice A0 n0 c0,str a1] w λv w'=>∃ (a:Option Addr) (b:Nat) (c:Nat),v=.slice a b c/\SH r (own (kI .u8) 5 a b c y::L) w':=by
 refine enter Tryz.func85 rfl Tryz.ntmps85 [(0,_),(1,_)] rfl (by simp) ?_;intro U J Qf j s;unfold mX at G;refine nz 1 J rfl λU J=>ws λl d=>xk 2 J rfl λU J=>x_v J (aCi uu9 rfl (J.ev rfl)) rfl λU J=>eR G J (aR uu3 bM rfl (J.ev rfl)) rfl λm _ U J G=>?_;obtain⟨n,e,G⟩:=bnd G;refine x_c aJb J rfl (iF e X :) λv U w k J=>?_;obtain⟨o,p,q,rfl,X⟩:=k;refine x_m J rfl λU J=>?_;obtain⟨f,G⟩:=aD G;refine aWx 0 aFs cK uu9 J X f rfl rfl λg h i U w X J=>x_m J rfl λU J=>wn (d _ _ ?_);cases G;refine wp_ret (j _ _ ?_);exact lv Tryz.results85 J rfl ⟨g,h,i,rfl,X⟩
theorem zQ {a0 A0 n0 c0 y} (G:iS a0=some y) (X:SH r (L) w) (a:RdL L (kI .i64) A0 n0 c0 a0) :
  Ret Tryz.prog 148 #[.slice A0 n0 c0] w λv w'=>v=.int .i64 y/\SH r (L) w':=by
 refine enter Tryz.func148 rfl Tryz.ntmps148 [(0,_)] rfl (by simp) ?_;intro U J Qf M a4;unfold iS at G;refine nz 1 J rfl λU J=>wp_seq_k λO j=>ws λP k=>xk 1 J rfl λU J=>aW bV (X.rdl 0 a rfl).2.1 J rfl λU J=>nk 1 J rfl λU J=>k _ _ (aX J G rfl (λl G=>?_) λl G=>?_)
 ·refine aC (x_v J (aQj uu9 rfl rfl (J.ev rfl)) rfl λU J=>?_);cases G
 refine wp_skip (j _ _ ?_);refine ws λQ m=>xk 1 J rfl λU J=>?_;obtain⟨R,e,G⟩:=bnd G;refine fS bV sz2 (X.rdl 0 a rfl) e J rfl λU J=>?_;obtain⟨cs,d,n⟩:=el (X.rdl 0 a rfl) e;obtain rfl:=d;refine aL uu2 (n 0 _ rfl) J rfl λU J=>x_m J rfl λU J=>wn (m _ _ ?_);refine wp_seq_k λS o=>nz 1 J rfl λU J=>aA λf p=>?_;have N:∀c,mN c=some y->∀U w,FR 25 [] U [(3,.int .i64 c)]->SH r (L) w->f U w:=by intro c G U w J X;unfold mN at G;refine p _ _ (o _ _ ?_);refine nz 2 J rfl λU J=>?_;cases G;refine wp_ret (M _ _ ?_);exact lv Tryz.results148 J rfl ⟨rfl,X⟩
 obtain⟨q,t,G⟩:=bnd G;have u:∀b,(b)=q->∀U w,FR 25 [] U [(3,.int .i64 b)]->SH r (L) w->f U w:=by intro b ht U w J X;subst ht;replace G:lI b=some y:=G;unfold lI at G;exact N b G U w (J.sub _ rfl) X
 refine aS t (λs U w=>FR 25 [] U [(0,.slice A0 n0 c0),(3,.int .i64 s.1),(4,.int .i64 s.2)]/\SH r (L) w) ⟨J.sub _ rfl,X⟩ ?_;intro T x z G A B U w i;obtain⟨g,C⟩:=x;replace G:cZ a0 g C=some z:=G;unfold cZ at G
 try dsimp only at i
 obtain⟨J,X⟩:=i;refine wp_seq_k λW D=>ws λY E=>xk 2 J rfl λU J=>aW bV (X.rdl 0 a rfl).2.1 J rfl λU J=>nk 1 J rfl λU J=>E _ _ (aX J G rfl (λF G=>?_) λF G=>?_)
 ·refine wp_skip (D _ _ ?_);refine wp_seq_k λZ H=>aA λa1 I=>aC (xk 3 J rfl λU J=>?_);obtain⟨a2,h,G⟩:=bnd G;refine fS bV sz2 (X.rdl 0 a rfl) h J rfl λU J=>?_;obtain⟨cs,d,K⟩:=el (X.rdl 0 a rfl) h;obtain rfl:=d;refine aL uu2 (K 0 _ rfl) J rfl λU J=>x_v J (aIq rfl (J.ev rfl) (J.ev rfl)) rfl λU J=>x_m J rfl λU J=>wpList_nil (I _ _ ?_);refine H _ _ (aC ?_);refine x_m J rfl λU J=>x_l G J rfl λa3 _ U J G=>x_m J rfl λU J=>wpList_nil ?_;cases G;exact⟨_,A _ rfl,J.sub _ rfl,X⟩
 cases G;exact wp_exit (u g (B _ rfl) U w (J.sub _ rfl) X)
theorem aKs {a0 y} (G:yI a0=some y) (X:SH r (L) w) :
  Ret Tryz.prog 134 #[.int .u64 a0] w λv w'=>v=.int .i64 y/\SH r (L) w':=by
 refine enter Tryz.func134 rfl Tryz.ntmps134 [(0,_)] rfl (by simp) ?_;intro U J Qf H S;unfold yI at G;refine nz 1 J rfl λU J=>wp_seq_k λk l=>?_;have h:∀a b,qD a b=some y->∀U w,FR 25 [] U [(0,.int .u64 a),(2,.int .i64 b)]->SH r (L) w->k U w:=by
  intro a b G U w J X;unfold qD at G;refine l _ _ (wp_seq_k λm n=>?_);have i:∀c d,qE c d=some y->∀U w,FR 25 [] U [(0,.int .u64 c),(2,.int .i64 d)]->SH r (L) w->m U w:=by
   intro c d G U w J X;unfold qE at G;refine n _ _ (wp_seq_k λo p=>?_);have j:∀e f,qF e f=some y->∀U w,FR 25 [] U [(0,.int .u64 e),(2,.int .i64 f)]->SH r (L) w->o U w:=by intro e f G U w J X;unfold qF at G;refine p _ _ (ws λI q=>?_);refine xk 2 J rfl λU J=>eR G J (aR bM uu5 rfl (J.ev rfl)) rfl λK _ U J G=>?_;obtain⟨M,g,G⟩:=bnd G;refine x_v J (aNp uu9 rfl (J.ev rfl) (J.ev rfl) (jD g).1 (jD g).2.2) rfl λU J=>eR G J (aR uu5 uu3 rfl (J.ev rfl)) rfl λN _ U J G=>x_l G J rfl λO _ U J G=>x_m J rfl λU J=>wn (q _ _ ?_);cases G;refine wp_ret (H _ _ ?_);exact lv Tryz.results134 J rfl ⟨rfl,X⟩
   refine nz 2 J rfl λU J=>aX J G rfl (λs G=>?_) λs G=>?_
   ·refine ws λP t=>xk 1 J rfl λU J=>eR G J (uC rfl (J.ev rfl) (J.ev rfl) (by decide)) rfl λu _ U J G=>x_m J rfl λU J=>wn (t _ _ ?_);refine aC (x_m J rfl λU J=>?_);exact x_l G J rfl λx _ U J G=>x_m J rfl λU J=>wpList_nil (j u x G U w (J.sub _ rfl) X)
   exact wp_skip (j c d G U w (J.sub _ rfl) X)
  refine nz 2 J rfl λU J=>aX J G rfl (λz G=>?_) λz G=>?_
  ·refine ws λQ A=>xk 1 J rfl λU J=>eR G J (uC rfl (J.ev rfl) (J.ev rfl) (by decide)) rfl λB _ U J G=>x_m J rfl λU J=>wn (A _ _ ?_);refine aC (x_m J rfl λU J=>?_);exact x_l G J rfl λC _ U J G=>x_m J rfl λU J=>wpList_nil (i B C G U w (J.sub _ rfl) X)
  exact wp_skip (i a b G U w (J.sub _ rfl) X)
 refine nz 2 J rfl λU J=>aX J G rfl (λD G=>?_) λD G=>?_
 ·refine ws λR E=>xk 1 J rfl λU J=>eR G J (uC rfl (J.ev rfl) (J.ev rfl) (by decide)) rfl λF _ U J G=>x_m J rfl λU J=>wn (E _ _ ?_);refine aC (x_m J rfl λU J=>?_);exact wpList_nil (h F 32 G U w (J.sub _ rfl) X)
 exact wp_skip (h a0 0 G U w (J.sub _ rfl) X)
theorem aI7 {a0 a1 A0 n0 c0 A1 n1 c1 y} (G:tW a0 a1=some y) (X:SH r (own (kI .u8) 5 A0 n0 c0 a0::L) w) (m:RdL L (kI .i64) A1 n1 c1 a1) :
  Ret Tryz.prog 138 #[.slice A0 n0 c0,.slice A1 n1 c1] w λv w'=>∃ (B0:Option Addr) (m0:Nat) (d0:Nat),v=.slice B0 m0 d0/\SH r (own (kI .u8) 5 B0 m0 d0 y::L) w':=by
 refine enter Tryz.func138 rfl Tryz.ntmps138 [(0,_),(1,_)] rfl (by simp) ?_;intro U J Qf hQ n7;unfold tW at G;refine nz 1 J rfl λU J=>wp_seq_k λj5 a6=>ws λj6 a7=>xk 1 J rfl λU J=>aW bV (X.rdl 1 m rfl).2.1 J rfl λU J=>nk 1 J rfl λU J=>a7 _ _ (aX J G rfl (λa8 G=>?_) λa8 G=>?_)
 ·refine nz 2 J rfl λU J=>?_;cases G;refine wp_ret (hQ _ _ ?_);exact lv Tryz.results138 J rfl ⟨A0,n0,c0,rfl,X⟩
 refine wp_skip (a6 _ _ ?_);refine ws λj7 a9=>xk 1 J rfl λU J=>?_;obtain⟨f,b1,G⟩:=bnd G;refine x_c bBe J rfl (zQ b1 X (RdL.sfx 1 rfl m) :) λv U w z J=>?_;obtain⟨rfl,X⟩:=z;refine x_m J rfl λU J=>wn (a9 _ _ ?_);refine nz 1 J rfl λU J=>wp_seq_k λj8 b2=>ws λj9 b3=>xk 1 J rfl λU J=>aW bV (X.rdl 1 m rfl).2.1 J rfl λU J=>x_m J rfl λU J=>wn (b3 _ _ ?_);refine aA λO b4=>?_;have j2:∀l,uQ a0 a1 f l=some y->∀U w,FR 83 [] U [(0,.slice A0 n0 c0),(1,.slice A1 n1 c1),(5,.int .i64 f),(6,.int .i64 l)]->SH r (own (kI .u8) 5 A0 n0 c0 a0::L) w->O U w:=by
  intro l G U w J X;unfold uQ at G;refine b4 _ _ (b2 _ _ ?_);refine ws λk0 b5=>xk 2 J rfl λU J=>?_;obtain⟨n,b6,G⟩:=bnd G;refine x_c aM3 J rfl (mS b6 X :) λv U w z J=>?_;obtain⟨k1,k2,k3,rfl,X⟩:=z;refine x_m J rfl λU J=>eR G J (aR uu3 uu5 rfl (J.ev rfl)) rfl λg _ U J G=>jS (d:=(kI .u8)) (e:=5) (ps:=#[(0,.int .u8 g)]) (cells:=[.int .u8 g]) (xs:=[g]) (λw=>by kernel_rfl) rfl ⟨[.int .u8 g],_,rfl,rfl,rfl⟩ J X rfl λk4 U w X J=>?_;obtain⟨b7,G⟩:=aD G;have hr:=X.rd 0 rfl;refine kJ 1 aFs cK J X hr.1 hr.2.1 b7 rfl rfl λi j k U w X J=>x_m J rfl λU J=>wn (b5 _ _ ?_);refine nz 1 J rfl λU J=>ws λk5 b8=>xk 1 J rfl λU J=>aW bV (X.rdl 2 m rfl).2.1 J rfl λU J=>x_m J rfl λU J=>x_l G J rfl λk6 _ U J G=>x_l G J rfl λk7 _ U J G=>eR G J (aNq rfl (J.ev rfl) (J.ev rfl) (by decide)) rfl λa _ U J G=>?_;obtain⟨b9,G⟩:=aD G;refine aPh (d:=(kI .u8)) (bytes:=1) 0 aFs rfl cK b9 J X rfl λb U w X J=>x_m J rfl λU J=>wn (b8 _ _ ?_);refine wp_seq_k λk8 c2=>ws λk9 c3=>xk 1 J rfl λU J=>aW bV (X.rdl 3 m rfl).2.1 J rfl λU J=>x_m J rfl λU J=>wn (c3 _ _ ?_);refine aA λP c4=>?_;have j3:∀D,uR n g D=some y->∀U w,FR 83 [] U [(0,.slice i j k),(10,.slice (some ⟨b,0,none⟩) a.toNat a.toNat)]->SH r (own (kI .u8) 5 i j k (n++[g])::own (kI .u8) 5 (some ⟨b,0,none⟩) a.toNat a.toNat D::L) w->P U w:=by intro D G U w J X;unfold uR at G;refine c4 _ _ (c2 _ _ ?_);refine ws λl0 c5=>xk 2 J rfl λU J=>?_;obtain⟨c6,G⟩:=aD G;have hr:=X.rd 1 rfl;refine kJ 0 aFs cK J X hr.1 hr.2.1 c6 rfl rfl λc7 c8 c9 U w X J=>x_m J rfl λU J=>wn (c5 _ _ ?_);replace X:=X.drop 1;cases G;refine wp_ret (hQ _ _ ?_);exact lv Tryz.results138 J rfl ⟨c7,c8,c9,rfl,X⟩
  obtain⟨d1,d2,G⟩:=bnd G;have d3:∀q,(q)=d1->∀U w,FR 83 [] U [(0,.slice i j k),(10,.slice (some ⟨b,0,none⟩) a.toNat a.toNat)]->SH r (own (kI .u8) 5 i j k (n++[g])::own (kI .u8) 5 (some ⟨b,0,none⟩) a.toNat a.toNat q::L) w->P U w:=by intro q ht U w J X;subst ht;replace G:rQ n g q=some y:=G;unfold rQ at G;exact j3 q G U w (J.sub _ rfl) X
  replace X:=X.drop 2 |>.pk 1;refine aS d2 (λs U w=>FR 83 [] U [(0,.slice i j k),(5,.int .i64 f),(6,.int .i64 l),(9,.int .i64 s.1),(10,.slice (some ⟨b,0,none⟩) a.toNat a.toNat),(48,.slice A1 n1 c1),(49,.int .i64 (a1.length:Int)),(50,.int .i64 s.2.2)]/\SH r (own (kI .u8) 5 i j k (n++[g])::own (kI .u8) 5 (some ⟨b,0,none⟩) a.toNat a.toNat s.2.1::L) w) ⟨J.sub _ rfl,X⟩ ?_;intro l1 d4 E G d5 d6 U w o;obtain⟨d7,Q,p⟩:=d4;replace G:iM a1 f l d7 Q p=some E:=G;unfold iM at G
  try dsimp only at o
  obtain⟨J,X⟩:=o;refine nz 1 J rfl λU J=>wp_seq_k λl2 d8=>aX J G rfl (λd9 G=>?_) λd9 G=>?_
  ·refine wp_skip (d8 _ _ ?_);refine wp_seq_k λl3 e0=>aA λl4 e1=>ws λl5 e2=>?_;obtain⟨F,R,G⟩:=bnd G;refine fS bV sz2 (X.rdl 2 m rfl) R J rfl λU J=>?_;obtain⟨cs,A,e3⟩:=el (X.rdl 2 m rfl) R;obtain rfl:=A;refine aL uu2 (e3 0 _ rfl) J rfl λU J=>x_m J rfl λU J=>wn (e2 _ _ ?_);refine nz 2 J rfl λU J=>aA λS e4=>?_;have j4:∀H I,uS p H I=some E->∀U w,FR 83 [] U [(0,.slice i j k),(5,.int .i64 f),(6,.int .i64 l),(9,.int .i64 H),(10,.slice (some ⟨b,0,none⟩) a.toNat a.toNat),(48,.slice A1 n1 c1),(49,.int .i64 (a1.length:Int)),(50,.int .i64 p)]->SH r (own (kI .u8) 5 i j k (n++[g])::own (kI .u8) 5 (some ⟨b,0,none⟩) a.toNat a.toNat I::L) w->S U w:=by intro H I G U w J X;unfold uS at G;refine e4 _ _ (e1 _ _ ?_);refine e0 _ _ (aC ?_);refine x_l G J rfl λl6 _ U J G=>x_m J rfl λU J=>wpList_nil ?_;cases G;exact⟨_,d5 _ rfl,J.sub _ rfl,X⟩
   obtain⟨e5,e6,G⟩:=bnd G;have e7:∀t u,(t,u)=e5->∀U w,FR 83 [] U [(0,.slice i j k),(5,.int .i64 f),(6,.int .i64 l),(9,.int .i64 t),(10,.slice (some ⟨b,0,none⟩) a.toNat a.toNat),(48,.slice A1 n1 c1),(49,.int .i64 (a1.length:Int)),(50,.int .i64 p)]->SH r (own (kI .u8) 5 i j k (n++[g])::own (kI .u8) 5 (some ⟨b,0,none⟩) a.toNat a.toNat u::L) w->S U w:=by intro t u ht U w J X;subst ht;replace G:rR p t u=some E:=G;unfold rR at G;exact j4 t u G U w (J.sub _ rfl) X
   refine aS e6 (λs U w=>FR 83 [] U [(0,.slice i j k),(5,.int .i64 f),(6,.int .i64 l),(9,.int .i64 s.1),(10,.slice (some ⟨b,0,none⟩) a.toNat a.toNat),(12,.int .i64 F),(48,.slice A1 n1 c1),(49,.int .i64 (a1.length:Int)),(50,.int .i64 p),(54,.int .i64 l),(55,.int .i64 s.2.2)]/\SH r (own (kI .u8) 5 i j k (n++[g])::own (kI .u8) 5 (some ⟨b,0,none⟩) a.toNat a.toNat s.2.1::L) w) ⟨J.sub _ rfl,X⟩ ?_;intro l7 e8 e9 G f0 f1 U w o;obtain⟨B,T,W⟩:=e8;replace G:iN f l F B T W=some e9:=G;unfold iN at G
   try dsimp only at o
   obtain⟨J,X⟩:=o;refine nz 1 J rfl λU J=>wp_seq_k λl8 f2=>aX J G rfl (λf3 G=>?_) λf3 G=>?_
   ·refine wp_skip (f2 _ _ ?_);refine wp_seq_k λl9 f4=>aA λm1 f5=>nz 2 J rfl λU J=>wp_seq_k λm2 f6=>wD [0,0,2,7,15,0,0,96,224,0,992,2016,4064,0,8192,32736,65535,131071,262143] [18] rfl J X (by kernel_rfl) λw X=>?_;obtain⟨M,f7,G⟩:=gV G;obtain⟨f8,C,G⟩:=bnd G;obtain⟨cs,A,f9⟩:=el (X.rd 1 rfl) C;obtain rfl:=A;obtain⟨g0,g1,G⟩:=gV G;obtain⟨g2,g3,G⟩:=gV G;obtain⟨g4,G⟩:=aD G;obtain⟨g5,g6,G⟩:=gV G;obtain⟨g7,g8,G⟩:=gV G;obtain⟨g9,h0,G⟩:=gV G;obtain⟨h1,h2,G⟩:=gV G;obtain⟨h3,G⟩:=aD G;obtain⟨h4,h5,G⟩:=gV G;obtain⟨N,h6,G⟩:=gV G;refine⟨[(0,.slice (some ⟨b,0,none⟩) a.toNat a.toNat),(1,.int .i64 B),(2,.int .i64 M),(3,.pointer (some (ea (some ⟨b,0,none⟩) (M.toNat * 1)))),(4,.int .u8 f8),(5,.int .i64 F),(6,.int .i64 f),(7,.int .i64 g0),(8,.int .u64 g2),(9,.int .i64 W),(10,.int .u64 g5),(11,.int .u64 g7),(12,.int .u8 g9),(13,.int .i64 B),(14,.int .i64 h1),(15,.int .u8 h4),(16,.int .u8 N),(17,.pointer (some (ea (some ⟨b,0,none⟩) (M.toNat * 1))))],?_⟩;refine dF [0,1,2,3,4,5,6,7,8,9,10,11,12,13,14,15,16,17] [18] (by kernel_rfl) ⟨pm rfl,pm rfl,pt [(59,_)] rfl λU J=>dA f7 (aNq rfl (J.ev rfl) (J.ev rfl) (by decide)),pt [(58,_),(60,_)] rfl (λU J=>fC cK sz5 (X.rd 1 rfl) C J rfl rfl rfl),pt [(61,_)] rfl (λU J=>aQ uu5 (f9 0 _ rfl) J rfl rfl rfl),pm rfl,pm rfl,pt [(63,_),(64,_)] rfl λU J=>dA g1 (aAp rfl (J.ev rfl) (J.ev rfl)),pt [(65,_)] rfl λU J=>dA g3 (aR uu2 bM rfl (J.ev rfl)),pm rfl,pt [(66,_),(67,_)] rfl λU J=>dA g6 (uC rfl (J.ev rfl) (J.ev rfl) g4),pt [(68,_)] rfl λU J=>dA g8 (aX8 rfl (J.ev rfl) (J.ev rfl)),pt [(69,_)] rfl λU J=>dA h0 (aR bM uu5 rfl (J.ev rfl)),pm rfl,pt [(71,_)] rfl λU J=>dA h2 (aGk rfl (J.ev rfl) (J.ev rfl) (by decide)),pt [(70,_),(72,_)] rfl λU J=>dA h5 (aDv rfl (J.ev rfl) (J.ev rfl) h3),pt [(62,_),(73,_)] rfl λU J=>dA h6 (aLu rfl (J.ev rfl) (J.ev rfl)),pt [(58,_),(60,_)] rfl (λU J=>fC cK sz5 (X.rd 1 rfl) C J rfl rfl rfl),trivial⟩ ⟨et [(74,_),(75,_)] rfl (λU J K hK=>?_),trivial⟩;refine aN5 (z':=N) (off:=0) (vs:=[.int .u8 N]) 1 sz5 J X rfl (jD C).2.2 (λc h=>by cases h;rfl) (λw X=>?_) rfl rfl rfl rfl rfl rfl;refine hK _ [] _ rfl (rC [] (by kernel_rfl) trivial ⟨by kernel_rfl,by kernel_rfl⟩ [(0,_),(5,_),(6,_),(9,_),(10,_),(12,_),(48,_),(49,_),(50,_),(54,_),(55,_)] rfl (λU J=>?_));refine f6 _ _ (aC ?_);refine x_m J rfl λU J=>x_l G J rfl λm3 _ U J G=>x_m J rfl λU J=>wpList_nil (f5 _ _ ?_);refine f4 _ _ (aC ?_);refine x_l G J rfl λm4 _ U J G=>x_m J rfl λU J=>wpList_nil ?_;replace X:=X.pk 1;cases G;exact⟨_,f0 _ rfl,J.sub _ rfl,X⟩
   cases G;exact wp_exit (e7 B T (f1 _ rfl) U w (J.sub _ rfl) X)
  cases G;exact wp_exit (d3 Q (d6 _ rfl) U w (J.sub _ rfl) X)
 obtain⟨h7,h8,G⟩:=bnd G;have h9:∀x,(x)=h7->∀U w,FR 83 [] U [(0,.slice A0 n0 c0),(1,.slice A1 n1 c1),(5,.int .i64 f),(6,.int .i64 x)]->SH r (own (kI .u8) 5 A0 n0 c0 a0::L) w->O U w:=by intro x ht U w J X;subst ht;replace G:rS a0 a1 f x=some y:=G;unfold rS at G;exact j2 x G U w (J.sub _ rfl) X
 refine aS h8 (λs U w=>FR 83 [] U [(0,.slice A0 n0 c0),(1,.slice A1 n1 c1),(5,.int .i64 f),(6,.int .i64 s.1),(20,.slice A1 n1 c1),(21,.int .i64 (a1.length:Int)),(22,.int .i64 s.2)]/\SH r (own (kI .u8) 5 A0 n0 c0 a0::L) w) ⟨J.sub _ rfl,X⟩ ?_;intro m5 i0 i1 G i2 i3 U w o;obtain⟨Y,i4⟩:=i0;replace G:iO a1 f Y i4=some i1:=G;unfold iO at G
 try dsimp only at o
 obtain⟨J,X⟩:=o;refine nz 1 J rfl λU J=>wp_seq_k λm6 i5=>aX J G rfl (λi6 G=>?_) λi6 G=>?_
 ·refine wp_skip (i5 _ _ ?_);refine wp_seq_k λm7 i7=>aA λm8 i8=>ws λm9 i9=>?_;obtain⟨n2,Z,G⟩:=bnd G;refine fS bV sz2 (X.rdl 1 m rfl) Z J rfl λU J=>?_;obtain⟨cs,A,j0⟩:=el (X.rdl 1 m rfl) Z;obtain rfl:=A;refine aL uu2 (j0 0 _ rfl) J rfl λU J=>x_m J rfl λU J=>wn (i9 _ _ ?_);refine aC (xk 3 J rfl λU J=>?_);refine x_l G J rfl λn3 _ U J G=>eR G J (aR uu2 bM rfl (J.ev rfl)) rfl λn4 _ U J G=>?_;obtain⟨n5,j1,G⟩:=bnd G;refine x_c bBa J rfl (aKs j1 X :) λv U w z J=>?_;obtain⟨rfl,X⟩:=z;refine x_v J (aD8 rfl (J.ev rfl) (J.ev rfl)) rfl λU J=>x_m J rfl λU J=>wpList_nil (i8 _ _ ?_);refine i7 _ _ (aC ?_);refine x_l G J rfl λn6 _ U J G=>x_m J rfl λU J=>wpList_nil ?_;cases G;exact⟨_,i2 _ rfl,J.sub _ rfl,X⟩
 cases G;exact wp_exit (h9 Y (i3 _ rfl) U w (J.sub _ rfl) X)
theorem aF2 {a0 a1 A1 n1 c1 y} (G:vL a0 a1=some y) (X:SH r (L) w) (f:RdL L (kI .i64) A1 n1 c1 a1) :
  Ret Tryz.prog 122 #[.int .u8 a0,.slice A1 n1 c1] w λv w'=>∃ (B0:Option Addr) (m0:Nat) (d0:Nat),v=.slice B0 m0 d0/\SH r (own (kI .u8) 5 B0 m0 d0 y::L) w':=by
 refine enter Tryz.func122 rfl Tryz.ntmps122 [(0,_),(1,_)] rfl (by simp) ?_;intro U J Qf hQ s0;unfold vL at G;refine nz 1 J rfl λU J=>ws λn7 e0=>xk 1 J rfl λU J=>jS (d:=(kI .u8)) (e:=5) (ps:=#[(0,.int .u8 a0)]) (cells:=[.int .u8 a0]) (xs:=[a0]) (λw=>by kernel_rfl) rfl ⟨[.int .u8 a0],_,rfl,rfl,rfl⟩ J X rfl λn8 U w X J=>x_m J rfl λU J=>aW bV (X.rdl 1 f rfl).2.1 J rfl λU J=>eR G J (aR uu3 bM rfl (J.ev rfl)) rfl λn9 _ U J G=>?_;obtain⟨e1,e2,G⟩:=bnd G;refine x_c aJb J rfl (iF e2 X :) λv U w k J=>?_;obtain⟨B,C,D,rfl,X⟩:=k;refine x_m J rfl λU J=>wn (e0 _ _ ?_);refine wp_seq_k λo0 e3=>nz 1 J rfl λU J=>aA λe4 e5=>?_;have A:∀b7,iK b7=some y->∀E F H U w,FR 93 [] U [(5,.slice E F H)]->SH r (own (kI .u8) 5 E F H b7::L) w->e4 U w:=by intro b7 G E F H U w J X;unfold iK at G;refine e5 _ _ (e3 _ _ ?_);refine nz 2 J rfl λU J=>?_;cases G;refine wp_ret (hQ _ _ ?_);exact lv Tryz.results122 J rfl ⟨E,F,H,rfl,X⟩
 refine nz 2 J rfl λU J=>aX J G rfl (λe6 G=>?_) λe6 G=>?_
 ·refine ws λo1 e7=>xk 1 J rfl λU J=>aW bV (X.rdl 1 f rfl).2.1 J rfl λU J=>x_m J rfl λU J=>wn (e7 _ _ ?_);refine aA λc3 e8=>?_;have n3:∀I,xH I=some y->∀K M N U w,FR 93 [] U [(5,.slice K M N)]->SH r (own (kI .u8) 5 K M N I::L) w->c3 U w:=by intro I G K M N U w J X;unfold xH at G;exact e8 _ _ (A I G K M N U w (J.sub _ rfl) X)
  obtain⟨e9,f0,G⟩:=bnd G;have f1:∀t,(t)=e9->∀O P Q U w,FR 93 [] U [(5,.slice O P Q)]->SH r (own (kI .u8) 5 O P Q t::L) w->c3 U w:=by intro t ht O P Q U w J X;subst ht;replace G:uJ t=some y:=G;unfold uJ at G;exact n3 t G O P Q U w (J.sub _ rfl) X
  refine aS f0 (λs U w=>∃R S T,FR 93 [] U [(5,.slice R S T),(22,.slice A1 n1 c1),(23,.int .i64 (a1.length:Int)),(24,.int .i64 s.2)]/\SH r (own (kI .u8) 5 R S T s.1::L) w) ⟨B,C,D,J.sub _ rfl,X⟩ ?_;intro o2 f2 f3 G f4 f5 U w l;obtain⟨c4,f6⟩:=f2;replace G:lD a1 c4 f6=some f3:=G;unfold lD at G
  try dsimp only at l
  obtain⟨R,S,T,J,X⟩:=l;refine nz 1 J rfl λU J=>wp_seq_k λo3 f7=>aX J G rfl (λf8 G=>?_) λf8 G=>?_
  ·refine wp_skip (f7 _ _ ?_);refine wp_seq_k λo4 f9=>aA λo5 g0=>ws λo6 g1=>?_;obtain⟨o7,c5,G⟩:=bnd G;refine fS bV sz2 (X.rdl 1 f rfl) c5 J rfl λU J=>?_;obtain⟨cs,m,g2⟩:=el (X.rdl 1 f rfl) c5;obtain rfl:=m;refine aL uu2 (g2 0 _ rfl) J rfl λU J=>x_m J rfl λU J=>wn (g1 _ _ ?_);refine aC (xk 2 J rfl λU J=>?_);obtain⟨o8,g3,G⟩:=bnd G;refine x_c aM3 J rfl (mS g3 X :) λv U w k J=>?_;obtain⟨g4,g5,g6,rfl,X⟩:=k;refine x_m J rfl λU J=>wpList_nil (g0 _ _ ?_);refine f9 _ _ (aC ?_);refine x_l G J rfl λo9 _ U J G=>x_m J rfl λU J=>wpList_nil ?_;cases G;exact⟨_,f4 _ rfl,g4,g5,g6,J.sub _ rfl,X⟩
  cases G;exact wp_exit (f1 c4 (f5 _ rfl) R S T U w (J.sub _ rfl) X)
 refine nz 2 J rfl λU J=>aX J G rfl (λg7 G=>?_) λg7 G=>?_
 ·refine nz 1 J rfl λU J=>ws λp0 g8=>xk 1 J rfl λU J=>aW bV (X.rdl 1 f rfl).2.1 J rfl λU J=>x_m J rfl λU J=>wn (g8 _ _ ?_);refine aA λc6 g9=>?_;have n4:∀W,xI W=some y->∀Y Z a2 U w,FR 93 [] U [(5,.slice Y Z a2)]->SH r (own (kI .u8) 5 Y Z a2 W::L) w->c6 U w:=by intro W G Y Z a2 U w J X;unfold xI at G;exact g9 _ _ (A W G Y Z a2 U w (J.sub _ rfl) X)
  obtain⟨h0,h1,G⟩:=bnd G;have h2:∀u,(u)=h0->∀a3 a4 a5 U w,FR 93 [] U [(5,.slice a3 a4 a5)]->SH r (own (kI .u8) 5 a3 a4 a5 u::L) w->c6 U w:=by intro u ht a3 a4 a5 U w J X;subst ht;replace G:uK u=some y:=G;unfold uK at G;exact n4 u G a3 a4 a5 U w (J.sub _ rfl) X
  refine aS h1 (λs U w=>∃a6 a7 a8,FR 93 [] U [(5,.slice a6 a7 a8),(8,.int .i64 s.2.1),(34,.slice A1 n1 c1),(35,.int .i64 (a1.length:Int)),(36,.int .i64 s.2.2)]/\SH r (own (kI .u8) 5 a6 a7 a8 s.1::L) w) ⟨B,C,D,J.sub _ rfl,X⟩ ?_;intro p1 h3 h4 G h5 h6 U w l;obtain⟨c7,h7,h8⟩:=h3;replace G:lE a1 c7 h7 h8=some h4:=G;unfold lE at G
  try dsimp only at l
  obtain⟨a6,a7,a8,J,X⟩:=l;refine nz 1 J rfl λU J=>wp_seq_k λp2 h9=>aX J G rfl (λi0 G=>?_) λi0 G=>?_
  ·refine wp_skip (h9 _ _ ?_);refine wp_seq_k λp3 i1=>aA λp4 i2=>ws λp5 i3=>?_;obtain⟨p6,c8,G⟩:=bnd G;refine fS bV sz2 (X.rdl 1 f rfl) c8 J rfl λU J=>?_;obtain⟨cs,m,i4⟩:=el (X.rdl 1 f rfl) c8;obtain rfl:=m;refine aL uu2 (i4 0 _ rfl) J rfl λU J=>x_m J rfl λU J=>wn (i3 _ _ ?_);refine ws λp7 i5=>xk 3 J rfl λU J=>x_l G J rfl λp8 _ U J G=>?_;obtain⟨p9,i6,G⟩:=bnd G;refine x_c aM3 J rfl (mS i6 X :) λv U w k J=>?_;obtain⟨i7,i8,i9,rfl,X⟩:=k;refine x_m J rfl λU J=>wn (i5 _ _ ?_);refine aC (nk 2 J rfl λU J=>?_);refine i2 _ _ (i1 _ _ ?_);refine aC (x_l G J rfl λq0 _ U J G=>?_);refine x_m J rfl λU J=>wpList_nil ?_;cases G;exact⟨_,h5 _ rfl,i7,i8,i9,J.sub _ rfl,X⟩
  cases G;exact wp_exit (h2 c7 (h6 _ rfl) a6 a7 a8 U w (J.sub _ rfl) X)
 refine nz 2 J rfl λU J=>aX J G rfl (λj0 G=>?_) λj0 G=>?_
 ·refine nz 1 J rfl λU J=>aA λc9 j1=>?_;have n5:∀a9,xJ a9=some y->∀b1 b2 b3 U w,FR 93 [] U [(5,.slice b1 b2 b3)]->SH r (own (kI .u8) 5 b1 b2 b3 a9::L) w->c9 U w:=by intro a9 G b1 b2 b3 U w J X;unfold xJ at G;exact j1 _ _ (A a9 G b1 b2 b3 U w (J.sub _ rfl) X)
  obtain⟨j2,j3,G⟩:=bnd G;have j4:∀x,(x)=j2->∀b4 b5 b6 U w,FR 93 [] U [(5,.slice b4 b5 b6)]->SH r (own (kI .u8) 5 b4 b5 b6 x::L) w->c9 U w:=by intro x ht b4 b5 b6 U w J X;subst ht;replace G:uL x=some y:=G;unfold uL at G;exact n5 x G b4 b5 b6 U w (J.sub _ rfl) X
  refine aS j3 (λs U w=>∃g h i,FR 93 [] U [(1,.slice A1 n1 c1),(5,.slice g h i),(11,.int .i64 s.2)]/\SH r (own (kI .u8) 5 g h i s.1::L) w) ⟨B,C,D,J.sub _ rfl,X⟩ ?_;intro q1 j5 b8 G j6 j7 U w l;obtain⟨n,c⟩:=j5;replace G:mU a1 n c=some b8:=G;unfold mU at G
  try dsimp only at l
  obtain⟨g,h,i,J,X⟩:=l;refine wp_seq_k λq2 j8=>ws λq3 j9=>xk 2 J rfl λU J=>aW bV (X.rdl 1 f rfl).2.1 J rfl λU J=>nk 1 J rfl λU J=>j9 _ _ (aX J G rfl (λk0 G=>?_) λk0 G=>?_)
  ·refine wp_skip (j8 _ _ ?_);refine aA λq4 k1=>nz 1 J rfl λU J=>wp_seq_k λq5 k2=>aA λd1 k3=>?_;have n6:∀b9,xK a1 n c b9=some b8->∀U w,FR 93 [] U [(1,.slice A1 n1 c1),(5,.slice g h i),(11,.int .i64 c),(12,.int .i64 b9)]->SH r (own (kI .u8) 5 g h i n::L) w->d1 U w:=by intro b9 G U w J X;unfold xK at G;refine k3 _ _ (k2 _ _ ?_);refine ws λq6 k4=>xk 3 J rfl λU J=>?_;obtain⟨q7,d2,G⟩:=bnd G;refine fS bV sz2 (X.rdl 1 f rfl) d2 J rfl λU J=>?_;obtain⟨cs,m,k5⟩:=el (X.rdl 1 f rfl) d2;obtain rfl:=m;refine aL uu2 (k5 0 _ rfl) J rfl λU J=>?_;obtain⟨q8,k6,G⟩:=bnd G;refine x_c aM3 J rfl (mS k6 X :) λv U w k J=>?_;obtain⟨q9,r0,r1,rfl,X⟩:=k;refine x_m J rfl λU J=>x_l G J rfl λr2 _ U J G=>eR G J (aR uu3 bM rfl (J.ev rfl)) rfl λr3 _ U J G=>?_;obtain⟨r4,k7,G⟩:=bnd G;refine x_c aJb J rfl (iF k7 X :) λv U w k J=>?_;obtain⟨k8,k9,l0,rfl,X⟩:=k;refine x_m J rfl λU J=>wn (k4 _ _ ?_);refine aC (xk 2 J rfl λU J=>?_);refine x_l G J rfl λr5 _ U J G=>x_m J rfl λU J=>wpList_nil ?_;cases G;exact k1 _ _ ⟨_,j6 _ rfl,k8,k9,l0,J.sub _ rfl,X⟩
   obtain⟨l1,l2,G⟩:=bnd G;have l3:∀z,(z)=l1->∀U w,FR 93 [] U [(1,.slice A1 n1 c1),(5,.slice g h i),(11,.int .i64 c),(12,.int .i64 z)]->SH r (own (kI .u8) 5 g h i n::L) w->d1 U w:=by intro z ht U w J X;subst ht;replace G:uM a1 n c z=some b8:=G;unfold uM at G;exact n6 z G U w (J.sub _ rfl) X
   refine aS l2 (λs U w=>FR 93 [] U [(1,.slice A1 n1 c1),(5,.slice g h i),(11,.int .i64 c),(12,.int .i64 s)]/\SH r (own (kI .u8) 5 g h i n::L) w) ⟨J.sub _ rfl,X⟩ ?_;intro r6 l4 d3 G l5 l6 U w l;obtain⟨j,rfl⟩:∃ q,q=l4:=⟨_,rfl⟩;replace G:mV a1 c j=some d3:=G;unfold mV at G
   try dsimp only at l
   obtain⟨J,X⟩:=l;refine wp_seq_k λr7 l7=>wp_seq_k λl8 l9=>?_;have d9:∀c0,pE j c0=some d3->∀U w,FR 93 [] U [(1,.slice A1 n1 c1),(5,.slice g h i),(11,.int .i64 c),(12,.int .i64 j),(71,.bool c0)]->SH r (own (kI .u8) 5 g h i n::L) w->l8 U w:=by
    intro c0 G U w J X;unfold pE at G;refine l9 _ _ (aX J G rfl (λm1 G=>?_) λm1 G=>?_)
    ·refine wp_skip (l7 _ _ ?_);refine aA λr8 m2=>aC (x_m J rfl λU J=>?_);refine x_l G J rfl λr9 _ U J G=>x_m J rfl λU J=>wpList_nil ?_;cases G;exact m2 _ _ ⟨_,l5 _ rfl,J.sub _ rfl,X⟩
    cases G;exact wp_exit (l3 j (l6 _ rfl) U w (J.sub _ rfl) X)
   refine wD [0,0,3,0,8,31,63,127,127,127,895,2047,4095,127,127,24703,57471,131071,262143] [] rfl J X (by kernel_rfl) λw X=>?_;obtain⟨a,c2,G⟩:=gV G;refine bcG G (λb G=>?_) λb G=>?_
   ·obtain⟨o,d4,G⟩:=bnd G;obtain⟨cs,m,m3⟩:=el (X.rdl 1 f rfl) d4;obtain rfl:=m;obtain⟨p,d5,G⟩:=bnd G;obtain⟨cs,m,m4⟩:=el (X.rdl 1 f rfl) d5;obtain rfl:=m;refine⟨[(0,.int .i64 c),(1,.int .i64 j),(2,.int .i64 a),(3,.slice A1 n1 c1),(4,.int .i64 (a1.length:Int)),(5,.bool (decide (a<(a1.length:Int)))),(6,.bool (decide (a<(a1.length:Int)))),(7,.slice A1 n1 c1),(8,.int .i64 c),(9,.int .i64 j),(10,.int .i64 a),(11,.pointer (some (ea A1 (a.toNat * 1)))),(12,.int .i64 o),(13,.slice A1 n1 c1),(14,.int .i64 c),(15,.pointer (some (ea A1 (c.toNat * 1)))),(16,.int .i64 p),(17,.bool (o==p)),(18,.bool (o==p))],?_⟩;refine dZ [0,1,2,3,4,5,6,7,8,9,10,11,12,13,14,15,16,17,18] (by kernel_rfl) ⟨pm rfl,pm rfl,pt [(53,.int .i64 c),(54,.int .i64 j)] rfl λU J=>dA c2 (kR rfl (J.ev rfl) (J.ev rfl)),pm rfl,pt [(56,.slice A1 n1 c1)] rfl (λU J=>sL bV (X.rdl 1 f rfl).2.1 J rfl rfl),pt [(55,.int .i64 a),(57,.int .i64 (a1.length:Int))] rfl (λU J=>aDu rfl (J.ev rfl) (J.ev rfl)),pm rfl,cD rfl rfl rfl rfl [(1,.slice A1 n1 c1),(59,.bool (decide (a<(a1.length:Int))))] rfl b (λU J=>fZ J rfl rfl) rfl,cD rfl rfl rfl rfl [(11,.int .i64 c),(59,.bool (decide (a<(a1.length:Int))))] rfl b (λU J=>fZ J rfl rfl) rfl,cD rfl rfl rfl rfl [(12,.int .i64 j),(59,.bool (decide (a<(a1.length:Int))))] rfl b (λU J=>fZ J rfl rfl) rfl,cD rfl rfl rfl rfl [(59,.bool (decide (a<(a1.length:Int)))),(61,.int .i64 c),(62,.int .i64 j)] rfl b (λU J=>(dA c2 (kR rfl (J.ev rfl) (J.ev rfl)):RunV _ _ _ _ (.int .i64 a))) rfl,cD rfl rfl rfl rfl [(59,.bool (decide (a<(a1.length:Int)))),(60,.slice A1 n1 c1),(63,.int .i64 a)] rfl b (λU J=>fC bV sz2 (X.rdl 1 f rfl) d4 J rfl rfl rfl) rfl,cD rfl rfl rfl rfl [(59,.bool (decide (a<(a1.length:Int)))),(64,.pointer (some (ea A1 (a.toNat * 1))))] rfl b (λU J=>aQ uu2 (m3 0 _ rfl) J rfl rfl rfl) rfl,cD rfl rfl rfl rfl [(1,.slice A1 n1 c1),(59,.bool (decide (a<(a1.length:Int))))] rfl b (λU J=>fZ J rfl rfl) rfl,cD rfl rfl rfl rfl [(11,.int .i64 c),(59,.bool (decide (a<(a1.length:Int))))] rfl b (λU J=>fZ J rfl rfl) rfl,cD rfl rfl rfl rfl [(59,.bool (decide (a<(a1.length:Int)))),(66,.slice A1 n1 c1),(67,.int .i64 c)] rfl b (λU J=>fC bV sz2 (X.rdl 1 f rfl) d5 J rfl rfl rfl) rfl,cD rfl rfl rfl rfl [(59,.bool (decide (a<(a1.length:Int)))),(68,.pointer (some (ea A1 (c.toNat * 1))))] rfl b (λU J=>aQ uu2 (m4 0 _ rfl) J rfl rfl rfl) rfl,cD rfl rfl rfl rfl [(59,.bool (decide (a<(a1.length:Int)))),(65,.int .i64 o),(69,.int .i64 p)] rfl b (λU J=>zM rfl (J.ev rfl) (J.ev rfl)) rfl,pt [(59,.bool (decide (a<(a1.length:Int)))),(70,.bool (o==p))] rfl (λU J=>nO b J rfl rfl rfl),trivial⟩ [(1,_),(5,_),(11,_),(12,_),(60,_),(61,_),(62,_),(63,_),(65,_),(66,_),(67,_),(69,_),(70,_),(71,_)] rfl (λU J=>?_);exact d9 (o==p) G U w (J.sub _ rfl) X
   refine⟨[(0,.int .i64 c),(1,.int .i64 j),(2,.int .i64 a),(3,.slice A1 n1 c1),(4,.int .i64 (a1.length:Int)),(5,.bool (decide (a<(a1.length:Int)))),(6,.bool (decide (a<(a1.length:Int)))),(7,undef),(8,undef),(9,undef),(10,undef),(11,undef),(12,undef),(13,undef),(14,undef),(15,undef),(16,undef),(17,undef),(18,.bool false)],?_⟩;refine dZ [0,1,2,3,4,5,6,7,8,9,10,11,12,13,14,15,16,17,18] (by kernel_rfl) ⟨pm rfl,pm rfl,pt [(53,.int .i64 c),(54,.int .i64 j)] rfl λU J=>dA c2 (kR rfl (J.ev rfl) (J.ev rfl)),pm rfl,pt [(56,.slice A1 n1 c1)] rfl (λU J=>sL bV (X.rdl 1 f rfl).2.1 J rfl rfl),pt [(55,.int .i64 a),(57,.int .i64 (a1.length:Int))] rfl (λU J=>aDu rfl (J.ev rfl) (J.ev rfl)),pm rfl,bF rfl rfl rfl rfl [(1,.slice A1 n1 c1),(59,.bool (decide (a<(a1.length:Int))))] rfl b rfl,bF rfl rfl rfl rfl [(11,.int .i64 c),(59,.bool (decide (a<(a1.length:Int))))] rfl b rfl,bF rfl rfl rfl rfl [(12,.int .i64 j),(59,.bool (decide (a<(a1.length:Int))))] rfl b rfl,bF rfl rfl rfl rfl [(59,.bool (decide (a<(a1.length:Int)))),(61,undef),(62,undef)] rfl b rfl,bF rfl rfl rfl rfl [(59,.bool (decide (a<(a1.length:Int)))),(60,undef),(63,undef)] rfl b rfl,bF rfl rfl rfl rfl [(59,.bool (decide (a<(a1.length:Int)))),(64,undef)] rfl b rfl,bF rfl rfl rfl rfl [(1,.slice A1 n1 c1),(59,.bool (decide (a<(a1.length:Int))))] rfl b rfl,bF rfl rfl rfl rfl [(11,.int .i64 c),(59,.bool (decide (a<(a1.length:Int))))] rfl b rfl,bF rfl rfl rfl rfl [(59,.bool (decide (a<(a1.length:Int)))),(66,undef),(67,undef)] rfl b rfl,bF rfl rfl rfl rfl [(59,.bool (decide (a<(a1.length:Int)))),(68,undef)] rfl b rfl,bF rfl rfl rfl rfl [(59,.bool (decide (a<(a1.length:Int)))),(65,undef),(69,undef)] rfl b rfl,pt [(59,.bool (decide (a<(a1.length:Int)))),(70,undef)] rfl (λU J=>oC b J rfl rfl rfl),trivial⟩ [(1,_),(5,_),(11,_),(12,_),(71,_)] rfl (λU J=>?_);exact d9 false G U w (J.sub _ rfl) X
  cases G;exact wp_exit (j4 n (j7 _ rfl) g h i U w (J.sub _ rfl) X)
 refine nz 2 J rfl λU J=>aX J G rfl (λm5 G=>?_) λm5 G=>?_
 ·refine aC (xk 2 J rfl λU J=>?_);obtain⟨m6,m7,G⟩:=bnd G;refine x_c bBb J rfl (aI7 m7 X (RdL.sfx 0 rfl f) :) λv U w k J=>?_;obtain⟨m8,m9,n0,rfl,X⟩:=k;exact x_m J rfl λU J=>wpList_nil (A m6 G m8 m9 n0 U w (J.sub _ rfl) X)
 exact wp_skip (A e1 G B C D U w (J.sub _ rfl) X)
theorem sT {a0 A0 n0 c0 y} (G:mW a0=some y) (X:SH r (L) w) (z:RdL L (kI .i64) A0 n0 c0 a0) :
  Ret Tryz.prog 103 #[.slice A0 n0 c0] w λv w'=>∃ (A:Option Addr) (B:Nat) (C:Nat),v=.slice A B C/\SH r (own (kI .u8) 5 A B C y::L) w':=by
 refine enter Tryz.func103 rfl Tryz.ntmps103 [(0,_)] rfl (by simp) ?_;intro U J Qf hQ c5;unfold mW at G;refine nz 1 J rfl λU J=>ws λb5 F=>xk 1 J rfl λU J=>?_;obtain⟨b6,H,G⟩:=bnd G;refine x_c aXq J rfl (aF2 H X (RdL.sfx 0 rfl z) :) λv U w t J=>?_;obtain⟨I,K,M,rfl,X⟩:=t;refine x_m J rfl λU J=>wn (F _ _ ?_);refine wp_seq_k λb7 N=>nz 1 J rfl λU J=>aA λu O=>?_;have b4:∀n,yM n=some y->∀e f g U w,FR 22 [] U [(3,.slice e f g)]->SH r (own (kI .u8) 5 e f g n::L) w->u U w:=by intro n G e f g U w J X;unfold yM at G;refine O _ _ (N _ _ ?_);refine nz 2 J rfl λU J=>?_;cases G;refine wp_ret (hQ _ _ ?_);exact lv Tryz.results103 J rfl ⟨e,f,g,rfl,X⟩
 obtain⟨P,Q,G⟩:=bnd G;have R:∀a,(a)=P->∀h i j U w,FR 22 [] U [(3,.slice h i j)]->SH r (own (kI .u8) 5 h i j a::L) w->u U w:=by intro a ht h i j U w J X;subst ht;replace G:vM a=some y:=G;unfold vM at G;exact b4 a G h i j U w (J.sub _ rfl) X
 refine aS Q (λs U w=>∃b c d,FR 22 [] U [(0,.slice A0 n0 c0),(3,.slice b c d),(4,.int .u8 s.2)]/\SH r (own (kI .u8) 5 b c d s.1::L) w) ⟨I,K,M,J.sub _ rfl,X⟩ ?_;intro b8 S x G T W U w D;obtain⟨o,p⟩:=S;replace G:fV a0 o p=some x:=G;unfold fV at G
 try dsimp only at D
 obtain⟨b,c,d,J,X⟩:=D;refine wp_seq_k λb9 Y=>nz 2 J rfl λU J=>aX J G rfl (λZ G=>?_) λZ G=>?_
 ·refine wp_skip (Y _ _ ?_);refine wp_seq_k λc1 a1=>aA λa2 a3=>?_;have E:∀q,rA p q=some x->∀k l m U w,FR 22 [] U [(0,.slice A0 n0 c0),(3,.slice k l m),(4,.int .u8 p)]->SH r (own (kI .u8) 5 k l m q::L) w->a2 U w:=by intro q G k l m U w J X;unfold rA at G;refine a3 _ _ (a1 _ _ ?_);refine aC (x_m J rfl λU J=>?_);refine x_l G J rfl λc2 _ U J G=>x_m J rfl λU J=>wpList_nil ?_;cases G;exact⟨_,T _ rfl,k,l,m,J.sub _ rfl,X⟩
  refine ws λc3 a4=>xk 2 J rfl λU J=>?_;obtain⟨a5,a6,G⟩:=bnd G;refine x_c aXq J rfl (aF2 a6 X (RdL.sfx 1 rfl z) :) λv U w t J=>?_;obtain⟨a7,a8,a9,rfl,X⟩:=t;refine x_m J rfl λU J=>wn (a4 _ _ ?_);refine ws λc4 b1=>xk 1 J rfl λU J=>aW cK (X.rd 0 rfl).2.1 J rfl λU J=>x_m J rfl λU J=>aW cK (X.rd 1 rfl).2.1 J rfl λU J=>nk 1 J rfl λU J=>b1 _ _ (aX J G rfl (λb2 G=>?_) λb2 G=>?_)
  ·refine aC (nk 2 J rfl λU J=>?_);replace X:=X.drop 1;exact E a5 G a7 a8 a9 U w (J.sub _ rfl) X
  replace X:=X.drop 0;exact wp_skip (E o G b c d U w (J.sub _ rfl) X)
 cases G;exact wp_exit (R o (W _ rfl) b c d U w (J.sub _ rfl) X)
end
theorem aQ8 {r:World} {L:List HP} {g:Nat} {b:Bool} {w:World} (hS:SH r (blk g 4 [.bool b]::L) w) :
    CallsD Tryz.prog 73 #[.pointer (some ⟨g,0,none⟩)] (.panicking aDm) w λe d w'=>e=.returned (.tuple #[])/\d=.panicking [{ v:=.iface 137 (.agg #[]),recovered:=true }]/\SH r (blk g 4 [.bool false]::L) w':=by
  refine callsD_of_wpS Tryz.func73 rfl λc₀ cs hu=>?_;apply wpS_seq;apply wpS_region;simp only [List.size_toArray,List.length_cons,List.length_nil,Nat.zero_add];rw [show List.range (1+1)=[0,1] from rfl];simp [wpOpsS,go_sem,recoverD,hu,aDm,Tryz.ntmps73,Exit.thenS];generalize f:({ tmps:=_,defers:=_ }:Act)=ac;have hA:FR 15 [] ac [(0,.pointer (some ⟨g,0,none⟩)),(1,.iface 137 (.agg #[]))]:=by
    subst f;refine⟨by simp,rfl,λt v c=>?_⟩;simp only [lk] at c;by_cases e0:t=0
    · subst e0;cases c;rfl
    by_cases i:t=1
    · subst i;cases c;rfl
    · exfalso
      rw [show Nat.beq 0 t=false by cases h:Nat.beq 0 t;rfl;exact absurd (Nat.eq_of_beq_eq_true h).symm e0,show Nat.beq 1 t=false by cases h:Nat.beq 1 t;rfl;exact absurd (Nat.eq_of_beq_eq_true h).symm i] at c;cases c
  clear f;refine wpS_of_wp ?_;have fin:∀ (a:Act) (w:World),FR 15 [] a []->SH r (blk g 4 [.bool false]::L) w->bodyPostS Tryz.prog Tryz.f73 c₀ cs (λe d w'=>e=.returned (.tuple #[])/\d=.panicking [{ v:=.iface 137 (.agg #[]),recovered:=true }]/\SH r (blk g 4 [.bool false]::L) w') .normal a ({ c₀ with mode:=.panicking [{ v:=.iface 137 (.agg #[]),recovered:=true }] }::cs) w:=by intro a w hA hS;exact⟨hA.defers,_,rfl,_,results_none Tryz.results73 _ _ _,rfl,rfl,hS⟩
  refine wp_seq_k λo j=>?_;refine aC ?_;refine eB hA (λac hA=>?_);refine eG (v:=.bool true) hA (aRo Tryz.underlying20 rfl (hA.ev rfl) (hA.ev rfl)) (λac hA=>?_);refine wpList_nil ?_;refine j _ _ ?_;refine c_t (b:=true) rfl hA ?_;refine wp_seq_k λp k=>?_;refine wp_seq_k λq l=>?_;refine aC ?_;refine eB hA (λac hA=>?_);refine eG (v:=.tuple #[.agg #[],.bool true]) hA (aLv Tryz.underlying137 rfl rfl (hA.ev rfl)) (λac hA=>?_);refine eB hA (λac hA=>?_);refine eG hA (mP rfl (hA.ev rfl) rfl) (λac hA=>?_);refine eG hA (mP rfl (hA.ev rfl) rfl) (λac hA=>?_);refine aL8 (cs:=[]) bDr hA hS (λs ac w hS hA=>?_);refine aQw (vs:=[]) 0 bCs hA hS rfl (λac w hS hA=>?_);refine eV hA (λac hA=>?_);refine wpList_nil ?_;refine l _ _ ?_;refine wp_seq_k λu m=>?_;refine aC ?_;refine eB hA (λac hA=>?_);refine eG hA (aKa rfl (hA.ev rfl)) (λac hA=>?_);refine wpList_nil ?_;refine m _ _ ?_;refine c_f (b := !true) rfl hA ?_;refine wp_skip ?_;refine k _ _ ?_;refine aC ?_;refine aQw (vs:=[.bool false]) 1 sz4 hA hS rfl (λac w hS hA=>?_);refine wpList_nil ?_;have n:=hS.pk 1;exact fin _ _ (hA.sub _ rfl) (n.tail)
theorem aOf {g:Nat} {w:World} :
    CallsD Tryz.prog 73 #[.pointer (some ⟨g,0,none⟩)] .returning w λe f w'=>e=.returned (.tuple #[])/\f=.returning/\w'=w:=by
  refine callsD_of_wpS Tryz.func73 rfl λc₀ cs hu=>?_;apply wpS_seq;apply wpS_region;simp only [List.size_toArray,List.length_cons,List.length_nil,Nat.zero_add];rw [show List.range (1+1)=[0,1] from rfl];simp [wpOpsS,go_sem,recoverD,hu,Tryz.ntmps73,Exit.thenS];generalize c:({ tmps:=_,defers:=_ }:Act)=ac;have hA:FR 15 [] ac [(0,.pointer (some ⟨g,0,none⟩)),(1,.nilIface)]:=by
    subst c;refine⟨by simp,rfl,λt v a=>?_⟩;simp only [lk] at a;by_cases e0:t=0
    · subst e0;cases a;rfl
    by_cases d:t=1
    · subst d;cases a;rfl
    · exfalso
      rw [show Nat.beq 0 t=false by cases h:Nat.beq 0 t;rfl;exact absurd (Nat.eq_of_beq_eq_true h).symm e0,show Nat.beq 1 t=false by cases h:Nat.beq 1 t;rfl;exact absurd (Nat.eq_of_beq_eq_true h).symm d] at a;cases a
  clear c;refine wpS_of_wp ?_;refine wp_seq_k λj i=>?_;refine aC ?_;refine eB hA (λac hA=>?_);refine eG (v:=.bool false) hA (aRp Tryz.underlying20 rfl (hA.ev rfl)) (λac hA=>?_);refine wpList_nil ?_;refine i _ _ ?_;refine c_f (b:=false) rfl hA ?_;refine wp_skip ?_;refine⟨hA.defers,c₀.mode,rfl,_,results_none Tryz.results73 _ _ _,rfl,hu,rfl⟩
theorem aE5 {r:World} {L:List HP} {w:World} {g:Nat} {b:Bool} {a:Act} {n:Nat} {D:List Deferred} {F:List (Nat×Value)} (hA:FR n D a F) (c:lk F 4=some (.pointer (some ⟨g,0,none⟩))) (hS:SH r (blk g 4 [.bool b]::L) w) :
    (results Tryz.f47 a.tmps).run Tryz.prog w=.ok (.bool b) w:=by
  have d:a.tmps.getD 4 undef=.pointer (some ⟨g,0,none⟩):=hA.ev (x:=.tmp 4) c;have e:a.tmps[4]?.getD undef=.pointer (some ⟨g,0,none⟩):=by rw [← Array.getD_eq_getD_getElem?];exact d
  have hc:=hS.cell 0 rfl 0 (.bool b) rfl;have f:(isAgg 4).run Tryz.prog w=.ok false w:=by rw [oR Tryz.underlying4];rfl
  have h:(loadVar 4 ⟨g,0,none⟩).run Tryz.prog w=.ok (.bool b) w:=by simp [loadVar,f,hc]
  simp [results,Tryz.results47,e,asAddr,h]
section
variable {r:World} {L:List HP} {w:World} {A:Option Addr} {n c f:Nat} {fs caps:Array Value}
theorem aCl {R:Value->World->Prop} (hf:EN Tryz.prog f) (hS:SH r L w)
    (o:∀ g a j,SH r (blk g 140 [.slice A n c]::blk a 4 [.bool false]::L) j ->
      (Ret Tryz.prog f (fs++#[.pointer (some ⟨g,0,none⟩)]++caps) j λv k=>∃ b l i m,SH r (blk g 140 [.slice l i m]::blk a 4 [.bool false]::b) k/\∀ h,SH r b h->R (.bool ((i:Int)==0)) h) \/
      (Calls Tryz.prog f (fs++#[.pointer (some ⟨g,0,none⟩)]++caps) j λe k=>e=.panicked aDm/\∃ b,SH r (blk a 4 [.bool false]::b) k/\∀ h,SH r b h->R (.bool false) h)) :
    Ret Tryz.prog 47 #[.slice A n c,.func (.func f) fs caps] w R:=by
  refine aZc Tryz.func47 rfl Tryz.ntmps47 [(0,.slice A n c),(1,.func (.func f) fs caps)] rfl (by simp) ?_;intro ac hA;refine wp_seq_k λx h0=>?_;refine aC ?_;refine aL8 (cs:=[.bool false]) zr4 hA hS (λa ac w hS hA=>?_);refine wpList_nil ?_;refine h0 _ _ ?_;refine wp_seq_k λy p=>?_;refine aC ?_;refine eG hA (gR rfl (lK (vals:=#[]) hA rfl) (lK (vals:=#[.pointer (some ⟨a,0,none⟩)]) hA rfl)) (λac hA=>?_);refine aW1 (vs:=#[]) hA (λac hA=>?_);refine wpList_nil ?_;refine p _ _ ?_;refine wp_seq_k λz q=>?_;refine aC ?_;refine eB hA (λac hA=>?_);refine eG (v:=.agg #[.slice A n c]) hA (jE (ps:=#[(0,.slice A n c)]) rfl (lU hA rfl) (λw=>by kernel_rfl)) (λac hA=>?_);refine aN4 hA hS (λg ac w hS hA=>?_);refine eV hA (λac hA=>?_);refine wpList_nil ?_;refine q _ _ ?_;refine wp_seq_k λB s=>?_;refine aC ?_;refine eB hA (λac hA=>?_);refine eB hA (λac hA=>?_);rcases o g a w hS with hr | hp
  · refine aQu (vs:=#[.pointer (some ⟨g,0,none⟩)]) hf hA hr (λv ac w d hA=>?_)
    obtain⟨b,l,i,m,hS,d⟩:=d;refine wpList_nil ?_;refine s _ _ ?_;refine wp_seq_k λC t=>?_;refine aC ?_;refine eB hA (λac hA=>?_);refine eG hA (aN rfl (hA.ev rfl)) (λac hA=>?_);refine aYm rU hA (λac hA=>?_);refine aPg Tryz.underlying23 (hS.cell 0 rfl 0 _ rfl) hA (λac hA=>?_);refine eG hA (aCh Tryz.underlying23 rfl (hA.ev rfl)) (λac hA=>?_);refine eG hA (zM rfl (hA.ev rfl) (hA.ev rfl)) (λac hA=>?_);refine aQw (vs:=[.bool ((i:Int)==0)]) 1 sz4 hA hS rfl (λac w hS hA=>?_);refine wpList_nil ?_;refine t _ _ ?_;refine wp_ret ?_;show Leaves _ _ _ _ _ _ _;rw [hA.defers];refine leaves_cons (f:=73) (args:=#[.pointer (some ⟨a,0,none⟩)]) (by simp) (by simp [invoke,(bBs _ _:_=_)]) ?_;refine CallsD.mono aOf ?_;rintro e u w' ⟨rfl,rfl,rfl⟩;exact⟨_,aE5 hA rfl hS,_,rfl,d _ (hS.tail.tail)⟩
  · refine aQt (vs:=#[.pointer (some ⟨g,0,none⟩)]) hf hA hp (λw d=>?_)
    obtain⟨b,hS,d⟩:=d;show Leaves _ _ _ _ _ _ _;rw [hA.defers];refine leaves_cons (f:=73) (args:=#[.pointer (some ⟨a,0,none⟩)]) (by simp) (by simp [invoke,(bBs _ _:_=_)]) ?_;refine CallsD.mono (aQ8 hS) ?_;rintro e u w' ⟨rfl,rfl,hS⟩;exact⟨_,aE5 hA rfl hS,_,rfl,d _ hS.tail⟩
end
noncomputable section
set_option linter.unusedSimpArgs false
def aI (a0:S140) (a:Bool):Option ((S140)⊕(S140)) :=
  if (!a)=true then (some (.inr a0)) else (some (.inl a0))
def fW (a0:S140):Option ((Int×S140)⊕(S140)) :=
  (aI a0 (decide (0<(a0.f0.length:Int)))).bind λa=>(fL a (λa=>((at_ a.f0 0).bind λb=>((jX a.f0 1 (a.f0.length:Int)).bind λc=>(some (.inl (b,(⟨c⟩:S140))))))) (λa=>(some (.inr a))))
def jH (a:Int) (b:(List Int)):Option (((List Int)×Int×Int)⊕(((Int×S140)⊕(S140)))) :=
  some (.inr (.inl (a,(⟨b⟩:S140))))
def eC (n:Int) (i:Int) (f:Int) (g:(Int×S140)) (e:(List Int)):Option (((List Int)×Int×Int)⊕(((Int×S140)⊕(S140)))) :=
  ltt (aA3 .u8 g.1 127) λj=>(ltt (IntKind.u64.wrap j) λk=>(ltt (IntKind.i64.wrap (7 * f)) λh=>(chk (0<=h) (ltt (wL .u64 k h) λl=>(ltt (ior .u64 i l) λa=>(if (decide (g.1<128))=true then (if (decide (a<=n))=true then (if (f==0)=true then ((aI (⟨e⟩:S140) true).bind λb=>(fL b (λb=>(jH a b.f0)) (λb=>(some (.inr (.inr b)))))) else ((aI (⟨e⟩:S140) (decide (0<g.1))).bind λc=>(fL c (λc=>(jH a c.f0)) (λc=>(some (.inr (.inr c))))))) else ((aI (⟨e⟩:S140) false).bind λd=>(fL d (λd=>(jH a d.f0)) (λd=>(some (.inr (.inr d))))))) else (ltt (IntKind.i64.wrap (f+1)) λm=>(some (.inl (e,a,m))))))))))
def eD (g:Int) (h:(List Int)) (f:Int) (b:Int):Option (((List Int)×Int×Int)⊕(((Int×S140)⊕(S140)))) :=
  (fW (⟨h⟩:S140)).bind λa=>(fL a (λa=>(if (decide (b<9))=true then ((aI a.2 true).bind λc=>(fL c (λc=>(eC g f b a c.f0)) (λc=>(some (.inr (.inr c)))))) else (if (b==9)=true then ((aI a.2 (decide (a.1<2))).bind λd=>(fL d (λd=>(eC g f b a d.f0)) (λd=>(some (.inr (.inr d)))))) else ((aI a.2 false).bind λe=>(fL e (λe=>(eC g f b a e.f0)) (λe=>(some (.inr (.inr e))))))))) (λa=>(some (.inr (.inr a)))))
def bB (a0:S140) (a:Int):Option ((Int×S140)⊕(S140)) :=
  (loop (λs=>eD a s.1 s.2.1 s.2.2) (a0.f0,0,0)).bind λt=>some t
def cP (a0:S140):Option ((Int×S140)⊕(S140)) :=
  (bB a0 18446744073709551615).bind λa=>(fL a (λa=>(ltt (nX .u64 a.1 1) λb=>(ltt (IntKind.i64.wrap b) λc=>(ltt (aA3 .u64 a.1 1) λd=>(ltt (IntKind.i64.wrap d) λe=>(ltt (aAf .i64 c (IntKind.i64.wrap (0 - e))) λf=>(some (.inl (f,a.2))))))))) (λa=>(some (.inr a))))
def fB (a0:S140) (g:Int):Option (((List UInt8)×S140)⊕(S140)) :=
  ltt (IntKind.u64.wrap g) λc=>((bB a0 c).bind λa=>(fL a (λa=>(ltt (IntKind.u64.wrap (a.2.f0.length:Int)) λd=>((aI a.2 (decide (a.1<=d))).bind λb=>(fL b (λb=>((jX b.f0 0 a.1).bind λe=>((jX b.f0 a.1 (b.f0.length:Int)).bind λf=>(some (.inl (bts e,(⟨f⟩:S140))))))) (λb=>(some (.inr b))))))) (λa=>(some (.inr a)))))
def rB (a:(List Int)) (b:(List Int)):Option (((List Int)×S140)⊕(S140)) :=
  some (.inl (b,(⟨a⟩:S140)))
def pF (a:(List Int)) (b:(List Int)):Option (((List Int)×S140)⊕(S140)) :=
  rB a b
def dH (a0:Int) (c:(List Int)) (b:(List Int)) (d:Int):Option (((List Int)×(List Int)×Int)⊕(((List Int)×(List Int))⊕(((List Int)×S140)⊕(S140)))) :=
  if (decide (d<a0))=true then ((cP (⟨c⟩:S140)).bind λa=>(fL a (λa=>(chk (b.length+[a.1].length<=140737488355328 / 8) (ltt (IntKind.i64.wrap (d+1)) λe=>(some (.inl (a.2.f0,b++[a.1],e)))))) (λa=>(some (.inr (.inr (.inr a))))))) else (some (.inr (.inl (c,b))))
def mY (a0:Int) (a:S140):Option (((List Int)×S140)⊕(S140)) :=
  (loop (λs=>dH a0 s.1 s.2.1 s.2.2) (a.f0,[],0)).bind λt=>match t with | (.inl t)=>pF t.1 t.2 | (.inr t)=>some t
def vQ (a:(List Int)):Option (((List Int)×S140)⊕(S140)) :=
  some (.inl (a,(⟨[]⟩:S140)))
def tJ (a:(List Int)):Option (((List Int)×S140)⊕(S140)) :=
  vQ a
def gH (c:(Int×S140)) (d:(List Int)) (b:(List Int)) (a:Int):Option (((List Int)×Int)⊕(((List Int)))) :=
  if (decide (a<(d.length:Int)))=true then ((at_ b a).bind λe=>(ltt (IntKind.i64.wrap (e+c.1)) λf=>(ltt (IntKind.i64.wrap (a+1)) λg=>(some (.inl (b.set a.toNat f,g)))))) else (some (.inr (b)))
def rT (b:(Int×S140)) (c:(List Int)) (a:(List Int)):Option (((List Int)×S140)⊕(S140)) :=
  (loop (λs=>gH b a s.1 s.2) (a,0)).bind λt=>tJ t
def pG (a:(Int×S140)) (b:(List Int)) (c:(List Int)):Option (((List Int)×S140)⊕(S140)) :=
  rT a b c
def lL (a:Int) (b:(List Int)) (c:(List Int)):Option (((List Int)×(List Int)×Int)⊕(((List Int)×(List Int))⊕(((List Int)×S140)⊕(S140)))) :=
  ltt (IntKind.i64.wrap (a+1)) λd=>(some (.inl (b,c,d)))
def hT (t:Int) (b:Int) (j:Int) (d:(List Int)) (e:(List Int)) (a:Int):Option (((List Int)×(List Int)×Int)⊕(((List Int)×(List Int))⊕(((List Int)×S140)⊕(S140)))) :=
  if (decide (a<j))=true then (ltt (IntKind.i64.wrap (a.tdiv 8)) λk=>((at_ d k).bind λl=>(ltt (a.tmod 8) λf=>(chk (0<=f) (ltt (nX .u8 l f) λm=>(ltt (IntKind.u64.wrap m) λn=>(ltt (aA3 .u64 n 1) λg=>(ltt (IntKind.i64.wrap (t * b)) λo=>(if (decide (o<=a))=true then ((aI (⟨d⟩:S140) (g==0)).bind λc=>(fL c (λc=>(lL a c.f0 e)) (λc=>(some (.inr (.inr (.inr c))))))) else (chk (b≠0) (ltt (IntKind.i64.wrap (a.tdiv b)) λh=>((at_ e h).bind λp=>(chk (b≠0) (ltt (a.tmod b) λi=>(chk (0<=i) (ltt (wL .u64 g i) λq=>(ltt (IntKind.i64.wrap q) λr=>(ltt (ior .i64 p r) λs=>(lL a d (e.set h.toNat s)))))))))))))))))))) else (some (.inr (.inl (d,e))))
def oJ (a:Int) (c:(Int×S140)) (d:Int) (b:(List Int)):Option (((List Int)×S140)⊕(S140)) :=
  chk (0<=a/\(8:Int) * a<=140737488355328) (ltt (IntKind.i64.wrap (8 * (b.length:Int))) λe=>((loop (λs=>hT a d e s.1 s.2.1 s.2.2) (b,List.replicate a.toNat (0:Int),0)).bind λt=>match t with | (.inl t)=>pG c t.1 t.2 | (.inr t)=>some t))
def sW (a0:S140) (f:Int):Option (((List Int)×S140)⊕(S140)) :=
  (cP a0).bind λb=>(fL b (λb=>((fW b.2).bind λa=>(fL a (λa=>(ltt (IntKind.i64.wrap a.1) λe=>(if (decide (e<=64))=true then (ltt (IntKind.i64.wrap (f * e)) λg=>(ltt (IntKind.i64.wrap (g+7)) λh=>(ltt (IntKind.i64.wrap (h.tdiv 8)) λi=>((aI a.2 ((a.2.f0.length:Int)==i)).bind λc=>(fL c (λc=>(oJ f b e c.f0)) (λc=>(some (.inr c)))))))) else ((aI a.2 false).bind λd=>(fL d (λd=>(oJ f b e d.f0)) (λd=>(some (.inr d)))))))) (λa=>(some (.inr a)))))) (λb=>(some (.inr b))))
def kC (a:(List Int)) (b:(List Int)):Option (((List Int)×S140)⊕(S140)) :=
  some (.inl (b,(⟨a⟩:S140)))
def yN (a:(List Int)) (b:(List Int)):Option (((List Int)×S140)⊕(S140)) :=
  kC a b
def vN (a:(List Int)) (b:(List Int)):Option (((List Int)×S140)⊕(S140)) :=
  yN a b
def hD (f:Int) (d:(List Int)) (b:(List Int)) (g:Int) (e:Int):Option (((List Int)×(List Int)×Int×Int)⊕(((List Int)×(List Int))⊕(((List Int)×S140)⊕(S140)))) :=
  if (decide (e<f))=true then ((cP (⟨d⟩:S140)).bind λa=>(fL a (λa=>(ltt (IntKind.i64.wrap (g+a.1)) λc=>(chk (b.length+[c].length<=140737488355328 / 8) (ltt (IntKind.i64.wrap (e+1)) λh=>(some (.inl (a.2.f0,b++[c],c,h))))))) (λa=>(some (.inr (.inr (.inr a))))))) else (some (.inr (.inl (d,b))))
def yO (a:(List Int)) (b:(List Int)):Option (((List Int)×S140)⊕(S140)) :=
  kC a b
def vO (a:(List Int)) (b:(List Int)):Option (((List Int)×S140)⊕(S140)) :=
  yO a b
def yP (a:(Int×S140)) (b:(List Int)):Option (((List Int)×(List Int))⊕(((List Int)×(List Int))⊕(((List Int)×S140)⊕(S140)))) :=
  some (.inl (a.2.f0,b))
def vP (a:(Int×S140)) (b:(List Int)):Option (((List Int)×(List Int))⊕(((List Int)×(List Int))⊕(((List Int)×S140)⊕(S140)))) :=
  yP a b
def iL (b:(Int×S140)) (d:Int) (a:(List Int)) (c:Int):Option (((List Int)×Int)⊕(((List Int)))) :=
  if (decide (c<d))=true then (chk (a.length+[b.1].length<=140737488355328 / 8) (ltt (IntKind.u64.wrap (c+1)) λe=>(some (.inl (a++[b.1],e))))) else (some (.inr (a)))
def dT (d:Int) (e:(List Int)) (c:(List Int)):Option (((List Int)×(List Int))⊕(((List Int)×(List Int))⊕(((List Int)×S140)⊕(S140)))) :=
  if (decide ((c.length:Int)<d))=true then ((cP (⟨e⟩:S140)).bind λa=>(fL a (λa=>(ltt (IntKind.i64.wrap (d - (c.length:Int))) λf=>(ltt (IntKind.i64.wrap (f - 1)) λg=>(ltt (IntKind.u64.wrap g) λh=>((bB a.2 h).bind λb=>(fL b (λb=>(ltt (IntKind.u64.wrap (1+b.1)) λi=>((loop (λs=>iL a i s.1 s.2) (c,0)).bind λt=>vP b t))) (λb=>(some (.inr (.inr (.inr b))))))))))) (λa=>(some (.inr (.inr (.inr a))))))) else (some (.inr (.inl (e,c))))
def tV (a0:S140):Option (((List Int)×S140)⊕(S140)) :=
  (fW a0).bind λb=>(fL b (λb=>((aI b.2 (decide (b.1<=3))).bind λe=>(fL e (λe=>((bB e 4096).bind λa=>(fL a (λa=>(ltt (IntKind.i64.wrap a.1) λf=>(if (b.1==0)=true then ((mY f a.2).bind λc=>(fL c (λc=>(kC c.2.f0 c.1)) (λc=>(some (.inr c))))) else (if (b.1==1)=true then ((loop (λs=>hD f s.1 s.2.1 s.2.2.1 s.2.2.2) (a.2.f0,[],0,0)).bind λt=>match t with | (.inl t)=>vN t.1 t.2 | (.inr t)=>some t) else (if (b.1==2)=true then ((loop (λs=>dT f s.1 s.2) (a.2.f0,[])).bind λt=>match t with | (.inl t)=>vO t.1 t.2 | (.inr t)=>some t) else (if (b.1==3)=true then (if (decide (0<f))=true then ((sW a.2 f).bind λd=>(fL d (λd=>(kC d.2.f0 d.1)) (λd=>(some (.inr d))))) else (kC a.2.f0 [])) else (kC a.2.f0 []))))))) (λa=>(some (.inr a)))))) (λe=>(some (.inr e)))))) (λb=>(some (.inr b))))
def qR (a0:S140) (b:(List Int)):Option ((S140×(List Int))⊕(S140×(List Int))) :=
  (tV a0).bind λa=>(fL a (λa=>(some (.inl (a.2,a.1)))) (λa=>(some (.inr (a,b)))))
def qK (a0:(List Int)) (a:(List Int)):Option (Bool×(List Int)) :=
  (qR (⟨a0⟩:S140) a).bind λy=>(fL y (λy=>some ((((y.1.f0.length:Int)==0),y.2))) (λy=>some ((false,y.2))))
def iV (a0:(List Int)):Option ((List Int)×Int) :=
  (qK a0 []).bind λa=>(if (!a.1)=true then (some ([],3)) else (some (a.2,0)))
end
end Go.Proofs.YtdkpjpoajlmmfaaGreatDoor.M
