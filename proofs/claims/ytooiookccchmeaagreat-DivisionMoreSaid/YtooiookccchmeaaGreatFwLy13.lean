/- Own work. -/
import Derived.Test.YtooiookccchmeaaGreatFwB1
set_option linter.unusedVariables false
set_option linter.unusedSimpArgs false
namespace Go.Fw.L19
open Go Go.Fw
abbrev U0:Ty:=(.int .u8)
abbrev U1:Ty:=(.sl .str)
abbrev V0:Type:=(List Int)
abbrev U2:Ty:=(.int .i64)
abbrev U3:Ty:=(.int .i32)
abbrev V1:Type:=(Int×Int)
abbrev V2:Type:=(List Bool)
abbrev V3:Type:=(Int×Unit)
abbrev V4:Type:=(List UInt8)
abbrev V5:Type:=(Int×Bool)
abbrev V6:Type:=(V4)
abbrev U4:Ty:=(.sl U0)
abbrev U5:Ty:=(.sl U2)
abbrev V7:Type:=(List V0)
abbrev U6:Ty:=(.pair .str .unit)
abbrev V8:Type:=(V0×Int)
abbrev V9:Type:=(V0×Unit)
abbrev DY:Type:=(V7)
abbrev aG:Type:=(List V4)
abbrev uu:Type:=(Int×V3)
abbrev zO:Type:=(V4×Int)
abbrev Xi:Type:=(V4×Unit)
abbrev fP:Type:=(aG)
abbrev zP:Type:=(V4×Bool)
abbrev U7:Ty:=(.sl U5)
abbrev U8:Ty:=(.pair U0 .unit)
abbrev oX:Type:=(V0×Int×Int)
abbrev U9:Ty:=(.pair U2 .unit)
abbrev L4:Ty:=(.pair U3 .unit)
abbrev mT:Type:=(V7×Int)
abbrev gq:Type:=(List uu)
abbrev a7:Type:=(Int×uu)
abbrev cb:Type:=(V3→Option Bool)
abbrev Xj:Type:=(Int×Xi)
abbrev Xa:Ty:=(.pair U4 .unit)
abbrev Xb:Ty:=(.pair U5 .unit)
abbrev zQ:Type:=(V0×V9)
abbrev cc:Type:=(List a7)
abbrev zR:Type:=(gq×Int)
abbrev zL:Ty:=(.fn U8 .bool)
abbrev Xk:Type:=(a7×Int)
abbrev mR:Ty:=(.fn L4 .bool)
abbrev aR:Type:=(Int×Xj)
abbrev nJ:Type:=(cc)
abbrev Xc:Ty:=(.pair U2 U6)
abbrev dT:Type:=(Int×zQ)
abbrev aA:Type:=(List aR)
abbrev ef:Ty:=(.pair U2 U9)
abbrev oY:Type:=(aR×Bool)
abbrev lq:Type:=(aA)
abbrev zS:Type:=(zQ→Option Int)
abbrev Xl:Type:=((List Xk)×Unit)
abbrev uv:Type:=(aA×Int)
abbrev Xd:Ty:=(.pair U4 Xa)
abbrev zM:Ty:=(.pair U5 Xb)
abbrev aD:Ty:=(.pair U2 Xc)
abbrev bt:Ty:=(.sl aD)
abbrev aZ:Ty:=(.pair U2 ef)
abbrev Xm:Type:=(aA×uu)
abbrev Xn:Type:=(V4×Xl)
abbrev fx:Ty:=(.pair U0 Xd)
abbrev DX:Ty:=(.map aZ U2)
abbrev aS:Type:=(V4×Xm)
abbrev bm:Type:=(List aS)
abbrev mU:Type:=(bm)
abbrev nK:Type:=(aS×Bool)
abbrev Xe:Ty:=(.pair DX .unit)
abbrev dG:Type:=(List bm)
abbrev Xo:Type:=(bm×Unit)
abbrev Xf:Ty:=(.pair .str Xe)
abbrev ff:Type:=((aS×Unit)→Option Bool)
abbrev Xg:Ty:=(.pair bt ef)
abbrev ae:Type:=(V4×Xo)
abbrev gr:Type:=(ae)
abbrev aC:Ty:=(.pair .str Xg)
abbrev rn:Type:=(ae×Int×Int)
abbrev bW:Ty:=(.sl aC)
abbrev lp:Ty:=(.sl bW)
abbrev L5:Ty:=(.pair aC .unit)
abbrev Xh:Ty:=(.pair bW .unit)
abbrev zN:Ty:=(.fn L5 .bool)
abbrev ak:Ty:=(.pair .str Xh)
abbrev aJ:Type:=(ae×Xn)
abbrev gQ:Type:=(aJ×Int)
abbrev kg:Type:=(aJ×V7)
abbrev bG:Ty:=(.pair ak Xf)
instance (n:Nat):OfNat Od n:=⟨.t n⟩
abbrev w (d:Nat) (o:qZ):AI:={dst:=some d,op:=o}
abbrev m (d:Nat) (k:Nat):AI:={dst:=some d,op:=.mv (.t k)}
def Qw:AC:=.out [0,3,4,5] (.aa [0,3,4] [w 5 (.ab (.c U2 0))])
def Ht:AC:=(.seq (.seq (.out [0,3,4,5,9] (.aa [0,3,4,5] [m 6 5,m 7 0,w 8 (.bQ 7),w 9 (.bin .leq 6 8)])) (.out [0,3,4,5] (.cond (.t 9) .skip (.exit 0)))) (.seq (.out [0,3,4,5] (.block 1 (.seq (.seq (.out [0,3,4,5,20] (.aa [0,3,4,5] [m 12 5,m 13 0,w 14 (.bQ 13),w 15 (.bin .eql 12 14),m 16 15,⟨some 17,.mv 4,some (16,true)⟩,⟨some 18,.mv 5,some (16,true)⟩,⟨some 19,.bin .eql 17 18,some (16,true)⟩,w 20 (.pick 16 19 (.c .bool false))])) (.out [0,3,4,5] (.cond (.t 20) (.exit 0) .skip))) (.seq (.out [0,3,4,5,30] (.aa [0,3,4,5] [m 21 5,m 22 0,w 23 (.bQ 22),w 24 (.bin .eql 21 23),m 25 24,⟨some 26,.mv 0,some (25,false)⟩,⟨some 27,.mv 5,some (25,false)⟩,⟨some 28,.dV 26 27,some (25,false)⟩,⟨some 29,.bin .eql 28 (.c U0 10),some (25,false)⟩,w 30 (.pick 25 (.c .bool true) 29)])) (.out [0,3,4,5] (.cond (.t 30) (.seq (.out [0,3,5] (.aa [0,3,4,5] [m 31 3,m 32 0,m 33 4,m 34 5,w 35 (.jL 32 (some 33) (some 34)),w 36 (.buildSlice 9 .str [35]),w 37 (.append 9 .str 8796093022208 31 36),w 3 (.ab 37)])) (.out [0,3,4,5] (.aa [0,3,5] [m 38 5,w 39 (.bin .add 38 (.c U2 1)),w 4 (.ab 39)]))) .skip)))))) (.out [0,3,4,5] (.aa [0,3,4,5] [m 10 5,w 11 (.bin .add 10 (.c U2 1)),w 5 (.ab 11)]))))
def Hu:AC:=.out [3] (.loop [0,3,4,5] Ht)
def Qx:AC:=.out [3] (.block 0 Hu)
def Qy:AC:=(.seq Qw Qx)
def Qz:AC:=(.seq (.out [2,3] (.aa [3] [m 40 3,w 2 (.ab 40)])) .ret)
def Bw:AC:=(.seq Qy Qz)
def Bx:AC:=(.seq (.out [0] (.aa [0] [w 2 (.ab (.nil 9 .str))])) (.seq (.out [0,3] (.aa [0] [w 3 (.ab (.nil 9 .str))])) (.seq (.out [0,3,4] (.aa [0,3] [w 4 (.ab (.c U2 0))])) Bw)))
def Hs:AC:=Bx
def d92:FD:={nargs:=1,body:=Hs,res:=[.t 2]}
def QA:AC:=.out [0,3,4,5] (.aa [0,3,4] [w 5 (.ab (.c U2 0))])
def Hw:AC:=(.seq (.seq (.out [0,3,4,5,9] (.aa [0,3,4,5] [m 6 5,m 7 0,w 8 (.bQ 7),w 9 (.bin .leq 6 8)])) (.out [0,3,4,5] (.cond (.t 9) .skip (.exit 0)))) (.seq (.out [0,2,3,4,5] (.block 1 (.seq (.out [0,3,4,5,21] (.aa [0,3,4,5] [m 12 5,m 13 0,w 14 (.bQ 13),w 15 (.bin .eql 12 14),m 16 15,⟨some 17,.mv 0,some (16,false)⟩,⟨some 18,.mv 5,some (16,false)⟩,⟨some 19,.dV 17 18,some (16,false)⟩,⟨some 20,.bin .eql 19 (.c U0 32),some (16,false)⟩,w 21 (.pick 16 (.c .bool true) 20)])) (.out [0,2,3,4,5] (.cond (.t 21) (.seq (.seq (.out [0,3,4,5,24] (.aa [0,3,4,5] [m 22 5,m 23 4,w 24 (.bin .eql 22 23)])) (.out [0,2,3,4,5] (.cond (.t 24) (.seq (.out [2] (.aa [] [w 2 (.ab (.nil 9 .str))])) .ret) .skip))) (.seq (.out [0,3,5] (.aa [0,3,4,5] [m 25 3,m 26 0,m 27 4,m 28 5,w 29 (.jL 26 (some 27) (some 28)),w 30 (.buildSlice 9 .str [29]),w 31 (.append 9 .str 8796093022208 25 30),w 3 (.ab 31)])) (.out [0,3,4,5] (.aa [0,3,5] [m 32 5,w 33 (.bin .add 32 (.c U2 1)),w 4 (.ab 33)])))) .skip))))) (.out [0,3,4,5] (.aa [0,3,4,5] [m 10 5,w 11 (.bin .add 10 (.c U2 1)),w 5 (.ab 11)]))))
def Hx:AC:=.out [2,3] (.loop [0,3,4,5] Hw)
def QB:AC:=.out [2,3] (.block 0 Hx)
def QC:AC:=(.seq QA QB)
def QD:AC:=(.seq (.out [2,3] (.aa [3] [m 34 3,w 2 (.ab 34)])) .ret)
def By:AC:=(.seq QC QD)
def Bz:AC:=(.seq (.out [0] (.aa [0] [w 2 (.ab (.nil 9 .str))])) (.seq (.out [0,3] (.aa [0] [w 3 (.ab (.nil 9 .str))])) (.seq (.out [0,3,4] (.aa [0,3] [w 4 (.ab (.c U2 0))])) By)))
def Hv:AC:=Bz
def d93:FD:={nargs:=1,body:=Hv,res:=[.t 2]}
def Nb:AC:=.out [0,3,4] (.aa [0,3] [w 4 (.ab (.c U2 0))])
def EV:AC:=(.seq (.seq (.out [0,3,4,9] (.aa [0,3,4] [m 6 4,m 7 0,w 8 (.bQ 7),w 9 (.bin .lss 6 8)])) (.out [0,3,4] (.cond (.t 9) .skip (.exit 0)))) (.seq (.out [0,3,4] (.block 1 (.seq (.out [0,3,4,15] (.aa [0,3,4] [m 12 0,m 13 4,w 14 (.dV 12 13),w 15 (.bin .eql 14 (.c U0 32))])) (.out [0,3,4] (.cond (.t 15) (.out [0,3,4] (.aa [0,3,4] [m 16 3,w 17 (.buildSlice 9 .str [(.c .str [])]),w 18 (.append 9 .str 8796093022208 16 17),w 3 (.ab 18)])) (.out [0,3,4] (.draw [0,3,4] [⟨m 19 3,[20,21,22,23,24,25,26,27,28,29,30,31,32,33,34],[19],[],false,[]⟩,⟨m 20 3,[19,23,24,25,26,27,28,29,30,31,32,33,34],[20],[],false,[]⟩,⟨w 21 (.aX 20),[19,23,24,25,26,27,28,29,30,31,32,33,34],[21],[1],false,[]⟩,⟨w 22 (.bin .sub 21 (.c U2 1)),[19,23,24,25,26,27,28,29,30,31,32,33,34],[22],[1,2],false,[]⟩,⟨m 23 3,[19,20,21,22,24,25,26,29,30,31,32,33],[23],[],false,[]⟩,⟨m 24 3,[19,20,21,22,23,29,30,31,32,33],[24],[],false,[]⟩,⟨w 25 (.aX 24),[19,20,21,22,23,29,30,31,32,33],[25],[5],false,[]⟩,⟨w 26 (.bin .sub 25 (.c U2 1)),[19,20,21,22,23,29,30,31,32,33],[26],[5,6],false,[]⟩,⟨w 27 (.indexAddr .str 23 26),[19,20,21,22,29,30,31,32,33],[27],[4,5,6,7],false,[]⟩,⟨w 28 (.load .str 27),[19,20,21,22,29,30,31,32,33],[28],[4,5,6,7,8],false,[]⟩,⟨m 29 0,[19,20,21,22,23,24,25,26,27,28,30,31,32],[29],[],false,[]⟩,⟨m 30 4,[19,20,21,22,23,24,25,26,27,28,29,31,32],[30],[],false,[]⟩,⟨m 31 4,[19,20,21,22,23,24,25,26,27,28,29,30],[31],[],false,[]⟩,⟨w 32 (.bin .add 31 (.c U2 1)),[19,20,21,22,23,24,25,26,27,28,29,30],[32],[12],false,[]⟩,⟨w 33 (.jL 29 (some 30) (some 32)),[19,20,21,22,23,24,25,26,27,28],[33],[10,11,12,13],false,[]⟩,⟨w 34 (.bin .add 28 33),[19,20,21,22],[34],[4,5,6,7,8,9,10,11,12,13,14],false,[]⟩,⟨w 35 (.indexAddr .str 19 22),[],[35],[0,1,2,3,4,5,6,7,8,9,10,11,12,13,14,15],false,[]⟩,⟨⟨none,.store .str 35 34,none⟩,[],[3,19,35],[0,1,2,3,4,5,6,7,8,9,10,11,12,13,14,15,16],true,[]⟩]))))))) (.out [0,3,4] (.aa [0,3,4] [m 10 4,w 11 (.bin .add 10 (.c U2 1)),w 4 (.ab 11)]))))
def EW:AC:=.out [3] (.loop [0,3,4] EV)
def Nc:AC:=.out [3] (.block 0 EW)
def Nf:AC:=(.seq Nb Nc)
def Ng:AC:=(.seq (.out [2,3] (.aa [3] [m 36 3,w 2 (.ab 36)])) .ret)
def Av:AC:=(.seq Nf Ng)
def Aw:AC:=(.seq (.out [0] (.aa [0] [w 2 (.ab (.nil 9 .str))])) (.seq (.out [0,3] (.aa [0] [w 5 (.buildSlice 9 .str [(.c .str [])]),w 3 (.ab 5)])) Av))
def EU:AC:=Aw
def d138:FD:={nargs:=1,body:=EU,res:=[.t 2]}
def NA:AC:=(.seq (.out [] (.aa [] [w 0 (.ab (.c .str []))])) (.seq (.out [0] (.aa [] [w 0 (.ab (.c .str [32,118,100,109,108,110,115,120,103,98]))])) .ret))
def Fg:AC:=NA
def d148:FD:={nargs:=0,body:=Fg,res:=[.t 0]}
def Mu:AC:=(.seq (.out [1] (.aa [0] [w 1 (.box aD 0),w 2 (.ab (.c .bool false))])) (.seq (.out [2] (.aa [1] [w 3 (.fieldAddr aD [.l] 1),w 4 (.load U2 3),w 5 (.bin .eql 4 (.c U2 1)),m 6 5,⟨some 7,.fieldAddr aD [.l] 1,some (6,false)⟩,⟨some 8,.load U2 7,some (6,false)⟩,⟨some 9,.bin .eql 8 (.c U2 2),some (6,false)⟩,w 10 (.pick 6 (.c .bool true) 9),w 2 (.ab 10)])) .ret))
def Ei:AC:=Mu
def d114:FD:={nargs:=1,body:=Ei,res:=[.t 2]}
def Na:AC:=(.seq (.out [0] (.aa [0] [w 2 (.ab (.c .bool false))])) (.seq (.out [2] (.aa [0] [m 3 0,w 4 (.bin .geq 3 (.c U0 97)),m 5 4,⟨some 6,.mv 0,some (5,true)⟩,⟨some 7,.bin .leq 6 (.c U0 122),some (5,true)⟩,w 8 (.pick 5 7 (.c .bool false)),m 9 8,⟨some 10,.mv 0,some (9,false)⟩,⟨some 11,.bin .geq 10 (.c U0 48),some (9,false)⟩,⟨some 12,.mv 11,some (9,false)⟩,⟨some 13,.mv 0,some (12,true)⟩,⟨some 14,.bin .leq 13 (.c U0 57),some (12,true)⟩,⟨some 15,.pick 12 14 (.c .bool false),some (9,false)⟩,w 16 (.pick 9 (.c .bool true) 15),m 17 16,⟨some 18,.mv 0,some (17,false)⟩,⟨some 19,.bin .eql 18 (.c U0 95),some (17,false)⟩,w 20 (.pick 17 (.c .bool true) 19),m 21 20,⟨some 22,.mv 0,some (21,false)⟩,⟨some 23,.bin .eql 22 (.c U0 94),some (21,false)⟩,w 24 (.pick 21 (.c .bool true) 23),m 25 24,⟨some 26,.mv 0,some (25,false)⟩,⟨some 27,.bin .eql 26 (.c U0 39),some (25,false)⟩,w 28 (.pick 25 (.c .bool true) 27),w 2 (.ab 28)])) .ret))
def ET:AC:=Na
def d137:FD:={nargs:=1,body:=ET,res:=[.t 2]}
def MB:AC:=.out [1,4] (.aa [1] [w 4 (.ab (.c U2 0))])
def Er:AC:=(.seq (.seq (.out [1,4,46] (.aa [1,4] [m 42 4,w 43 (.fieldAddr aD [.r,.r,.l] 1),w 44 (.load .str 43),w 45 (.bQ 44),w 46 (.bin .lss 42 45)])) (.out [1,4] (.cond (.t 46) .skip (.exit 0)))) (.seq (.out [1,2,4] (.block 1 (.seq (.out [1,4,54] (.aa [1,4] [w 49 (.fieldAddr aD [.r,.r,.l] 1),w 50 (.load .str 49),m 51 4,w 52 (.dV 50 51),w 53 (.call 137 [52]),w 54 (.un .not 53)])) (.out [1,2,4] (.cond (.t 54) (.seq (.out [2] (.aa [] [w 2 (.ab (.c U2 2))])) .ret) .skip))))) (.out [1,4] (.aa [1,4] [m 47 4,w 48 (.bin .add 47 (.c U2 1)),w 4 (.ab 48)]))))
def Es:AC:=.out [2] (.loop [1,4] Er)
def MC:AC:=.out [2] (.block 0 Es)
def MD:AC:=(.seq MB MC)
def ME:AC:=(.seq (.out [2] (.aa [] [w 2 (.ab (.c U2 0))])) .ret)
def Aj:AC:=(.seq MD ME)
def uI:AC:=(.seq (.seq (.out [1,34] (.aa [1,3] [m 33 3,w 34 (.un .not 33)])) (.out [1,2] (.cond (.t 34) (.seq (.out [2] (.aa [] [w 2 (.ab (.c U2 6))])) .ret) .skip))) (.seq (.seq (.out [1,37] (.aa [1] [w 35 (.fieldAddr aD [.r,.r,.l] 1),w 36 (.load .str 35),w 37 (.bin .eql 36 (.c .str []))])) (.out [1,2] (.cond (.t 37) (.seq (.out [2] (.aa [] [w 2 (.ab (.c U2 7))])) .ret) .skip))) (.seq (.seq (.out [1,41] (.aa [1] [w 38 (.fieldAddr aD [.r,.r,.l] 1),w 39 (.load .str 38),w 40 (.bQ 39),w 41 (.bin .gtr 40 (.c U2 8))])) (.out [1,2] (.cond (.t 41) (.seq (.out [2] (.aa [] [w 2 (.ab (.c U2 3))])) .ret) .skip))) Aj)))
def Ak:AC:=(.seq (.out [1] (.aa [0] [w 1 (.box aD 0),w 2 (.ab (.c U2 0))])) (.seq (.seq (.out [1,12] (.aa [1] [w 5 (.fieldAddr aD [.l] 1),w 6 (.load U2 5),w 7 (.bin .lss 6 (.c U2 1)),m 8 7,⟨some 9,.fieldAddr aD [.l] 1,some (8,false)⟩,⟨some 10,.load U2 9,some (8,false)⟩,⟨some 11,.bin .gtr 10 (.c U2 9),some (8,false)⟩,w 12 (.pick 8 (.c .bool true) 11)])) (.out [1,2] (.cond (.t 12) (.seq (.out [2] (.aa [] [w 2 (.ab (.c U2 1))])) .ret) .skip))) (.seq (.out [1,3] (.aa [1] [w 13 (.fieldAddr aD [.r,.l] 1),w 14 (.load U2 13),w 15 (.bin .eql 14 (.c U2 0)),w 3 (.ab 15)])) (.seq (.seq (.out [1,3,18] (.aa [1,3] [w 16 (.fieldAddr aD [.l] 1),w 17 (.load U2 16),w 18 (.bin .eql 17 (.c U2 1))])) (.out [1,3] (.cond (.t 18) (.out [1,3] (.aa [1] [w 19 (.fieldAddr aD [.r,.l] 1),w 20 (.load U2 19),w 21 (.bin .geq 20 (.c U2 1)),m 22 21,⟨some 23,.fieldAddr aD [.r,.l] 1,some (22,true)⟩,⟨some 24,.load U2 23,some (22,true)⟩,⟨some 25,.bin .leq 24 (.c U2 3),some (22,true)⟩,w 26 (.pick 22 25 (.c .bool false)),w 3 (.ab 26)])) .skip))) (.seq (.seq (.out [1,3,29] (.aa [1,3] [w 27 (.fieldAddr aD [.l] 1),w 28 (.load U2 27),w 29 (.bin .eql 28 (.c U2 2))])) (.out [1,3] (.cond (.t 29) (.out [1,3] (.aa [1] [w 30 (.fieldAddr aD [.r,.l] 1),w 31 (.load U2 30),w 32 (.bin .eql 31 (.c U2 2)),w 3 (.ab 32)])) .skip))) uI)))))
def Ep:AC:=Ak
def d117:FD:={nargs:=1,body:=Ep,res:=[.t 2]}
def EY:AC:=(.seq (.seq (.out [0,2,4,17] (.aa [0,2,4] [m 8 4,m 9 0,w 10 (.bQ 9),w 11 (.bin .lss 8 10),m 12 11,⟨some 13,.mv 0,some (12,true)⟩,⟨some 14,.mv 4,some (12,true)⟩,⟨some 15,.dV 13 14,some (12,true)⟩,⟨some 16,.bin .neq 15 (.c U0 47),some (12,true)⟩,w 17 (.pick 12 16 (.c .bool false))])) (.out [0,2,4] (.cond (.t 17) .skip (.exit 0)))) (.out [0,2,4] (.block 1 (.out [0,2,4] (.aa [0,2,4] [m 18 4,w 19 (.bin .add 18 (.c U2 1)),w 4 (.ab 19)])))))
def EZ:AC:=.out [0,2,4] (.loop [0,2,4] EY)
def Nh:AC:=.out [0,2,4] (.block 0 EZ)
def Ni:AC:=.out [2,5,6,7] (.aa [2,5,6] [w 7 (.ab (.c U2 1))])
def E1:AC:=(.seq (.seq (.out [2,5,6,7,38] (.aa [2,5,6,7] [m 35 7,w 36 (.call 148 []),w 37 (.bQ 36),w 38 (.bin .lss 35 37)])) (.out [2,5,6,7] (.cond (.t 38) .skip (.exit 2)))) (.seq (.out [2,5,6,7] (.block 3 (.seq (.out [2,5,6,7,46] (.draw [2,5,6,7] [⟨w 41 (.call 148 []),[42,44,45],[41],[],false,[]⟩,⟨m 42 7,[41,44,45],[42],[],false,[]⟩,⟨w 43 (.dV 41 42),[44,45],[43],[0,1],false,[]⟩,⟨m 44 5,[41,42,43],[44],[],false,[]⟩,⟨w 45 (.dV 44 (.c U2 0)),[41,42,43],[45],[3],false,[]⟩,⟨w 46 (.bin .eql 43 45),[],[46],[0,1,2,3,4],false,[]⟩])) (.out [2,5,6,7] (.cond (.t 46) (.out [2,5,6,7] (.aa [2,5,6,7] [m 47 7,w 48 (.fieldAddr aD [.l] 6),⟨none,.store U2 48 47,none⟩])) .skip))))) (.out [2,5,6,7] (.aa [2,5,6,7] [m 39 7,w 40 (.bin .add 39 (.c U2 1)),w 7 (.ab 40)]))))
def E2:AC:=.out [2,5,6] (.loop [2,5,6,7] E1)
def Nj:AC:=.out [2,5,6] (.block 2 E2)
def Nk:AC:=(.seq Ni Nj)
def Nl:AC:=(.seq (.out [2,5,6] (.aa [2,5,6] [m 49 5,w 50 (.jL 49 (some (.c U2 1)) none),w 5 (.ab 50)])) (.seq (.seq (.out [2,5,6,67] (.aa [2,5,6] [w 51 (.load aD 6),w 52 (.call 114 [51]),m 53 52,⟨some 54,.mv 5,some (53,true)⟩,⟨some 55,.bQ 54,some (53,true)⟩,⟨some 56,.bin .eql 55 (.c U2 1),some (53,true)⟩,w 57 (.pick 53 56 (.c .bool false)),m 58 57,⟨some 59,.mv 5,some (58,true)⟩,⟨some 60,.dV 59 (.c U2 0),some (58,true)⟩,⟨some 61,.bin .geq 60 (.c U0 49),some (58,true)⟩,w 62 (.pick 58 61 (.c .bool false)),m 63 62,⟨some 64,.mv 5,some (63,true)⟩,⟨some 65,.dV 64 (.c U2 0),some (63,true)⟩,⟨some 66,.bin .leq 65 (.c U0 51),some (63,true)⟩,w 67 (.pick 63 66 (.c .bool false))])) (.out [2,5,6] (.cond (.t 67) (.seq (.out [2,6] (.aa [2,5,6] [m 68 5,w 69 (.dV 68 (.c U2 0)),w 70 (.kN .i64 69),w 71 (.bin .sub 70 (.c U2 48)),w 72 (.fieldAddr aD [.r,.l] 6),⟨none,.store U2 72 71,none⟩])) (.out [2,5,6] (.aa [2,6] [w 5 (.ab (.c .str []))]))) .skip))) (.seq (.out [2,3] (.draw [2,5,6] [⟨w 73 (.load aD 6),[74,75,76,77,78,79,80],[73],[],false,[]⟩,⟨m 74 5,[73],[74],[],false,[]⟩,⟨w 75 (.bin .eql 74 (.c .str [])),[73],[75],[1],false,[]⟩,⟨m 76 75,[73],[76],[1,2],false,[]⟩,⟨⟨some 77,.load aD 6,some (76,true)⟩,[73],[77],[1,2,3],false,[]⟩,⟨⟨some 78,.call 117 [77],some (76,true)⟩,[73],[78],[1,2,3,4],false,[]⟩,⟨⟨some 79,.bin .eql 78 (.c U2 0),some (76,true)⟩,[2,73],[79],[1,2,3,4,5],false,[]⟩,⟨w 80 (.pick 76 79 (.c .bool false)),[2,73],[80],[1,2,3,4,5,6],false,[]⟩,⟨⟨none,.store aD 2 73,none⟩,[79,80],[2],[0,1,2,3,4,5],false,[]⟩,⟨w 3 (.ab 80),[],[3],[0,1,2,3,4,5,6,7,8],false,[]⟩])) .ret)))
def Az:AC:=(.seq Nk Nl)
def E0:AC:=(.seq (.out [0,2,4,5] (.aa [0,2,4] [w 5 (.ab (.c .str []))])) (.seq (.seq (.out [0,2,4,5,23] (.aa [0,2,4,5] [m 20 4,m 21 0,w 22 (.bQ 21),w 23 (.bin .lss 20 22)])) (.out [0,2,4,5] (.cond (.t 23) (.out [0,2,4,5] (.aa [0,2,4] [m 24 0,m 25 4,w 26 (.bin .add 25 (.c U2 1)),w 27 (.jL 24 (some 26) none),w 5 (.ab 27)])) .skip))) (.seq (.seq (.out [0,2,4,5,29] (.aa [0,2,4,5] [m 28 5,w 29 (.bin .eql 28 (.c .str []))])) (.out [0,2,3,4,5] (.cond (.t 29) (.seq (.out [2,3] (.aa [2] [w 30 (.build aD []),⟨none,.store aD 2 30,none⟩,w 3 (.ab (.c .bool false))])) .ret) .skip))) (.seq (.out [2,5,6] (.aa [0,2,4,5] [m 31 0,m 32 4,w 33 (.jL 31 none (some 32)),w 34 (.build aD [([.r,.r,.l],33)]),w 6 (.alloc aD .no),⟨none,.store aD 6 34,none⟩])) Az))))
def Ax:AC:=(.seq Nh E0)
def Ay:AC:=(.seq (.out [0,2] (.aa [0] [w 2 (.alloc aD .no),w 3 (.ab (.c .bool false))])) (.seq (.out [0,2,4] (.aa [0,2] [w 4 (.ab (.c U2 0))])) Ax))
def EX:AC:=Ay
def d139:FD:={nargs:=1,body:=EX,res:=[.cell 2 aD,.t 3]}
def MF:AC:=.out [4,5,6] (.aa [4,5] [w 6 (.ab (.c U2 0))])
def Eu:AC:=(.seq (.seq (.out [4,5,6,19] (.aa [4,5,6] [m 16 6,m 17 5,w 18 (.aX 17),w 19 (.bin .lss 16 18)])) (.out [4,5,6] (.cond (.t 19) .skip (.exit 0)))) (.seq (.out [2,3,4,5,6] (.block 1 (.seq (.out [4,5,6,7,8] (.aa [4,5,6] [m 23 5,m 24 6,w 25 (.indexAddr .str 23 24),w 26 (.load .str 25),w 27 (.call 139 [26]),m 22 27,w 28 (.extract 22 0),w 29 (.extract 22 1),w 7 (.alloc aD .no),⟨none,.store aD 7 28,none⟩,w 8 (.ab 29)])) (.seq (.seq (.out [4,5,6,7,31] (.aa [4,5,6,7,8] [m 30 8,w 31 (.un .not 30)])) (.out [2,3,4,5,6,7] (.cond (.t 31) (.seq (.out [2,3] (.aa [] [w 2 (.ab (.nil 40 aD)),w 3 (.ab (.c U2 2))])) .ret) .skip))) (.out [4,5,6] (.aa [4,5,6,7] [m 32 4,w 33 (.load aD 7),w 34 (.buildSlice 40 aD [33]),w 35 (.append 40 aD 4398046511104 32 34),w 4 (.ab 35)])))))) (.out [4,5,6] (.aa [4,5,6] [m 20 6,w 21 (.bin .add 20 (.c U2 1)),w 6 (.ab 21)]))))
def Ev:AC:=.out [2,3,4] (.loop [4,5,6] Eu)
def MG:AC:=.out [2,3,4] (.block 0 Ev)
def MH:AC:=(.seq MF MG)
def MI:AC:=(.seq (.seq (.out [4,38] (.aa [4] [m 36 4,w 37 (.aX 36),w 38 (.bin .gtr 37 (.c U2 200))])) (.out [2,3,4] (.cond (.t 38) (.seq (.out [2,3] (.aa [] [w 2 (.ab (.nil 40 aD)),w 3 (.ab (.c U2 2))])) .ret) .skip))) (.seq (.out [2,3,4] (.aa [4] [m 39 4,w 2 (.ab 39),w 3 (.ab (.c U2 0))])) .ret))
def Al:AC:=(.seq MH MI)
def Am:AC:=(.seq (.out [0] (.aa [0] [w 2 (.ab (.nil 40 aD)),w 3 (.ab (.c U2 0))])) (.seq (.seq (.out [0,11] (.aa [0] [m 9 0,w 10 (.bQ 9),w 11 (.bin .gtr 10 (.c U2 4000))])) (.out [0,2,3] (.cond (.t 11) (.seq (.out [2,3] (.aa [] [w 2 (.ab (.nil 40 aD)),w 3 (.ab (.c U2 3))])) .ret) .skip))) (.seq (.seq (.out [0,13] (.aa [0] [m 12 0,w 13 (.bin .eql 12 (.c .str []))])) (.out [0,2,3] (.cond (.t 13) (.seq (.out [2,3] (.aa [] [w 2 (.ab (.nil 40 aD)),w 3 (.ab (.c U2 0))])) .ret) .skip))) (.seq (.out [0,4] (.aa [0] [w 4 (.ab (.nil 40 aD))])) (.seq (.out [4,5] (.aa [0,4] [m 14 0,w 15 (.call 138 [14]),w 5 (.ab 15)])) Al)))))
def Et:AC:=Am
def d118:FD:={nargs:=1,body:=Et,res:=[.t 2,.t 3]}
def M9:AC:=(.seq (.out [0] (.aa [0] [w 2 (.ab (.c .bool false))])) (.seq (.out [2] (.aa [0] [m 3 0,w 4 (.bin .geq 3 (.c U0 48)),m 5 4,⟨some 6,.mv 0,some (5,true)⟩,⟨some 7,.bin .leq 6 (.c U0 57),some (5,true)⟩,w 8 (.pick 5 7 (.c .bool false)),w 2 (.ab 8)])) .ret))
def ES:AC:=M9
def d136:FD:={nargs:=1,body:=ES,res:=[.t 2]}
def E4:AC:=(.seq (.seq (.out [0,3,13] (.aa [0,3] [m 4 3,m 5 0,w 6 (.bQ 5),w 7 (.bin .lss 4 6),m 8 7,⟨some 9,.mv 0,some (8,true)⟩,⟨some 10,.mv 3,some (8,true)⟩,⟨some 11,.dV 9 10,some (8,true)⟩,⟨some 12,.call 136 [11],some (8,true)⟩,w 13 (.pick 8 12 (.c .bool false))])) (.out [0,3] (.cond (.t 13) .skip (.exit 0)))) (.out [0,3] (.block 1 (.out [0,3] (.aa [0,3] [m 14 3,w 15 (.bin .add 14 (.c U2 1)),w 3 (.ab 15)])))))
def E5:AC:=.out [3] (.loop [0,3] E4)
def No:AC:=.out [3] (.block 0 E5)
def Np:AC:=(.seq (.out [2] (.aa [3] [m 16 3,w 2 (.ab 16)])) .ret)
def AA:AC:=(.seq No Np)
def AB:AC:=(.seq (.out [0] (.aa [0] [w 2 (.ab (.c U2 0))])) (.seq (.out [0,3] (.aa [0] [w 3 (.ab (.c U2 0))])) AA))
def E3:AC:=AB
def d140:FD:={nargs:=1,body:=E3,res:=[.t 2]}
def MJ:AC:=.out [0,4,5] (.aa [0,4] [w 5 (.ab (.c U2 0))])
def Ey:AC:=(.seq (.seq (.out [0,4,5,33] (.aa [0,4,5] [m 30 5,m 31 0,w 32 (.bQ 31),w 33 (.bin .lss 30 32)])) (.out [0,4,5] (.cond (.t 33) .skip (.exit 0)))) (.seq (.out [0,4,5] (.block 1 (.out [0,4,5] (.aa [0,4,5] [m 36 4,w 37 (.bin .mul (.c U2 10) 36),m 38 0,m 39 5,w 40 (.dV 38 39),w 41 (.bin .sub 40 (.c U0 48)),w 42 (.kN .i64 41),w 43 (.bin .add 37 42),w 4 (.ab 43)])))) (.out [0,4,5] (.aa [0,4,5] [m 34 5,w 35 (.bin .add 34 (.c U2 1)),w 5 (.ab 35)]))))
def Ez:AC:=.out [4] (.loop [0,4,5] Ey)
def MK:AC:=.out [4] (.block 0 Ez)
def ML:AC:=(.seq MJ MK)
def MM:AC:=(.seq (.out [2,3] (.aa [4] [m 44 4,w 2 (.ab 44),w 3 (.ab (.c .bool true))])) .ret)
def Ao:AC:=(.seq ML MM)
def Ap:AC:=(.seq (.out [0] (.aa [0] [w 2 (.ab (.c U2 0)),w 3 (.ab (.c .bool false))])) (.seq (.seq (.out [0,29] (.aa [0] [m 6 0,w 7 (.bin .eql 6 (.c .str [])),m 8 7,⟨some 9,.mv 0,some (8,false)⟩,⟨some 10,.bQ 9,some (8,false)⟩,⟨some 11,.bin .gtr 10 (.c U2 6),some (8,false)⟩,w 12 (.pick 8 (.c .bool true) 11),m 13 12,⟨some 14,.mv 0,some (13,false)⟩,⟨some 15,.call 140 [14],some (13,false)⟩,⟨some 16,.mv 0,some (13,false)⟩,⟨some 17,.bQ 16,some (13,false)⟩,⟨some 18,.bin .neq 15 17,some (13,false)⟩,w 19 (.pick 13 (.c .bool true) 18),m 20 19,⟨some 21,.mv 0,some (20,false)⟩,⟨some 22,.dV 21 (.c U2 0),some (20,false)⟩,⟨some 23,.bin .eql 22 (.c U0 48),some (20,false)⟩,⟨some 24,.mv 23,some (20,false)⟩,⟨some 25,.mv 0,some (24,true)⟩,⟨some 26,.bQ 25,some (24,true)⟩,⟨some 27,.bin .gtr 26 (.c U2 1),some (24,true)⟩,⟨some 28,.pick 24 27 (.c .bool false),some (20,false)⟩,w 29 (.pick 20 (.c .bool true) 28)])) (.out [0,2,3] (.cond (.t 29) (.seq (.out [2,3] (.aa [] [w 2 (.ab (.c U2 0)),w 3 (.ab (.c .bool false))])) .ret) .skip))) (.seq (.out [0,4] (.aa [0] [w 4 (.ab (.c U2 0))])) Ao)))
def Ew:AC:=Ap
def d119:FD:={nargs:=1,body:=Ew,res:=[.t 2,.t 3]}
def MO:AC:=(.seq (.out [0] (.aa [0] [w 2 (.ab (.c .str []))])) (.seq (.out [2] (.aa [0] [w 3 (.buildSlice 9 .str [(.c .str [97,110,121,119,104,101,114,101]),(.c .str [98,101,102,111,114,101]),(.c .str [115,116,97,114,116]),(.c .str [98,101,116,119,101,101,110]),(.c .str [110,111,116])]),m 4 0,w 5 (.indexAddr .str 3 4),w 6 (.load .str 5),w 2 (.ab 6)])) .ret))
def EA:AC:=MO
def d120:FD:={nargs:=1,body:=EA,res:=[.t 2]}
def QE:AC:=.out [2,4,5,6] (.aa [2,4,5] [w 6 (.ab (.c U2 2))])
def Hz:AC:=(.seq (.seq (.out [2,4,5,6,25] (.aa [2,4,5,6] [m 21 6,m 22 4,w 23 (.aX 22),w 24 (.bin .sub 23 (.c U2 2)),w 25 (.bin .lss 21 24)])) (.out [2,4,5,6] (.cond (.t 25) .skip (.exit 0)))) (.seq (.out [2,4,5,6] (.block 1 (.out [2,4,5,6] (.aa [2,4,5,6] [m 28 5,w 29 (.bin .add 28 (.c .str [32])),m 30 4,m 31 6,w 32 (.indexAddr .str 30 31),w 33 (.load .str 32),w 34 (.bin .add 29 33),w 5 (.ab 34)])))) (.out [2,4,5,6] (.aa [2,4,5,6] [m 26 6,w 27 (.bin .add 26 (.c U2 1)),w 6 (.ab 27)]))))
def HB:AC:=.out [2,4,5] (.loop [2,4,5,6] Hz)
def QG:AC:=.out [2,4,5] (.block 0 HB)
def QH:AC:=(.seq QE QG)
def QI:AC:=.out [2,4,7,9,11] (.aa [2,4,7,9] [w 11 (.ab (.c U2 0))])
def HC:AC:=(.seq (.seq (.out [2,4,7,9,11,58] (.aa [2,4,7,9,11] [m 57 11,w 58 (.bin .leq 57 (.c U2 4))])) (.out [2,4,7,9,11] (.cond (.t 58) .skip (.exit 2)))) (.seq (.out [2,3,4,7,9,11] (.block 3 (.seq (.out [2,4,7,9,11,69] (.draw [2,4,7,9,11] [⟨m 61 4,[62,63,64,67,68],[61],[],false,[]⟩,⟨m 62 4,[61,67,68],[62],[],false,[]⟩,⟨w 63 (.aX 62),[61,67,68],[63],[1],false,[]⟩,⟨w 64 (.bin .sub 63 (.c U2 1)),[61,67,68],[64],[1,2],false,[]⟩,⟨w 65 (.indexAddr .str 61 64),[67,68],[65],[0,1,2,3],false,[]⟩,⟨w 66 (.load .str 65),[67,68],[66],[0,1,2,3,4],false,[]⟩,⟨m 67 11,[61,62,63,64,65,66],[67],[],false,[]⟩,⟨w 68 (.call 120 [67]),[61,62,63,64,65,66],[68],[6],false,[]⟩,⟨w 69 (.bin .eql 66 68),[],[69],[0,1,2,3,4,5,6,7],false,[]⟩])) (.out [2,3,4,7,9,11] (.cond (.t 69) (.seq (.out [2,3] (.aa [2,4,7,9,11] [m 70 4,w 71 (.indexAddr .str 70 (.c U2 0)),w 72 (.load .str 71),m 73 7,m 74 9,m 75 11,w 76 (.build aC [([.l],72),([.r,.l],73),([.r,.r,.l],74),([.r,.r,.r,.l],75)]),⟨none,.store aC 2 76,none⟩,w 3 (.ab (.c .bool true))])) .ret) .skip))))) (.out [2,4,7,9,11] (.aa [2,4,7,9,11] [m 59 11,w 60 (.bin .add 59 (.c U2 1)),w 11 (.ab 60)]))))
def HD:AC:=.out [2,3] (.loop [2,4,7,9,11] HC)
def QJ:AC:=.out [2,3] (.block 2 HD)
def QK:AC:=(.seq QI QJ)
def QF:AC:=(.seq (.out [2,3] (.aa [2] [w 77 (.kh aC (.pair .no (.pair (.own true 40 .no) (.pair .no (.pair .no .no)))) []),⟨none,.store aC 2 77,none⟩,w 3 (.ab (.c .bool false))])) .ret)
def BA:AC:=(.seq QK QF)
def HA:AC:=(.seq (.out [2,4,7,8] (.aa [2,4,5] [m 36 5,w 37 (.call 118 [36]),m 35 37,w 38 (.extract 35 0),w 39 (.extract 35 1),w 7 (.ab 38),w 8 (.ab 39)])) (.seq (.out [2,4,7,8,9,10] (.aa [2,4,7,8] [m 41 4,m 42 4,w 43 (.aX 42),w 44 (.bin .sub 43 (.c U2 2)),w 45 (.indexAddr .str 41 44),w 46 (.load .str 45),w 47 (.call 119 [46]),m 40 47,w 48 (.extract 40 0),w 49 (.extract 40 1),w 9 (.ab 48),w 10 (.ab 49)])) (.seq (.seq (.out [2,4,7,9,55] (.aa [2,4,7,8,9,10] [m 50 8,w 51 (.bin .neq 50 (.c U2 0)),m 52 51,⟨some 53,.mv 10,some (52,false)⟩,⟨some 54,.un .not 53,some (52,false)⟩,w 55 (.pick 52 (.c .bool true) 54)])) (.out [2,3,4,7,9] (.cond (.t 55) (.seq (.out [2,3] (.aa [2] [w 56 (.kh aC (.pair .no (.pair (.own true 40 .no) (.pair .no (.pair .no .no)))) []),⟨none,.store aC 2 56,none⟩,w 3 (.ab (.c .bool false))])) .ret) .skip))) BA)))
def BB:AC:=(.seq QH HA)
def BC:AC:=(.seq (.out [0,2] (.aa [0] [w 2 (.alloc aC (.pair .no (.pair (.own true 40 .no) (.pair .no (.pair .no .no))))),w 3 (.ab (.c .bool false))])) (.seq (.out [2,4] (.aa [0,2] [m 12 0,w 13 (.call 93 [12]),w 4 (.ab 13)])) (.seq (.seq (.out [2,4,16] (.aa [2,4] [m 14 4,w 15 (.aX 14),w 16 (.bin .lss 15 (.c U2 4))])) (.out [2,3,4] (.cond (.t 16) (.seq (.out [2,3] (.aa [2] [w 17 (.kh aC (.pair .no (.pair (.own true 40 .no) (.pair .no (.pair .no .no)))) []),⟨none,.store aC 2 17,none⟩,w 3 (.ab (.c .bool false))])) .ret) .skip))) (.seq (.out [2,4,5] (.aa [2,4] [m 18 4,w 19 (.indexAddr .str 18 (.c U2 1)),w 20 (.load .str 19),w 5 (.ab 20)])) BB))))
def Hy:AC:=BC
def d94:FD:={nargs:=1,body:=Hy,res:=[.cell 2 aC,.t 3]}
def M8:AC:=(.seq (.out [0] (.aa [0] [w 2 (.ab (.c .bool false))])) (.seq (.out [2] (.aa [0] [m 3 0,w 4 (.bin .geq 3 (.c U0 97)),m 5 4,⟨some 6,.mv 0,some (5,true)⟩,⟨some 7,.bin .leq 6 (.c U0 122),some (5,true)⟩,w 8 (.pick 5 7 (.c .bool false)),w 2 (.ab 8)])) .ret))
def ER:AC:=M8
def d135:FD:={nargs:=1,body:=ER,res:=[.t 2]}
def Ek:AC:=(.seq (.seq (.out [0,3,15] (.aa [0,3] [m 12 3,m 13 0,w 14 (.bQ 13),w 15 (.bin .lss 12 14)])) (.out [0,3] (.cond (.t 15) .skip (.exit 0)))) (.out [0,3] (.block 1 (.seq (.seq (.out [0,3,25] (.aa [0,3] [m 16 0,m 17 3,w 18 (.dV 16 17),w 19 (.call 135 [18]),m 20 19,⟨some 21,.mv 0,some (20,false)⟩,⟨some 22,.mv 3,some (20,false)⟩,⟨some 23,.dV 21 22,some (20,false)⟩,⟨some 24,.call 136 [23],some (20,false)⟩,w 25 (.pick 20 (.c .bool true) 24)])) (.out [0,3] (.cond (.t 25) (.seq (.out [0,3] (.aa [0,3] [m 26 3,w 27 (.bin .add 26 (.c U2 1)),w 3 (.ab 27)])) (.exit 1)) .skip))) (.seq (.seq (.out [0,3,54] (.aa [0,3] [m 28 0,m 29 3,w 30 (.dV 28 29),w 31 (.bin .neq 30 (.c U0 45)),m 32 31,⟨some 33,.mv 3,some (32,false)⟩,⟨some 34,.bin .add 33 (.c U2 1),some (32,false)⟩,⟨some 35,.mv 0,some (32,false)⟩,⟨some 36,.bQ 35,some (32,false)⟩,⟨some 37,.bin .eql 34 36,some (32,false)⟩,w 38 (.pick 32 (.c .bool true) 37),m 39 38,⟨some 40,.mv 0,some (39,false)⟩,⟨some 41,.mv 3,some (39,false)⟩,⟨some 42,.bin .add 41 (.c U2 1),some (39,false)⟩,⟨some 43,.dV 40 42,some (39,false)⟩,⟨some 44,.call 135 [43],some (39,false)⟩,⟨some 45,.un .not 44,some (39,false)⟩,⟨some 46,.mv 45,some (39,false)⟩,⟨some 47,.mv 0,some (46,true)⟩,⟨some 48,.mv 3,some (46,true)⟩,⟨some 49,.bin .add 48 (.c U2 1),some (46,true)⟩,⟨some 50,.dV 47 49,some (46,true)⟩,⟨some 51,.call 136 [50],some (46,true)⟩,⟨some 52,.un .not 51,some (46,true)⟩,⟨some 53,.pick 46 52 (.c .bool false),some (39,false)⟩,w 54 (.pick 39 (.c .bool true) 53)])) (.out [0,3] (.cond (.t 54) (.exit 0) .skip))) (.out [0,3] (.aa [0,3] [m 55 3,w 56 (.bin .add 55 (.c U2 2)),w 3 (.ab 56)])))))))
def El:AC:=.out [3] (.loop [0,3] Ek)
def Mv:AC:=.out [3] (.block 0 El)
def Mw:AC:=(.seq (.out [2] (.aa [3] [m 57 3,w 2 (.ab 57)])) .ret)
def Af:AC:=(.seq Mv Mw)
def Ag:AC:=(.seq (.out [0] (.aa [0] [w 2 (.ab (.c U2 0))])) (.seq (.seq (.out [0,11] (.aa [0] [m 4 0,w 5 (.bin .eql 4 (.c .str [])),m 6 5,⟨some 7,.mv 0,some (6,false)⟩,⟨some 8,.dV 7 (.c U2 0),some (6,false)⟩,⟨some 9,.call 135 [8],some (6,false)⟩,⟨some 10,.un .not 9,some (6,false)⟩,w 11 (.pick 6 (.c .bool true) 10)])) (.out [0,2] (.cond (.t 11) (.seq (.out [2] (.aa [] [w 2 (.ab (.c U2 0))])) .ret) .skip))) (.seq (.out [0,3] (.aa [0] [w 3 (.ab (.c U2 1))])) Af)))
def Ej:AC:=Ag
def d115:FD:={nargs:=1,body:=Ej,res:=[.t 2]}
def Qr:AC:=(.seq (.out [0] (.aa [0] [w 2 (.ab (.c .bool false))])) (.seq (.out [2] (.aa [0] [m 3 0,w 4 (.bin .neq 3 (.c .str [])),m 5 4,⟨some 6,.mv 0,some (5,true)⟩,⟨some 7,.bQ 6,some (5,true)⟩,⟨some 8,.bin .leq 7 (.c U2 20),some (5,true)⟩,w 9 (.pick 5 8 (.c .bool false)),m 10 9,⟨some 11,.mv 0,some (10,true)⟩,⟨some 12,.call 115 [11],some (10,true)⟩,⟨some 13,.mv 0,some (10,true)⟩,⟨some 14,.bQ 13,some (10,true)⟩,⟨some 15,.bin .eql 12 14,some (10,true)⟩,w 16 (.pick 10 15 (.c .bool false)),w 2 (.ab 16)])) .ret))
def Ho:AC:=Qr
def d90:FD:={nargs:=1,body:=Ho,res:=[.t 2]}
def Mq:AC:=.out [0,3] (.aa [0] [w 3 (.ab (.c U2 0))])
def Eg:AC:=(.seq (.seq (.out [0,3,11] (.aa [0,3] [m 10 3,w 11 (.bin .lss 10 (.c U2 15))])) (.out [0,3] (.cond (.t 11) .skip (.exit 0)))) (.seq (.out [0,2,3] (.block 1 (.seq (.out [0,3,17] (.aa [0,3] [m 14 3,w 15 (.dV (.c .str [32,46,44,59,58,33,63,34,45,91,93,60,62,123,125]) 14),m 16 0,w 17 (.bin .eql 15 16)])) (.out [0,2,3] (.cond (.t 17) (.seq (.out [2] (.aa [] [w 2 (.ab (.c .bool false))])) .ret) .skip))))) (.out [0,3] (.aa [0,3] [m 12 3,w 13 (.bin .add 12 (.c U2 1)),w 3 (.ab 13)]))))
def Eh:AC:=.out [2] (.loop [0,3] Eg)
def Mr:AC:=.out [2] (.block 0 Eh)
def Ms:AC:=(.seq Mq Mr)
def Mt:AC:=(.seq (.out [2] (.aa [] [w 2 (.ab (.c .bool true))])) .ret)
def Ad:AC:=(.seq Ms Mt)
def Ae:AC:=(.seq (.out [0] (.aa [0] [w 2 (.ab (.c .bool false))])) (.seq (.seq (.out [0,9] (.aa [0] [m 4 0,w 5 (.bin .lss 4 (.c U0 32)),m 6 5,⟨some 7,.mv 0,some (6,false)⟩,⟨some 8,.bin .gtr 7 (.c U0 126),some (6,false)⟩,w 9 (.pick 6 (.c .bool true) 8)])) (.out [0,2] (.cond (.t 9) (.seq (.out [2] (.aa [] [w 2 (.ab (.c .bool false))])) .ret) .skip))) Ad))
def Ef:AC:=Ae
def d111:FD:={nargs:=1,body:=Ef,res:=[.t 2]}
def Mx:AC:=.out [0,3] (.aa [0] [w 3 (.ab (.c U2 0))])
def En:AC:=(.seq (.seq (.out [0,3,12] (.aa [0,3] [m 9 3,m 10 0,w 11 (.bQ 10),w 12 (.bin .lss 9 11)])) (.out [0,3] (.cond (.t 12) .skip (.exit 0)))) (.seq (.out [0,2,3] (.block 1 (.seq (.out [0,3,31] (.aa [0,3] [m 15 0,m 16 3,w 17 (.dV 15 16),w 18 (.call 111 [17]),w 19 (.un .not 18),m 20 19,⟨some 21,.mv 0,some (20,false)⟩,⟨some 22,.mv 3,some (20,false)⟩,⟨some 23,.dV 21 22,some (20,false)⟩,⟨some 24,.bin .geq 23 (.c U0 65),some (20,false)⟩,⟨some 25,.mv 24,some (20,false)⟩,⟨some 26,.mv 0,some (25,true)⟩,⟨some 27,.mv 3,some (25,true)⟩,⟨some 28,.dV 26 27,some (25,true)⟩,⟨some 29,.bin .leq 28 (.c U0 90),some (25,true)⟩,⟨some 30,.pick 25 29 (.c .bool false),some (20,false)⟩,w 31 (.pick 20 (.c .bool true) 30)])) (.out [0,2,3] (.cond (.t 31) (.seq (.out [2] (.aa [] [w 2 (.ab (.c U2 2))])) .ret) .skip))))) (.out [0,3] (.aa [0,3] [m 13 3,w 14 (.bin .add 13 (.c U2 1)),w 3 (.ab 14)]))))
def Eo:AC:=.out [2] (.loop [0,3] En)
def My:AC:=.out [2] (.block 0 Eo)
def Mz:AC:=(.seq Mx My)
def MA:AC:=(.seq (.out [2] (.aa [] [w 2 (.ab (.c U2 0))])) .ret)
def Ah:AC:=(.seq Mz MA)
def Ai:AC:=(.seq (.out [0] (.aa [0] [w 2 (.ab (.c U2 0))])) (.seq (.seq (.out [0,5] (.aa [0] [m 4 0,w 5 (.bin .eql 4 (.c .str []))])) (.out [0,2] (.cond (.t 5) (.seq (.out [2] (.aa [] [w 2 (.ab (.c U2 7))])) .ret) .skip))) (.seq (.seq (.out [0,8] (.aa [0] [m 6 0,w 7 (.bQ 6),w 8 (.bin .gtr 7 (.c U2 4))])) (.out [0,2] (.cond (.t 8) (.seq (.out [2] (.aa [] [w 2 (.ab (.c U2 3))])) .ret) .skip))) Ah)))
def Em:AC:=Ai
def d116:FD:={nargs:=1,body:=Em,res:=[.t 2]}
def Qs:AC:=.out [1,4] (.aa [1] [w 4 (.ab (.c U2 0))])
def Hq:AC:=(.seq (.seq (.out [1,4,24] (.aa [1,4] [m 20 4,w 21 (.fieldAddr aC [.r,.l] 1),w 22 (.load bt 21),w 23 (.aX 22),w 24 (.bin .lss 20 23)])) (.out [1,4] (.cond (.t 24) .skip (.exit 0)))) (.seq (.out [1,2,4] (.block 1 (.seq (.out [1,4,5] (.aa [1,4] [w 27 (.fieldAddr aC [.r,.l] 1),w 28 (.load bt 27),m 29 4,w 30 (.indexAddr aD 28 29),w 31 (.load aD 30),w 32 (.call 117 [31]),w 5 (.ab 32)])) (.seq (.out [1,4,5,34] (.aa [1,4,5] [m 33 5,w 34 (.bin .neq 33 (.c U2 0))])) (.out [1,2,4] (.cond (.t 34) (.seq (.out [2] (.aa [5] [m 35 5,w 2 (.ab 35)])) .ret) .skip)))))) (.out [1,4] (.aa [1,4] [m 25 4,w 26 (.bin .add 25 (.c U2 1)),w 4 (.ab 26)]))))
def Hr:AC:=.out [1,2] (.loop [1,4] Hq)
def Qt:AC:=.out [1,2] (.block 0 Hr)
def Qu:AC:=(.seq Qs Qt)
def Qv:AC:=(.seq (.seq (.out [53] (.aa [1] [w 36 (.fieldAddr aC [.r,.r,.l] 1),w 37 (.load U2 36),w 38 (.bin .lss 37 (.c U2 0)),m 39 38,⟨some 40,.fieldAddr aC [.r,.r,.l] 1,some (39,false)⟩,⟨some 41,.load U2 40,some (39,false)⟩,⟨some 42,.bin .gtr 41 (.c U2 99),some (39,false)⟩,w 43 (.pick 39 (.c .bool true) 42),m 44 43,⟨some 45,.fieldAddr aC [.r,.r,.r,.l] 1,some (44,false)⟩,⟨some 46,.load U2 45,some (44,false)⟩,⟨some 47,.bin .lss 46 (.c U2 0),some (44,false)⟩,w 48 (.pick 44 (.c .bool true) 47),m 49 48,⟨some 50,.fieldAddr aC [.r,.r,.r,.l] 1,some (49,false)⟩,⟨some 51,.load U2 50,some (49,false)⟩,⟨some 52,.bin .gtr 51 (.c U2 4),some (49,false)⟩,w 53 (.pick 49 (.c .bool true) 52)])) (.out [2] (.cond (.t 53) (.seq (.out [2] (.aa [] [w 2 (.ab (.c U2 6))])) .ret) .skip))) (.seq (.out [2] (.aa [] [w 2 (.ab (.c U2 0))])) .ret))
def Bu:AC:=(.seq Qu Qv)
def Bv:AC:=(.seq (.out [1] (.aa [0] [w 1 (.box aC 0),w 2 (.ab (.c U2 0))])) (.seq (.seq (.out [1,3] (.aa [1] [w 6 (.fieldAddr aC [.l] 1),w 7 (.load .str 6),w 8 (.call 116 [7]),w 3 (.ab 8)])) (.seq (.out [1,3,10] (.aa [1,3] [m 9 3,w 10 (.bin .neq 9 (.c U2 0))])) (.out [1,2] (.cond (.t 10) (.seq (.out [2] (.aa [3] [m 11 3,w 2 (.ab 11)])) .ret) .skip)))) (.seq (.seq (.out [1,15] (.aa [1] [w 12 (.fieldAddr aC [.r,.l] 1),w 13 (.load bt 12),w 14 (.aX 13),w 15 (.bin .eql 14 (.c U2 0))])) (.out [1,2] (.cond (.t 15) (.seq (.out [2] (.aa [] [w 2 (.ab (.c U2 7))])) .ret) .skip))) (.seq (.seq (.out [1,19] (.aa [1] [w 16 (.fieldAddr aC [.r,.l] 1),w 17 (.load bt 16),w 18 (.aX 17),w 19 (.bin .gtr 18 (.c U2 2))])) (.out [1,2] (.cond (.t 19) (.seq (.out [2] (.aa [] [w 2 (.ab (.c U2 3))])) .ret) .skip))) Bu))))
def Hp:AC:=Bv
def d91:FD:={nargs:=1,body:=Hp,res:=[.t 2]}
def Qp:AC:=(.seq (.out [0,1] (.aa [0,1] [w 4 (.ab (.c U2 0))])) (.seq (.seq (.out [0,1,7] (.aa [0,1] [m 5 0,m 6 1,w 7 (.bin .lss 5 6)])) (.out [0,1,4] (.cond (.t 7) (.seq (.out [4] (.aa [] [w 4 (.ab (.c U2 (-1)))])) .ret) .skip))) (.seq (.seq (.out [10] (.aa [0,1] [m 8 0,m 9 1,w 10 (.bin .gtr 8 9)])) (.out [4] (.cond (.t 10) (.seq (.out [4] (.aa [] [w 4 (.ab (.c U2 1))])) .ret) .skip))) (.seq (.out [4] (.aa [] [w 4 (.ab (.c U2 0))])) .ret))))
def Hm:AC:=Qp
def d86:FD:={nargs:=2,body:=Hm,res:=[.t 4]}
def PD:AC:=(.seq (.out [2,3] (.aa [0,1] [w 2 (.box aD 0),w 3 (.box aD 1),w 4 (.ab (.c U2 0))])) (.seq (.seq (.out [2,3,5] (.aa [2,3] [w 7 (.fieldAddr aD [.l] 2),w 8 (.load U2 7),w 9 (.fieldAddr aD [.l] 3),w 10 (.load U2 9),w 11 (.call 86 [8,10]),w 5 (.ab 11)])) (.seq (.out [2,3,5,13] (.aa [2,3,5] [m 12 5,w 13 (.bin .neq 12 (.c U2 0))])) (.out [2,3,4] (.cond (.t 13) (.seq (.out [4] (.aa [5] [m 14 5,w 4 (.ab 14)])) .ret) .skip)))) (.seq (.seq (.out [2,3,6] (.aa [2,3] [w 15 (.fieldAddr aD [.r,.l] 2),w 16 (.load U2 15),w 17 (.fieldAddr aD [.r,.l] 3),w 18 (.load U2 17),w 19 (.call 86 [16,18]),w 6 (.ab 19)])) (.seq (.out [2,3,6,21] (.aa [2,3,6] [m 20 6,w 21 (.bin .neq 20 (.c U2 0))])) (.out [2,3,4] (.cond (.t 21) (.seq (.out [4] (.aa [6] [m 22 6,w 4 (.ab 22)])) .ret) .skip)))) (.seq (.seq (.out [2,3,27] (.aa [2,3] [w 23 (.fieldAddr aD [.r,.r,.l] 2),w 24 (.load .str 23),w 25 (.fieldAddr aD [.r,.r,.l] 3),w 26 (.load .str 25),w 27 (.bin .lss 24 26)])) (.out [2,3,4] (.cond (.t 27) (.seq (.out [4] (.aa [] [w 4 (.ab (.c U2 (-1)))])) .ret) .skip))) (.seq (.seq (.out [32] (.aa [2,3] [w 28 (.fieldAddr aD [.r,.r,.l] 2),w 29 (.load .str 28),w 30 (.fieldAddr aD [.r,.r,.l] 3),w 31 (.load .str 30),w 32 (.bin .gtr 29 31)])) (.out [4] (.cond (.t 32) (.seq (.out [4] (.aa [] [w 4 (.ab (.c U2 1))])) .ret) .skip))) (.seq (.out [4] (.aa [] [w 4 (.ab (.c U2 0))])) .ret))))))
def GQ:AC:=PD
def d59:FD:={nargs:=2,body:=GQ,res:=[.t 4]}
def Ot:AC:=.out [0,1,5] (.aa [0,1] [w 5 (.ab (.c U2 0))])
def FW:AC:=(.seq (.seq (.out [0,1,5,14] (.aa [0,1,5] [m 11 5,m 12 0,w 13 (.aX 12),w 14 (.bin .lss 11 13)])) (.out [0,1,5] (.cond (.t 14) .skip (.exit 0)))) (.seq (.out [0,1,4,5] (.block 1 (.seq (.out [0,1,5,26] (.draw [0,1,5] [⟨m 17 0,[18,21,22,23,24],[17],[],false,[]⟩,⟨m 18 5,[17,21,22,23,24],[18],[],false,[]⟩,⟨w 19 (.indexAddr aD 17 18),[21,22,23,24],[19],[0,1],false,[]⟩,⟨w 20 (.load aD 19),[21,22,23,24],[20],[0,1,2],false,[]⟩,⟨m 21 1,[17,18,19,20,22],[21],[],false,[]⟩,⟨m 22 5,[17,18,19,20,21],[22],[],false,[]⟩,⟨w 23 (.indexAddr aD 21 22),[17,18,19,20],[23],[4,5],false,[]⟩,⟨w 24 (.load aD 23),[17,18,19,20],[24],[4,5,6],false,[]⟩,⟨w 25 (.call 59 [20,24]),[],[25],[0,1,2,3,4,5,6,7],false,[]⟩,⟨w 26 (.bin .neq 25 (.c U2 0)),[],[26],[0,1,2,3,4,5,6,7,8],false,[]⟩])) (.out [0,1,4,5] (.cond (.t 26) (.seq (.out [4] (.aa [] [w 4 (.ab (.c .bool false))])) .ret) .skip))))) (.out [0,1,5] (.aa [0,1,5] [m 15 5,w 16 (.bin .add 15 (.c U2 1)),w 5 (.ab 16)]))))
def FX:AC:=.out [4] (.loop [0,1,5] FW)
def Ou:AC:=.out [4] (.block 0 FX)
def Ov:AC:=(.seq Ot Ou)
def Ow:AC:=(.seq (.out [4] (.aa [] [w 4 (.ab (.c .bool true))])) .ret)
def AV:AC:=(.seq Ov Ow)
def AW:AC:=(.seq (.out [0,1] (.aa [0,1] [w 4 (.ab (.c .bool false))])) (.seq (.seq (.out [0,1,10] (.aa [0,1] [m 6 0,w 7 (.aX 6),m 8 1,w 9 (.aX 8),w 10 (.bin .neq 7 9)])) (.out [0,1,4] (.cond (.t 10) (.seq (.out [4] (.aa [] [w 4 (.ab (.c .bool false))])) .ret) .skip))) AV))
def FV:AC:=AW
def d28:FD:={nargs:=2,body:=FV,res:=[.t 4]}
def PQ:AC:=.out [1,4] (.aa [1] [w 4 (.ab (.c U2 0))])
def GZ:AC:=(.seq (.seq (.out [1,4,6,40] (.aa [1,4,6] [m 38 6,m 39 4,w 40 (.bin .lss 38 39)])) (.out [1,4,6] (.cond (.t 40) .skip (.exit 2)))) (.seq (.out [1,2,3,4,6] (.block 3 (.seq (.out [1,4,6,7,8] (.draw [1,4,6] [⟨w 43 (.fieldAddr ak [.r,.l] 1),[7,8,45,48,49,50,51,52],[43],[],false,[]⟩,⟨w 44 (.load bW 43),[7,8,45,48,49,50,51,52],[44],[0],false,[]⟩,⟨m 45 4,[7,8,43,44,48,49,50,51,52],[45],[],false,[]⟩,⟨w 46 (.indexAddr aC 44 45),[7,8,48,49,50,51,52],[46],[0,1,2],false,[]⟩,⟨w 47 (.load aC 46),[7,8,48,49,50,51,52],[47],[0,1,2,3],false,[]⟩,⟨w 48 (.fieldAddr ak [.r,.l] 1),[7,8,43,44,45,46,47,50],[48],[],false,[]⟩,⟨w 49 (.load bW 48),[7,8,43,44,45,46,47,50],[49],[5],false,[]⟩,⟨m 50 6,[7,8,43,44,45,46,47,48,49],[50],[],false,[]⟩,⟨w 51 (.indexAddr aC 49 50),[7,8,43,44,45,46,47],[51],[5,6,7],false,[]⟩,⟨w 52 (.load aC 51),[7,8,43,44,45,46,47],[52],[5,6,7,8],false,[]⟩,⟨w 7 (.alloc aC .no),[8,43,44,45,46,47,48,49,50,51,52],[7],[],false,[]⟩,⟨w 8 (.alloc aC (.pair .no (.pair (.own true 40 .no) (.pair .no (.pair .no .no))))),[7,43,44,45,46,47,48,49,50,51,52],[8],[],false,[]⟩,⟨⟨none,.store aC 7 47,none⟩,[48,49,50,51,52],[7],[0,1,2,3,4,10,11],false,[]⟩,⟨⟨none,.store aC 8 52,none⟩,[],[8],[0,1,2,3,4,5,6,7,8,9,10,11,12],true,[]⟩])) (.seq (.out [1,4,6,71] (.aa [1,4,6,7,8] [w 53 (.fieldAddr aC [.l] 7),w 54 (.load .str 53),w 55 (.fieldAddr aC [.l] 8),w 56 (.load .str 55),w 57 (.bin .eql 54 56),m 58 57,⟨some 59,.fieldAddr aC [.r,.r,.r,.l] 7,some (58,true)⟩,⟨some 60,.load U2 59,some (58,true)⟩,⟨some 61,.fieldAddr aC [.r,.r,.r,.l] 8,some (58,true)⟩,⟨some 62,.load U2 61,some (58,true)⟩,⟨some 63,.bin .eql 60 62,some (58,true)⟩,w 64 (.pick 58 63 (.c .bool false)),m 65 64,⟨some 66,.fieldAddr aC [.r,.l] 7,some (65,true)⟩,⟨some 67,.load bt 66,some (65,true)⟩,⟨some 68,.fieldAddr aC [.r,.l] 8,some (65,true)⟩,⟨some 69,.load bt 68,some (65,true)⟩,⟨some 70,.call 28 [67,69],some (65,true)⟩,w 71 (.pick 65 70 (.c .bool false))])) (.out [1,2,3,4,6] (.cond (.t 71) (.seq (.out [2,3] (.aa [4] [m 72 4,w 2 (.ab 72),w 3 (.ab (.c U2 5))])) .ret) .skip)))))) (.out [1,4,6] (.aa [1,4,6] [m 41 6,w 42 (.bin .add 41 (.c U2 1)),w 6 (.ab 42)]))))
def G3:AC:=.out [1,2,3,4] (.loop [1,4,6] GZ)
def Bl:AC:=.out [1,2,3,4] (.block 2 G3)
def G4:AC:=(.seq (.seq (.out [1,4,5] (.aa [1,4] [w 28 (.fieldAddr ak [.r,.l] 1),w 29 (.load bW 28),m 30 4,w 31 (.indexAddr aC 29 30),w 32 (.load aC 31),w 33 (.call 91 [32]),w 5 (.ab 33)])) (.seq (.out [1,4,5,35] (.aa [1,4,5] [m 34 5,w 35 (.bin .neq 34 (.c U2 0))])) (.out [1,2,3,4] (.cond (.t 35) (.seq (.out [2,3] (.aa [4,5] [m 36 4,m 37 5,w 2 (.ab 36),w 3 (.ab 37)])) .ret) .skip)))) (.seq (.out [1,4,6] (.aa [1,4] [w 6 (.ab (.c U2 0))])) Bl))
def PU:AC:=.out [1,2,3,4] (.block 1 G4)
def PV:AC:=.out [1,4] (.aa [1,4] [m 26 4,w 27 (.bin .add 26 (.c U2 1)),w 4 (.ab 27)])
def Bm:AC:=(.seq PU PV)
def uM:AC:=(.seq (.seq (.out [1,4,25] (.aa [1,4] [m 21 4,w 22 (.fieldAddr ak [.r,.l] 1),w 23 (.load bW 22),w 24 (.aX 23),w 25 (.bin .lss 21 24)])) (.out [1,4] (.cond (.t 25) .skip (.exit 0)))) Bm)
def G5:AC:=.out [2,3] (.loop [1,4] uM)
def PR:AC:=.out [2,3] (.block 0 G5)
def PS:AC:=(.seq PQ PR)
def PT:AC:=(.seq (.out [2,3] (.aa [] [w 2 (.ab (.c U2 (-1))),w 3 (.ab (.c U2 0))])) .ret)
def Bj:AC:=(.seq PS PT)
def Bk:AC:=(.seq (.out [1] (.aa [0] [w 1 (.box ak 0),w 2 (.ab (.c U2 0)),w 3 (.ab (.c U2 0))])) (.seq (.seq (.out [1,12] (.aa [1] [w 9 (.fieldAddr ak [.l] 1),w 10 (.load .str 9),w 11 (.call 90 [10]),w 12 (.un .not 11)])) (.out [1,2,3] (.cond (.t 12) (.seq (.out [2,3] (.aa [] [w 2 (.ab (.c U2 (-1))),w 3 (.ab (.c U2 2))])) .ret) .skip))) (.seq (.seq (.out [1,16] (.aa [1] [w 13 (.fieldAddr ak [.r,.l] 1),w 14 (.load bW 13),w 15 (.aX 14),w 16 (.bin .eql 15 (.c U2 0))])) (.out [1,2,3] (.cond (.t 16) (.seq (.out [2,3] (.aa [] [w 2 (.ab (.c U2 (-1))),w 3 (.ab (.c U2 7))])) .ret) .skip))) (.seq (.seq (.out [1,20] (.aa [1] [w 17 (.fieldAddr ak [.r,.l] 1),w 18 (.load bW 17),w 19 (.aX 18),w 20 (.bin .gtr 19 (.c U2 120))])) (.out [1,2,3] (.cond (.t 20) (.seq (.out [2,3] (.aa [] [w 2 (.ab (.c U2 (-1))),w 3 (.ab (.c U2 3))])) .ret) .skip))) Bj))))
def GY:AC:=Bk
def d67:FD:={nargs:=1,body:=GY,res:=[.t 2,.t 3]}
def PW:AC:=.out [0,2,5,6,7] (.aa [0,2,5,6] [w 7 (.ab (.c U2 0))])
def PX:AC:=(.seq (.out [0,2,5,6,7,28] (.aa [0,2,5,6,7] [m 25 7,m 26 5,w 27 (.aX 26),w 28 (.bin .lss 25 27)])) (.out [0,2,5,6,7] (.cond (.t 28) .skip (.exit 0))))
def P1:AC:=.out [0,2,5,6,7,8] (.aa [0,2,5,6,7] [m 31 7,m 32 5,w 33 (.aX 32),w 34 (.bin .sub 33 (.c U2 1)),w 35 (.bin .eql 31 34),m 36 35,⟨some 37,.mv 0,some (36,true)⟩,⟨some 38,.mv 0,some (36,true)⟩,⟨some 39,.bQ 38,some (36,true)⟩,⟨some 40,.bin .sub 39 (.c U2 1),some (36,true)⟩,⟨some 41,.dV 37 40,some (36,true)⟩,⟨some 42,.bin .neq 41 (.c U0 10),some (36,true)⟩,w 43 (.pick 36 42 (.c .bool false)),w 8 (.ab 43)])
def P2:AC:=(.seq (.out [0,2,5,6,7,8,9] (.aa [0,2,5,6,7,8] [m 44 5,m 45 7,w 46 (.indexAddr .str 44 45),w 47 (.load .str 46),w 48 (.call 93 [47]),w 9 (.ab 48)])) (.seq (.out [0,2,5,6,7,8,9,10,11] (.aa [0,2,5,6,7,8,9] [m 50 5,m 51 7,w 52 (.indexAddr .str 50 51),w 53 (.load .str 52),w 54 (.call 94 [53]),m 49 54,w 55 (.extract 49 0),w 56 (.extract 49 1),w 10 (.alloc aC (.pair .no (.pair (.own true 40 .no) (.pair .no (.pair .no .no))))),⟨none,.store aC 10 55,none⟩,w 11 (.ab 56)])) (.seq (.seq (.out [0,2,5,6,7,8,9,10,11,58] (.aa [0,2,5,6,7,8,9,10,11] [m 57 7,w 58 (.bin .eql 57 (.c U2 0))])) (.out [0,2,5,6,7,8,9,10,11] (.cond (.t 58) (.out [0,2,5,6,7,8,9,10,11] (.aa [0,2,5,6,7,8,9,10] [m 59 9,w 60 (.aX 59),w 61 (.bin .eql 60 (.c U2 2)),m 62 61,⟨some 63,.mv 9,some (62,true)⟩,⟨some 64,.indexAddr .str 63 (.c U2 0),some (62,true)⟩,⟨some 65,.load .str 64,some (62,true)⟩,⟨some 66,.bin .eql 65 (.c .str [111,114,116,104,111,103,114,97,112,104,121]),some (62,true)⟩,w 67 (.pick 62 66 (.c .bool false)),w 11 (.ab 67)])) .skip))) (.seq (.seq (.out [0,2,5,6,7,9,10,72] (.aa [0,2,5,6,7,8,9,10,11] [m 68 8,m 69 68,⟨some 70,.mv 11,some (69,false)⟩,⟨some 71,.un .not 70,some (69,false)⟩,w 72 (.pick 69 (.c .bool true) 71)])) (.out [0,2,3,4,5,6,7,9,10] (.cond (.t 72) (.seq (.out [2,3,4] (.aa [2,7] [w 73 (.kh ak (.pair .no (.pair (.own true 43 .no) .no)) []),m 74 7,w 75 (.bin .add 74 (.c U2 1)),⟨none,.store ak 2 73,none⟩,w 3 (.ab 75),w 4 (.ab (.c U2 2))])) .ret) .skip))) (.seq (.out [0,2,5,6,7,9,10,77] (.aa [0,2,5,6,7,9,10] [m 76 7,w 77 (.bin .eql 76 (.c U2 0))])) (.out [0,2,5,6,7] (.cond (.t 77) (.out [0,2,5,6,7] (.aa [0,2,5,6,7,9] [m 78 9,w 79 (.indexAddr .str 78 (.c U2 1)),w 80 (.load .str 79),w 81 (.fieldAddr ak [.l] 6),⟨none,.store .str 81 80,none⟩])) (.out [0,2,5,6,7] (.aa [0,2,5,6,7,10] [w 82 (.fieldAddr ak [.r,.l] 6),w 83 (.load bW 82),w 84 (.load aC 10),w 85 (.buildSlice 43 aC [84]),w 86 (.append 43 aC 2513169434916 83 85),w 87 (.fieldAddr ak [.r,.l] 6),⟨none,.store bW 87 86,none⟩])))))))))
def P3:AC:=(.seq P1 P2)
def P4:AC:=.out [0,2,3,4,5,6,7] (.block 1 P3)
def P5:AC:=.out [0,2,5,6,7] (.aa [0,2,5,6,7] [m 29 7,w 30 (.bin .add 29 (.c U2 1)),w 7 (.ab 30)])
def P6:AC:=(.seq P4 P5)
def Bp:AC:=(.seq PX P6)
def G7:AC:=.out [2,3,4,6] (.loop [0,2,5,6,7] Bp)
def PY:AC:=.out [2,3,4,6] (.block 0 G7)
def PZ:AC:=(.seq PW PY)
def P0:AC:=(.seq (.seq (.out [2,6,12,13] (.aa [2,6] [w 89 (.load ak 6),w 90 (.call 67 [89]),m 88 90,w 91 (.extract 88 0),w 92 (.extract 88 1),w 12 (.ab 91),w 13 (.ab 92)])) (.seq (.out [2,6,12,13,94] (.aa [2,6,12,13] [m 93 13,w 94 (.bin .neq 93 (.c U2 0))])) (.out [2,3,4,6] (.cond (.t 94) (.seq (.out [2,12,13,14] (.aa [2,12,13] [w 14 (.ab (.c U2 1))])) (.seq (.seq (.out [2,12,13,14,96] (.aa [2,12,13,14] [m 95 12,w 96 (.bin .geq 95 (.c U2 0))])) (.out [2,13,14] (.cond (.t 96) (.out [2,13,14] (.aa [2,12,13] [m 97 12,w 98 (.bin .add 97 (.c U2 2)),w 14 (.ab 98)])) .skip))) (.seq (.out [2,3,4] (.aa [2,13,14] [w 99 (.kh ak (.pair .no (.pair (.own true 43 .no) .no)) []),m 100 14,m 101 13,⟨none,.store ak 2 99,none⟩,w 3 (.ab 100),w 4 (.ab 101)])) .ret))) .skip)))) (.seq (.out [2,3,4] (.aa [2,6] [w 102 (.load ak 6),⟨none,.store ak 2 102,none⟩,w 3 (.ab (.c U2 0)),w 4 (.ab (.c U2 0))])) .ret))
def Bn:AC:=(.seq PZ P0)
def Bo:AC:=(.seq (.out [0,2] (.aa [0] [w 2 (.alloc ak (.pair .no (.pair (.own true 43 .no) .no))),w 3 (.ab (.c U2 0)),w 4 (.ab (.c U2 0))])) (.seq (.seq (.out [0,2,17] (.aa [0,2] [m 15 0,w 16 (.bQ 15),w 17 (.bin .gtr 16 (.c U2 20000))])) (.out [0,2,3,4] (.cond (.t 17) (.seq (.out [2,3,4] (.aa [2] [w 18 (.kh ak (.pair .no (.pair (.own true 43 .no) .no)) []),⟨none,.store ak 2 18,none⟩,w 3 (.ab (.c U2 0)),w 4 (.ab (.c U2 3))])) .ret) .skip))) (.seq (.out [0,2,5] (.aa [0,2] [m 19 0,w 20 (.call 92 [19]),w 5 (.ab 20)])) (.seq (.seq (.out [0,2,5,23] (.aa [0,2,5] [m 21 5,w 22 (.aX 21),w 23 (.bin .eql 22 (.c U2 0))])) (.out [0,2,3,4,5] (.cond (.t 23) (.seq (.out [2,3,4] (.aa [2] [w 24 (.kh ak (.pair .no (.pair (.own true 43 .no) .no)) []),⟨none,.store ak 2 24,none⟩,w 3 (.ab (.c U2 1)),w 4 (.ab (.c U2 2))])) .ret) .skip))) (.seq (.out [0,2,5,6] (.aa [0,2,5] [w 6 (.alloc ak (.pair .no (.pair (.own true 43 .no) .no)))])) Bn)))))
def G6:AC:=Bo
def d69:FD:={nargs:=1,body:=G6,res:=[.cell 2 ak,.t 3,.t 4]}
def O1:AC:=(.seq (.out [0] (.aa [] [w 0 (.alloc ak (.pair .no (.pair (.own true 43 .no) .no)))])) (.seq (.out [0,1] (.aa [0] [w 5 (.call 69 [(.c .str [111,114,116,104,111,103,114,97,112,104,121,32,108,97,116,105,110,10,97,32,97,47,118,51,32,49,32,97,110,121,119,104,101,114,101,10,101,32,101,47,118,51,32,49,32,97,110,121,119,104,101,114,101,10,105,32,105,47,118,51,32,49,32,97,110,121,119,104,101,114,101,10,111,32,111,47,118,51,32,49,32,97,110,121,119,104,101,114,101,10,117,32,117,47,118,51,32,49,32,97,110,121,119,104,101,114,101,10,121,32,121,47,118,51,32,49,32,97,110,121,119,104,101,114,101,10,97,95,32,97,95,47,118,50,32,49,32,97,110,121,119,104,101,114,101,10,101,95,32,101,95,47,118,50,32,49,32,97,110,121,119,104,101,114,101,10,105,95,32,105,95,47,118,50,32,49,32,97,110,121,119,104,101,114,101,10,111,95,32,111,95,47,118,50,32,49,32,97,110,121,119,104,101,114,101,10,117,95,32,117,95,47,118,50,32,49,32,97,110,121,119,104,101,114,101,10,121,95,32,121,95,47,118,50,32,49,32,97,110,121,119,104,101,114,101,10,97,94,32,97,94,47,118,49,32,49,32,97,110,121,119,104,101,114,101,10,101,94,32,101,94,47,118,49,32,49,32,97,110,121,119,104,101,114,101,10,105,94,32,105,94,47,118,49,32,49,32,97,110,121,119,104,101,114,101,10,111,94,32,111,94,47,118,49,32,49,32,97,110,121,119,104,101,114,101,10,117,94,32,117,94,47,118,49,32,49,32,97,110,121,119,104,101,114,101,10,121,94,32,121,94,47,118,49,32,49,32,97,110,121,119,104,101,114,101,10,97,101,32,97,101,47,100,50,32,49,32,97,110,121,119,104,101,114,101,10,97,117,32,97,117,47,100,50,32,49,32,97,110,121,119,104,101,114,101,10,111,101,32,111,101,47,100,50,32,49,32,97,110,121,119,104,101,114,101,10,101,117,32,101,117,47,100,50,32,51,32,97,110,121,119,104,101,114,101,10,105,32,105,47,103,32,48,32,115,116,97,114,116,10,105,32,105,47,103,32,105,47,103,32,48,32,98,101,116,119,101,101,110,10,117,32,117,47,103,32,48,32,115,116,97,114,116,10,117,32,117,47,103,32,48,32,98,101,116,119,101,101,110,10,106,32,106,47,103,32,48,32,97,110,121,119,104,101,114,101,10,118,32,118,47,103,32,48,32,97,110,121,119,104,101,114,101,10,113,117,32,113,117,47,109,32,48,32,98,101,102,111,114,101,10,103,117,32,103,117,47,109,32,50,32,98,101,102,111,114,101,10,115,117,32,115,47,115,32,117,47,103,32,51,32,98,101,102,111,114,101,10,98,32,98,47,109,32,48,32,97,110,121,119,104,101,114,101,10,99,32,99,47,109,32,48,32,97,110,121,119,104,101,114,101,10,100,32,100,47,109,32,48,32,97,110,121,119,104,101,114,101,10,102,32,102,47,109,32,48,32,97,110,121,119,104,101,114,101,10,103,32,103,47,109,32,48,32,97,110,121,119,104,101,114,101,10,107,32,107,47,109,32,48,32,97,110,121,119,104,101,114,101,10,112,32,112,47,109,32,48,32,97,110,121,119,104,101,114,101,10,116,32,116,47,109,32,48,32,97,110,121,119,104,101,114,101,10,108,32,108,47,108,32,48,32,97,110,121,119,104,101,114,101,10,114,32,114,47,108,32,48,32,97,110,121,119,104,101,114,101,10,109,32,109,47,110,32,48,32,97,110,121,119,104,101,114,101,10,110,32,110,47,110,32,48,32,97,110,121,119,104,101,114,101,10,115,32,115,47,115,32,48,32,97,110,121,119,104,101,114,101,10,120,32,120,47,120,32,48,32,97,110,121,119,104,101,114,101,10,122,32,122,47,120,32,48,32,97,110,121,119,104,101,114,101,10,104,32,104,47,98,32,48,32,97,110,121,119,104,101,114,101,10])]),m 4 5,w 6 (.extract 4 0),w 7 (.extract 4 1),w 8 (.extract 4 2),w 1 (.alloc ak (.pair .no (.pair (.own true 43 .no) .no))),⟨none,.store ak 1 6,none⟩,w 2 (.ab 7),w 3 (.ab 8)])) (.seq (.out [0] (.aa [0,1] [w 9 (.load ak 1),⟨none,.store ak 0 9,none⟩])) .ret)))
def Gh:AC:=O1
def d37:FD:={nargs:=0,body:=Gh,res:=[.cell 0 ak]}
def NB:AC:=(.seq (.out [0] (.aa [0] [w 2 (.ab (.c .bool false))])) (.seq (.out [2] (.aa [0] [m 3 0,w 4 (.bin .geq 3 (.c U0 97)),m 5 4,⟨some 6,.mv 0,some (5,true)⟩,⟨some 7,.bin .leq 6 (.c U0 122),some (5,true)⟩,w 8 (.pick 5 7 (.c .bool false)),w 2 (.ab 8)])) .ret))
def Fh:AC:=NB
def d149:FD:={nargs:=1,body:=Fh,res:=[.t 2]}
def NC:AC:=(.seq (.out [0] (.aa [0] [w 2 (.ab (.c .bool false))])) (.seq (.out [2] (.aa [0] [m 3 0,w 4 (.bin .geq 3 (.c U0 48)),m 5 4,⟨some 6,.mv 0,some (5,true)⟩,⟨some 7,.bin .leq 6 (.c U0 57),some (5,true)⟩,w 8 (.pick 5 7 (.c .bool false)),w 2 (.ab 8)])) .ret))
def Fj:AC:=NC
def d150:FD:={nargs:=1,body:=Fj,res:=[.t 2]}
def E7:AC:=(.seq (.seq (.out [0,3,16] (.aa [0,3] [m 13 3,m 14 0,w 15 (.bQ 14),w 16 (.bin .lss 13 15)])) (.out [0,3] (.cond (.t 16) .skip (.exit 0)))) (.out [0,2,3] (.block 1 (.seq (.out [0,3,4] (.aa [0,3] [m 17 0,m 18 3,w 19 (.dV 17 18),w 4 (.ab 19)])) (.out [0,2,3] (.block 2 (.seq (.out [0,3,4,21] (.aa [0,3,4] [m 22 4,w 23 (.call 149 [22]),m 24 23,⟨some 25,.mv 4,some (24,false)⟩,⟨some 26,.call 150 [25],some (24,false)⟩,w 27 (.pick 24 (.c .bool true) 26),w 21 (.ab 27)])) (.out [0,2,3] (.cond (.t 21) (.out [0,3] (.aa [0,3] [m 28 3,w 29 (.bin .add 28 (.c U2 1)),w 3 (.ab 29)])) (.seq (.out [0,3,30] (.aa [0,3,4] [m 31 4,w 32 (.bin .eql 31 (.c U0 45)),m 33 32,⟨some 34,.mv 3,some (33,true)⟩,⟨some 35,.bin .add 34 (.c U2 1),some (33,true)⟩,⟨some 36,.mv 0,some (33,true)⟩,⟨some 37,.bQ 36,some (33,true)⟩,⟨some 38,.bin .lss 35 37,some (33,true)⟩,w 39 (.pick 33 38 (.c .bool false)),m 40 39,⟨some 41,.mv 0,some (40,true)⟩,⟨some 42,.mv 3,some (40,true)⟩,⟨some 43,.bin .add 42 (.c U2 1),some (40,true)⟩,⟨some 44,.dV 41 43,some (40,true)⟩,⟨some 45,.call 149 [44],some (40,true)⟩,⟨some 46,.mv 45,some (40,true)⟩,⟨some 47,.mv 0,some (46,false)⟩,⟨some 48,.mv 3,some (46,false)⟩,⟨some 49,.bin .add 48 (.c U2 1),some (46,false)⟩,⟨some 50,.dV 47 49,some (46,false)⟩,⟨some 51,.call 150 [50],some (46,false)⟩,⟨some 52,.pick 46 (.c .bool true) 51,some (40,true)⟩,w 53 (.pick 40 52 (.c .bool false)),w 30 (.ab 53)])) (.out [0,2,3] (.cond (.t 30) (.out [0,3] (.aa [0,3] [m 54 3,w 55 (.bin .add 54 (.c U2 2)),w 3 (.ab 55)])) (.seq (.out [2] (.aa [3] [m 20 3,w 2 (.ab 20)])) .ret)))))))))))))
def E8:AC:=.out [2,3] (.loop [0,3] E7)
def Nq:AC:=.out [2,3] (.block 0 E8)
def Nr:AC:=(.seq (.out [2] (.aa [3] [m 56 3,w 2 (.ab 56)])) .ret)
def AD:AC:=(.seq Nq Nr)
def AE:AC:=(.seq (.out [0] (.aa [0] [w 2 (.ab (.c U2 0))])) (.seq (.seq (.out [0,12] (.aa [0] [m 5 0,w 6 (.bin .eql 5 (.c .str [])),m 7 6,⟨some 8,.mv 0,some (7,false)⟩,⟨some 9,.dV 8 (.c U2 0),some (7,false)⟩,⟨some 10,.call 149 [9],some (7,false)⟩,⟨some 11,.un .not 10,some (7,false)⟩,w 12 (.pick 7 (.c .bool true) 11)])) (.out [0,2] (.cond (.t 12) (.seq (.out [2] (.aa [] [w 2 (.ab (.c U2 0))])) .ret) .skip))) (.seq (.out [0,3] (.aa [0] [w 3 (.ab (.c U2 1))])) AD)))
def E6:AC:=AE
def d141:FD:={nargs:=1,body:=E6,res:=[.t 2]}
def MP:AC:=(.seq (.out [0] (.aa [0] [w 2 (.ab (.c .bool false))])) (.seq (.out [2] (.aa [0] [m 3 0,w 4 (.bin .neq 3 (.c .str [])),m 5 4,⟨some 6,.mv 0,some (5,true)⟩,⟨some 7,.bQ 6,some (5,true)⟩,⟨some 8,.bin .leq 7 (.c U2 20),some (5,true)⟩,w 9 (.pick 5 8 (.c .bool false)),m 10 9,⟨some 11,.mv 0,some (10,true)⟩,⟨some 12,.call 141 [11],some (10,true)⟩,⟨some 13,.mv 0,some (10,true)⟩,⟨some 14,.bQ 13,some (10,true)⟩,⟨some 15,.bin .eql 12 14,some (10,true)⟩,w 16 (.pick 10 15 (.c .bool false)),w 2 (.ab 16)])) .ret))
def EB:AC:=MP
def d121:FD:={nargs:=1,body:=EB,res:=[.t 2]}
def Qe:AC:=.out [3,8,9,10] (.aa [3] [m 8 3,w 9 (.aX 8),w 10 (.mv (.c U2 0))])
def He:AC:=(.seq (.out [3,8,9,10,11] (.aa [3,8,9,10] [w 11 (.bin .lss 10 9)])) (.seq (.out [3,8,9,10] (.cond (.t 11) .skip (.exit 0))) (.seq (.out [3,8,9,10] (.block 1 (.seq (.out [3,4,5,8,9,10] (.aa [3,8,9,10] [m 12 10,w 13 (.indexAddr U0 8 10),w 14 (.load U0 13),w 4 (.ab 12),w 5 (.ab 14)])) (.seq (.out [3,4,5,8,9,10,20] (.aa [3,4,5,8,9,10] [m 15 5,w 16 (.bin .geq 15 (.c U0 65)),m 17 16,⟨some 18,.mv 5,some (17,true)⟩,⟨some 19,.bin .leq 18 (.c U0 90),some (17,true)⟩,w 20 (.pick 17 19 (.c .bool false))])) (.out [3,8,9,10] (.cond (.t 20) (.out [3,8,9,10] (.aa [3,4,5,8,9,10] [m 21 3,m 22 4,m 23 5,w 24 (.bin .sub 23 (.c U0 65)),w 25 (.bin .add 24 (.c U0 97)),w 26 (.indexAddr U0 21 22),⟨none,.store U0 26 25,none⟩])) .skip)))))) (.out [3,8,9,10] (.aa [3,8,9,10] [w 27 (.bin .add 10 (.c U2 1)),m 10 27])))))
def Hf:AC:=.out [3] (.loop [3,8,9,10] He)
def Qf:AC:=.out [3] (.block 0 Hf)
def Qg:AC:=(.seq Qe Qf)
def Qh:AC:=(.seq (.out [2] (.aa [3] [m 28 3,w 29 (.toStr 28),w 2 (.ab 29)])) .ret)
def Bq:AC:=(.seq Qg Qh)
def Br:AC:=(.seq (.out [0] (.aa [0] [w 2 (.ab (.c .str []))])) (.seq (.out [3] (.aa [0] [m 6 0,w 7 (.qW 6),w 3 (.ab 7)])) Bq))
def Hd:AC:=Br
def d72:FD:={nargs:=1,body:=Hd,res:=[.t 2]}
def NM:AC:=.out [9,10,11] (.aa [0] [m 8 0,w 9 (.qW 8),w 10 (.aX 9),w 11 (.mv (.c U2 0))])
def Fu:AC:=(.seq (.out [9,10,11,12] (.aa [9,10,11] [w 12 (.bin .lss 11 10)])) (.seq (.out [9,10,11] (.cond (.t 12) .skip (.exit 0))) (.seq (.out [2,9,10,11] (.block 1 (.seq (.out [4,9,10,11] (.aa [9,10,11] [w 13 (.indexAddr U0 9 11),w 14 (.load U0 13),w 4 (.ab 14)])) (.seq (.out [9,10,11,20] (.aa [4,9,10,11] [m 15 4,w 16 (.bin .lss 15 (.c U0 32)),m 17 16,⟨some 18,.mv 4,some (17,false)⟩,⟨some 19,.bin .gtr 18 (.c U0 126),some (17,false)⟩,w 20 (.pick 17 (.c .bool true) 19)])) (.out [2,9,10,11] (.cond (.t 20) (.seq (.out [2] (.aa [] [w 2 (.ab (.c U2 2))])) .ret) .skip)))))) (.out [9,10,11] (.aa [9,10,11] [w 21 (.bin .add 11 (.c U2 1)),m 11 21])))))
def Fv:AC:=.out [2] (.loop [9,10,11] Fu)
def NN:AC:=.out [2] (.block 0 Fv)
def NO:AC:=(.seq NM NN)
def NP:AC:=(.seq (.out [2] (.aa [] [w 2 (.ab (.c U2 0))])) .ret)
def AH:AC:=(.seq NO NP)
def AJ:AC:=(.seq (.out [0] (.aa [0] [w 2 (.ab (.c U2 0))])) (.seq (.seq (.out [0,7] (.aa [0] [m 5 0,w 6 (.bQ 5),w 7 (.bin .gtr 6 (.c U2 120))])) (.out [0,2] (.cond (.t 7) (.seq (.out [2] (.aa [] [w 2 (.ab (.c U2 3))])) .ret) .skip))) AH))
def Ft:AC:=AJ
def d158:FD:={nargs:=1,body:=Ft,res:=[.t 2]}
def M7:AC:=(.seq (.out [0,1] (.aa [0,1] [w 4 (.ab (.c U2 0))])) (.seq (.out [4] (.aa [0,1] [m 5 0,m 6 1,w 7 (.call 145 [5,6]),w 4 (.ab 7)])) .ret))
def EO:AC:=M7
def d127:FD:={nargs:=2,body:=EO,res:=[.t 4]}
def QR:AC:=(.seq (.out [0] (.aa [0] [w 2 (.ab (.c .bool false))])) (.seq (.out [2] (.aa [0] [m 3 0,w 4 (.bin .geq 3 (.c U0 32)),m 5 4,⟨some 6,.mv 0,some (5,true)⟩,⟨some 7,.bin .leq 6 (.c U0 126),some (5,true)⟩,w 8 (.pick 5 7 (.c .bool false)),m 9 8,⟨some 10,.mv 0,some (9,true)⟩,⟨some 11,.call 127 [(.c .str [32,46,44,59,58,33,63,34,45,91,93,60,62,123,125]),10],some (9,true)⟩,⟨some 12,.bin .lss 11 (.c U2 0),some (9,true)⟩,w 13 (.pick 9 12 (.c .bool false)),w 2 (.ab 13)])) .ret))
def HJ:AC:=QR
def d98:FD:={nargs:=1,body:=HJ,res:=[.t 2]}
def ND:AC:=.out [5,15,16,17] (.aa [0,5] [m 14 0,w 15 (.qW 14),w 16 (.aX 15),w 17 (.mv (.c U2 0))])
def Fl:AC:=(.seq (.out [5,15,16,17,18] (.aa [5,15,16,17] [w 18 (.bin .lss 17 16)])) (.seq (.out [5,15,16,17] (.cond (.t 18) .skip (.exit 0))) (.seq (.out [5,15,16,17] (.block 1 (.seq (.out [5,6,7,15,16,17] (.aa [5,15,16,17] [m 19 17,w 20 (.indexAddr U0 15 17),w 21 (.load U0 20),w 6 (.ab 19),w 7 (.ab 21)])) (.seq (.out [5,6,7,8,15,16,17] (.aa [5,6,7,15,16,17] [m 22 5,w 23 (.aX 22),w 8 (.ab 23)])) (.out [5,15,16,17] (.block 2 (.seq (.out [5,6,8,15,16,17,31] (.aa [5,6,7,8,15,16,17] [m 32 7,w 33 (.call 98 [32]),w 34 (.un .not 33),w 31 (.ab 34)])) (.out [5,15,16,17] (.cond (.t 31) .skip (.seq (.out [5,6,8,15,16,17,35] (.aa [5,6,8,15,16,17] [m 36 8,w 37 (.bin .gtr 36 (.c U2 0)),m 38 37,⟨some 39,.mv 5,some (38,true)⟩,⟨some 40,.mv 8,some (38,true)⟩,⟨some 41,.bin .sub 40 (.c U2 1),some (38,true)⟩,⟨some 42,.indexAddr ef 39 41,some (38,true)⟩,⟨some 43,.fieldAddr ef [.r,.l] 42,some (38,true)⟩,⟨some 44,.load U2 43,some (38,true)⟩,⟨some 45,.mv 6,some (38,true)⟩,⟨some 46,.bin .eql 44 45,some (38,true)⟩,w 47 (.pick 38 46 (.c .bool false)),w 35 (.ab 47)])) (.out [5,15,16,17] (.cond (.t 35) (.out [5,15,16,17] (.aa [5,8,15,16,17] [m 48 5,m 49 8,w 50 (.bin .sub 49 (.c U2 1)),w 51 (.indexAddr ef 48 50),w 52 (.fieldAddr ef [.r,.l] 51),w 53 (.load U2 52),w 54 (.bin .add 53 (.c U2 1)),w 55 (.indexAddr ef 48 50),w 56 (.fieldAddr ef [.r,.l] 55),⟨none,.store U2 56 54,none⟩])) (.out [5,15,16,17] (.aa [5,6,15,16,17] [m 24 5,m 25 6,m 26 6,w 27 (.bin .add 26 (.c U2 1)),w 28 (.build ef [([.l],25),([.r,.l],27)]),w 29 (.buildSlice 179 ef [28]),w 30 (.append 179 ef 8796093022208 24 29),w 5 (.ab 30)])))))))))))))) (.out [5,15,16,17] (.aa [5,15,16,17] [w 57 (.bin .add 17 (.c U2 1)),m 17 57])))))
def Fm:AC:=.out [5] (.loop [5,15,16,17] Fl)
def NF:AC:=.out [5] (.block 0 Fm)
def NG:AC:=(.seq ND NF)
def NH:AC:=(.seq (.out [2,3,5] (.aa [5] [m 58 5,w 2 (.ab 58),w 3 (.ab (.c U2 0))])) .ret)
def AF:AC:=(.seq NG NH)
def AG:AC:=(.seq (.out [0] (.aa [0] [w 2 (.ab (.nil 179 ef)),w 3 (.ab (.c U2 0))])) (.seq (.seq (.out [0,4] (.aa [0] [m 9 0,w 10 (.call 158 [9]),w 4 (.ab 10)])) (.seq (.out [0,4,12] (.aa [0,4] [m 11 4,w 12 (.bin .neq 11 (.c U2 0))])) (.out [0,2,3] (.cond (.t 12) (.seq (.out [2,3] (.aa [4] [m 13 4,w 2 (.ab (.nil 179 ef)),w 3 (.ab 13)])) .ret) .skip)))) (.seq (.out [0,5] (.aa [0] [w 5 (.ab (.nil 179 ef))])) AF)))
def Fk:AC:=AG
def d151:FD:={nargs:=1,body:=Fk,res:=[.t 2,.t 3]}
def Ns:AC:=(.seq (.out [0] (.aa [0] [w 2 (.ab (.c U2 0))])) (.seq (.out [0,2] (.block 0 (.seq (.out [0,5] (.aa [0] [m 6 0,w 7 (.bin .eql 6 (.c .str [])),w 5 (.ab 7)])) (.out [0,2] (.cond (.t 5) (.seq (.out [2] (.aa [] [w 2 (.ab (.c U2 7))])) .ret) (.seq (.out [0,8] (.aa [0] [m 9 0,w 10 (.bQ 9),w 11 (.bin .gtr 10 (.c U2 4)),w 8 (.ab 11)])) (.out [0,2] (.cond (.t 8) (.seq (.out [2] (.aa [] [w 2 (.ab (.c U2 3))])) .ret) (.seq (.out [0,12] (.aa [0] [m 13 0,w 14 (.call 72 [13]),m 15 0,w 16 (.bin .neq 14 15),w 12 (.ab 16)])) (.out [0,2] (.cond (.t 12) (.seq (.out [2] (.aa [] [w 2 (.ab (.c U2 2))])) .ret) .skip))))))))))) (.seq (.out [0,3,4] (.aa [0] [m 18 0,w 19 (.call 151 [18]),m 17 19,w 20 (.extract 17 0),w 21 (.extract 17 1),w 3 (.ab 20),w 4 (.ab 21)])) (.seq (.seq (.out [42] (.draw [0,3,4] [⟨m 22 4,[],[22],[],false,[]⟩,⟨w 23 (.bin .neq 22 (.c U2 0)),[],[23],[0],false,[]⟩,⟨m 24 23,[],[24],[0,1],false,[]⟩,⟨⟨some 25,.mv 3,some (24,false)⟩,[],[25],[0,1,2],false,[]⟩,⟨⟨some 26,.aX 25,some (24,false)⟩,[],[26],[0,1,2,3],false,[]⟩,⟨⟨some 27,.bin .neq 26 (.c U2 1),some (24,false)⟩,[],[27],[0,1,2,3,4],false,[]⟩,⟨w 28 (.pick 24 (.c .bool true) 27),[],[28],[0,1,2,3,4,5],false,[]⟩,⟨m 29 28,[],[29],[0,1,2,3,4,5,6],false,[]⟩,⟨⟨some 30,.mv 3,some (29,false)⟩,[34,35,36,37,39,40],[30],[0,1,2,3,4,5,6,7],false,[]⟩,⟨⟨some 31,.indexAddr ef 30 (.c U2 0),some (29,false)⟩,[34,35,36,37,39,40],[31],[0,1,2,3,4,5,6,7,8],false,[]⟩,⟨⟨some 32,.fieldAddr ef [.r,.l] 31,some (29,false)⟩,[34,35,36,37,39,40],[32],[0,1,2,3,4,5,6,7,8,9],false,[]⟩,⟨⟨some 33,.load U2 32,some (29,false)⟩,[34,35,36,37,39,40],[33],[0,1,2,3,4,5,6,7,8,9,10],false,[]⟩,⟨⟨some 34,.mv 3,some (29,false)⟩,[30,31,32,33,39,40],[34],[0,1,2,3,4,5,6,7],false,[]⟩,⟨⟨some 35,.indexAddr ef 34 (.c U2 0),some (29,false)⟩,[30,31,32,33,39,40],[35],[0,1,2,3,4,5,6,7,12],false,[]⟩,⟨⟨some 36,.fieldAddr ef [.l] 35,some (29,false)⟩,[30,31,32,33,39,40],[36],[0,1,2,3,4,5,6,7,12,13],false,[]⟩,⟨⟨some 37,.load U2 36,some (29,false)⟩,[30,31,32,33,39,40],[37],[0,1,2,3,4,5,6,7,12,13,14],false,[]⟩,⟨⟨some 38,.bin .sub 33 37,some (29,false)⟩,[39,40],[38],[0,1,2,3,4,5,6,7,8,9,10,11,12,13,14,15],false,[]⟩,⟨⟨some 39,.mv 0,some (29,false)⟩,[30,31,32,33,34,35,36,37,38],[39],[0,1,2,3,4,5,6,7],false,[]⟩,⟨⟨some 40,.bQ 39,some (29,false)⟩,[30,31,32,33,34,35,36,37,38],[40],[0,1,2,3,4,5,6,7,17],false,[]⟩,⟨⟨some 41,.bin .neq 38 40,some (29,false)⟩,[],[41],[0,1,2,3,4,5,6,7,8,9,10,11,12,13,14,15,16,17,18],false,[]⟩,⟨w 42 (.pick 29 (.c .bool true) 41),[],[42],[0,1,2,3,4,5,6,7,8,9,10,11,12,13,14,15,16,17,18,19],false,[]⟩])) (.out [2] (.cond (.t 42) (.seq (.out [2] (.aa [] [w 2 (.ab (.c U2 2))])) .ret) .skip))) (.seq (.out [2] (.aa [] [w 2 (.ab (.c U2 0))])) .ret)))))
def E9:AC:=Ns
def d142:FD:={nargs:=1,body:=E9,res:=[.t 2]}
def NI:AC:=(.seq (.out [1] (.aa [0] [w 1 (.box aD 0),w 2 (.ab (.c .bool false))])) (.seq (.seq (.out [1,4] (.aa [1] [w 3 (.fieldAddr aD [.l] 1),w 4 (.load U2 3)])) (.out [1,2] (.block 0 (.seq (.out [1,4,5] (.aa [1,4] [w 6 (.bin .eql 4 (.c U2 1)),w 5 (.ab 6)])) (.out [1,2] (.cond (.t 5) (.seq (.out [2] (.aa [1] [w 7 (.fieldAddr aD [.r,.l] 1),w 8 (.load U2 7),w 9 (.bin .geq 8 (.c U2 1)),m 10 9,⟨some 11,.fieldAddr aD [.r,.l] 1,some (10,true)⟩,⟨some 12,.load U2 11,some (10,true)⟩,⟨some 13,.bin .leq 12 (.c U2 3),some (10,true)⟩,w 14 (.pick 10 13 (.c .bool false)),w 2 (.ab 14)])) .ret) (.seq (.out [1,15] (.aa [1,4] [w 16 (.bin .eql 4 (.c U2 2)),w 15 (.ab 16)])) (.out [1,2] (.cond (.t 15) (.seq (.out [2] (.aa [1] [w 17 (.fieldAddr aD [.r,.l] 1),w 18 (.load U2 17),w 19 (.bin .eql 18 (.c U2 2)),w 2 (.ab 19)])) .ret) .skip))))))))) (.seq (.out [2] (.aa [1] [w 20 (.fieldAddr aD [.r,.l] 1),w 21 (.load U2 20),w 22 (.bin .eql 21 (.c U2 0)),w 2 (.ab 22)])) .ret)))
def Fo:AC:=NI
def d152:FD:={nargs:=1,body:=Fo,res:=[.t 2]}
def NL:AC:=(.seq (.out [0] (.aa [0] [w 2 (.ab (.c .bool false))])) (.seq (.out [2] (.aa [0] [m 3 0,w 4 (.bin .geq 3 (.c U3 97)),m 5 4,⟨some 6,.mv 0,some (5,true)⟩,⟨some 7,.bin .leq 6 (.c U3 122),some (5,true)⟩,w 8 (.pick 5 7 (.c .bool false)),m 9 8,⟨some 10,.mv 0,some (9,false)⟩,⟨some 11,.bin .geq 10 (.c U3 48),some (9,false)⟩,⟨some 12,.mv 11,some (9,false)⟩,⟨some 13,.mv 0,some (12,true)⟩,⟨some 14,.bin .leq 13 (.c U3 57),some (12,true)⟩,⟨some 15,.pick 12 14 (.c .bool false),some (9,false)⟩,w 16 (.pick 9 (.c .bool true) 15),m 17 16,⟨some 18,.mv 0,some (17,false)⟩,⟨some 19,.bin .eql 18 (.c U3 95),some (17,false)⟩,w 20 (.pick 17 (.c .bool true) 19),m 21 20,⟨some 22,.mv 0,some (21,false)⟩,⟨some 23,.bin .eql 22 (.c U3 94),some (21,false)⟩,w 24 (.pick 21 (.c .bool true) 23),m 25 24,⟨some 26,.mv 0,some (25,false)⟩,⟨some 27,.bin .eql 26 (.c U3 39),some (25,false)⟩,w 28 (.pick 25 (.c .bool true) 27),w 2 (.ab 28)])) .ret))
def Fs:AC:=NL
def d155:FD:={nargs:=1,body:=Fs,res:=[.t 2]}
def NK:AC:=(.seq (.out [0] (.aa [0] [w 2 (.ab (.c .bool false))])) (.seq (.out [2] (.aa [0] [m 3 0,w 4 (.call 155 [3]),w 5 (.un .not 4),w 2 (.ab 5)])) .ret))
def Fq:AC:=NK
def d154:FD:={nargs:=1,body:=Fq,res:=[.t 2]}
def NV:AC:=.out [0,1,2] (.aa [0,1,2] [w 6 (.ab (.c U2 0))])
def NW:AC:=.out [1,2,10] (.aa [0,1,2] [m 9 0,w 10 (.Dn 9)])
def FE:AC:=(.seq (.out [1,2,10,11,12] (.aa [1,2,10] [w 11 (.dY 10),w 12 (.extract 11 0)])) (.seq (.out [1,2,10,11] (.cond (.t 12) .skip (.exit 0))) (.out [1,2,6,10] (.block 1 (.seq (.out [1,2,7,8,10] (.aa [1,2,10,11] [w 13 (.extract 11 1),w 14 (.extract 11 2),w 7 (.ab 13),w 8 (.ab 14)])) (.seq (.out [1,2,7,10,19] (.aa [1,2,7,8,10] [m 15 1,m 16 8,w 17 (.nP 15 [16]),m 18 2,w 19 (.ni false .bool 17 18)])) (.out [1,2,6,10] (.cond (.t 19) (.seq (.out [6] (.aa [7] [m 20 7,w 6 (.ab 20)])) .ret) .skip))))))))
def FF:AC:=.out [6] (.loop [1,2,10] FE)
def NX:AC:=.out [6] (.block 0 FF)
def NY:AC:=(.seq NW NX)
def NZ:AC:=(.seq (.out [6] (.aa [] [w 6 (.ab (.c U2 (-1)))])) .ret)
def N0:AC:=(.seq NY NZ)
def FG:AC:=(.seq NV N0)
def FC:AC:=FG
def d160:FD:={nargs:=3,body:=FC,res:=[.t 6]}
def NQ:AC:=(.seq (.out [0,1] (.aa [0,1] [w 4 (.ab (.c U2 0))])) (.seq (.out [4] (.aa [0,1] [m 5 0,m 6 1,w 7 (.call 160 [5,6,(.c .bool true)]),w 4 (.ab 7)])) .ret))
def Fx:AC:=NQ
def d159:FD:={nargs:=2,body:=Fx,res:=[.t 4]}
def NJ:AC:=(.seq (.out [0,1] (.aa [0,1] [w 4 (.ab (.c .bool false))])) (.seq (.out [4] (.aa [0,1] [m 5 0,m 6 1,w 7 (.call 159 [5,6]),w 8 (.bin .geq 7 (.c U2 0)),w 4 (.ab 8)])) .ret))
def Fp:AC:=NJ
def d153:FD:={nargs:=2,body:=Fp,res:=[.t 4]}
def Nt:AC:=(.seq (.out [1] (.aa [0] [w 1 (.box aD 0),w 2 (.ab (.c U2 0))])) (.seq (.out [2] (.block 0 (.seq (.out [1,3] (.aa [1] [w 4 (.fieldAddr aD [.l] 1),w 5 (.load U2 4),w 6 (.bin .lss 5 (.c U2 1)),m 7 6,⟨some 8,.fieldAddr aD [.l] 1,some (7,false)⟩,⟨some 9,.load U2 8,some (7,false)⟩,⟨some 10,.bin .gtr 9 (.c U2 9),some (7,false)⟩,w 11 (.pick 7 (.c .bool true) 10),w 3 (.ab 11)])) (.out [2] (.cond (.t 3) (.seq (.out [2] (.aa [] [w 2 (.ab (.c U2 1))])) .ret) (.seq (.out [1,12] (.aa [1] [w 13 (.load aD 1),w 14 (.call 152 [13]),w 15 (.un .not 14),w 12 (.ab 15)])) (.out [2] (.cond (.t 12) (.seq (.out [2] (.aa [] [w 2 (.ab (.c U2 6))])) .ret) (.seq (.out [1,16] (.aa [1] [w 17 (.fieldAddr aD [.r,.r,.l] 1),w 18 (.load .str 17),w 19 (.bin .eql 18 (.c .str [])),w 16 (.ab 19)])) (.out [2] (.cond (.t 16) (.seq (.out [2] (.aa [] [w 2 (.ab (.c U2 7))])) .ret) (.seq (.out [1,20] (.aa [1] [w 21 (.fieldAddr aD [.r,.r,.l] 1),w 22 (.load .str 21),w 23 (.bQ 22),w 24 (.bin .gtr 23 (.c U2 8)),w 20 (.ab 24)])) (.out [2] (.cond (.t 20) (.seq (.out [2] (.aa [] [w 2 (.ab (.c U2 3))])) .ret) (.seq (.out [25] (.aa [1] [w 26 (.fieldAddr aD [.r,.r,.l] 1),w 27 (.load .str 26),w 28 (.call 153 [27,(.fn 154 L4 .bool)]),w 25 (.ab 28)])) (.out [2] (.cond (.t 25) (.seq (.out [2] (.aa [] [w 2 (.ab (.c U2 2))])) .ret) .skip))))))))))))))))) (.seq (.out [2] (.aa [] [w 2 (.ab (.c U2 0))])) .ret)))
def Fa:AC:=Nt
def d143:FD:={nargs:=1,body:=Fa,res:=[.t 2]}
def MQ:AC:=.out [1,22,23,24] (.aa [1] [w 21 (.fieldAddr aC [.r,.l] 1),w 22 (.load bt 21),w 23 (.aX 22),w 24 (.mv (.c U2 0))])
def ED:AC:=(.seq (.out [1,22,23,24,25] (.aa [1,22,23,24] [w 25 (.bin .lss 24 23)])) (.seq (.out [1,22,23,24] (.cond (.t 25) .skip (.exit 0))) (.seq (.out [1,2,22,23,24] (.block 1 (.seq (.out [1,5,22,23,24] (.aa [1,22,23,24] [w 26 (.indexAddr aD 22 24),w 27 (.load aD 26),w 5 (.alloc aD .no),⟨none,.store aD 5 27,none⟩])) (.seq (.out [1,6,22,23,24] (.aa [1,5,22,23,24] [w 28 (.load aD 5),w 29 (.call 143 [28]),w 6 (.ab 29)])) (.seq (.out [1,6,22,23,24,31] (.aa [1,6,22,23,24] [m 30 6,w 31 (.bin .neq 30 (.c U2 0))])) (.out [1,2,22,23,24] (.cond (.t 31) (.seq (.out [2] (.aa [6] [m 32 6,w 2 (.ab 32)])) .ret) .skip))))))) (.out [1,22,23,24] (.aa [1,22,23,24] [w 33 (.bin .add 24 (.c U2 1)),m 24 33])))))
def EE:AC:=.out [1,2] (.loop [1,22,23,24] ED)
def MR:AC:=.out [1,2] (.block 0 EE)
def MS:AC:=(.seq MQ MR)
def MT:AC:=(.seq (.seq (.out [51] (.aa [1] [w 34 (.fieldAddr aC [.r,.r,.l] 1),w 35 (.load U2 34),w 36 (.bin .lss 35 (.c U2 0)),m 37 36,⟨some 38,.fieldAddr aC [.r,.r,.l] 1,some (37,false)⟩,⟨some 39,.load U2 38,some (37,false)⟩,⟨some 40,.bin .gtr 39 (.c U2 99),some (37,false)⟩,w 41 (.pick 37 (.c .bool true) 40),m 42 41,⟨some 43,.fieldAddr aC [.r,.r,.r,.l] 1,some (42,false)⟩,⟨some 44,.load U2 43,some (42,false)⟩,⟨some 45,.bin .lss 44 (.c U2 0),some (42,false)⟩,w 46 (.pick 42 (.c .bool true) 45),m 47 46,⟨some 48,.fieldAddr aC [.r,.r,.r,.l] 1,some (47,false)⟩,⟨some 49,.load U2 48,some (47,false)⟩,⟨some 50,.bin .gtr 49 (.c U2 4),some (47,false)⟩,w 51 (.pick 47 (.c .bool true) 50)])) (.out [2] (.cond (.t 51) (.seq (.out [2] (.aa [] [w 2 (.ab (.c U2 6))])) .ret) .skip))) (.seq (.out [2] (.aa [] [w 2 (.ab (.c U2 0))])) .ret))
def Aq:AC:=(.seq MS MT)
def Ar:AC:=(.seq (.out [1] (.aa [0] [w 1 (.box aC 0),w 2 (.ab (.c U2 0))])) (.seq (.seq (.out [1,3] (.aa [1] [w 7 (.fieldAddr aC [.l] 1),w 8 (.load .str 7),w 9 (.call 142 [8]),w 3 (.ab 9)])) (.seq (.out [1,3,11] (.aa [1,3] [m 10 3,w 11 (.bin .neq 10 (.c U2 0))])) (.out [1,2] (.cond (.t 11) (.seq (.out [2] (.aa [3] [m 12 3,w 2 (.ab 12)])) .ret) .skip)))) (.seq (.seq (.out [1,16] (.aa [1] [w 13 (.fieldAddr aC [.r,.l] 1),w 14 (.load bt 13),w 15 (.aX 14),w 16 (.bin .eql 15 (.c U2 0))])) (.out [1,2] (.cond (.t 16) (.seq (.out [2] (.aa [] [w 2 (.ab (.c U2 7))])) .ret) .skip))) (.seq (.seq (.out [1,20] (.aa [1] [w 17 (.fieldAddr aC [.r,.l] 1),w 18 (.load bt 17),w 19 (.aX 18),w 20 (.bin .gtr 19 (.c U2 2))])) (.out [1,2] (.cond (.t 20) (.seq (.out [2] (.aa [] [w 2 (.ab (.c U2 3))])) .ret) .skip))) Aq))))
def EC:AC:=Ar
def d122:FD:={nargs:=1,body:=EC,res:=[.t 2]}
def MW:AC:=.out [0,1,12,13] (.aa [0,1] [m 11 0,w 12 (.aX 11),w 13 (.mv (.c U2 0))])
def EI:AC:=(.seq (.out [0,1,12,13,14] (.aa [0,1,12,13] [w 14 (.bin .lss 13 12)])) (.seq (.out [0,1,12,13] (.cond (.t 14) .skip (.exit 0))) (.seq (.out [0,1,4,12,13] (.block 1 (.seq (.out [0,1,5,12,13] (.aa [0,1,12,13] [m 15 13,w 5 (.ab 15)])) (.seq (.out [0,1,12,13,24] (.draw [0,1,5,12,13] [⟨m 16 0,[17,20,21,22,23],[16],[],false,[]⟩,⟨m 17 5,[16,20,21,22,23],[17],[],false,[]⟩,⟨w 18 (.indexAddr aD 16 17),[20,21,22,23],[18],[0,1],false,[]⟩,⟨w 19 (.load aD 18),[20,21,22,23],[19],[0,1,2],false,[]⟩,⟨m 20 1,[16,17,18,19,21],[20],[],false,[]⟩,⟨m 21 5,[16,17,18,19,20],[21],[],false,[]⟩,⟨w 22 (.indexAddr aD 20 21),[16,17,18,19],[22],[4,5],false,[]⟩,⟨w 23 (.load aD 22),[16,17,18,19],[23],[4,5,6],false,[]⟩,⟨w 24 (.ni true aD 19 23),[],[24],[0,1,2,3,4,5,6,7],false,[]⟩])) (.out [0,1,4,12,13] (.cond (.t 24) (.seq (.out [4] (.aa [] [w 4 (.ab (.c .bool false))])) .ret) .skip)))))) (.out [0,1,12,13] (.aa [0,1,12,13] [w 25 (.bin .add 13 (.c U2 1)),m 13 25])))))
def EJ:AC:=.out [4] (.loop [0,1,12,13] EI)
def MX:AC:=.out [4] (.block 0 EJ)
def MY:AC:=(.seq MW MX)
def MZ:AC:=(.seq (.out [4] (.aa [] [w 4 (.ab (.c .bool true))])) .ret)
def As:AC:=(.seq MY MZ)
def Au:AC:=(.seq (.out [0,1] (.aa [0,1] [w 4 (.ab (.c .bool false))])) (.seq (.seq (.out [0,1,10] (.aa [0,1] [m 6 0,w 7 (.aX 6),m 8 1,w 9 (.aX 8),w 10 (.bin .neq 7 9)])) (.out [0,1,4] (.cond (.t 10) (.seq (.out [4] (.aa [] [w 4 (.ab (.c .bool false))])) .ret) .skip))) As))
def EH:AC:=Au
def d125:FD:={nargs:=2,body:=EH,res:=[.t 4]}
def MV:AC:=(.seq (.out [1,2] (.aa [0,1] [w 2 (.box aC 0),w 3 (.ab (.c .bool false))])) (.seq (.out [3] (.aa [1,2] [w 4 (.fieldAddr aC [.l] 2),w 5 (.load .str 4),w 6 (.fieldAddr aC [.l] 1),w 7 (.load .str 6),w 8 (.bin .eql 5 7),m 9 8,⟨some 10,.fieldAddr aC [.r,.r,.r,.l] 2,some (9,true)⟩,⟨some 11,.load U2 10,some (9,true)⟩,⟨some 12,.fieldAddr aC [.r,.r,.r,.l] 1,some (9,true)⟩,⟨some 13,.load U2 12,some (9,true)⟩,⟨some 14,.bin .eql 11 13,some (9,true)⟩,w 15 (.pick 9 14 (.c .bool false)),m 16 15,⟨some 17,.fieldAddr aC [.r,.l] 2,some (16,true)⟩,⟨some 18,.load bt 17,some (16,true)⟩,⟨some 19,.fieldAddr aC [.r,.l] 1,some (16,true)⟩,⟨some 20,.load bt 19,some (16,true)⟩,⟨some 21,.call 125 [18,20],some (16,true)⟩,w 22 (.pick 16 21 (.c .bool false)),w 3 (.ab 22)])) .ret))
def EG:AC:=MV
def d124:FD:={nargs:=2,body:=EG,res:=[.t 3]}
def Nu:AC:=.out [0,1] (.aa [0,1] [w 4 (.ab (.c U2 0))])
def Nv:AC:=.out [0,1,7,8] (.aa [0,1] [m 6 0,w 7 (.aX 6),w 8 (.mv (.c U2 0))])
def Fc:AC:=(.seq (.out [0,1,7,8,9] (.aa [0,1,7,8] [w 9 (.bin .lss 8 7)])) (.seq (.out [0,1,7,8] (.cond (.t 9) .skip (.exit 0))) (.seq (.out [0,1,4,7,8] (.block 1 (.seq (.out [0,1,5,7,8] (.aa [0,1,7,8] [m 10 8,w 5 (.ab 10)])) (.seq (.out [0,1,5,7,8,16] (.aa [0,1,5,7,8] [m 11 1,m 12 0,m 13 5,w 14 (.indexAddr aC 12 13),w 15 (.load aC 14),w 16 (.nP 11 [15])])) (.out [0,1,4,7,8] (.cond (.t 16) (.seq (.out [4] (.aa [5] [m 17 5,w 4 (.ab 17)])) .ret) .skip)))))) (.out [0,1,7,8] (.aa [0,1,7,8] [w 18 (.bin .add 8 (.c U2 1)),m 8 18])))))
def Fe:AC:=.out [4] (.loop [0,1,7,8] Fc)
def Nw:AC:=.out [4] (.block 0 Fe)
def Nx:AC:=(.seq Nv Nw)
def Ny:AC:=(.seq (.out [4] (.aa [] [w 4 (.ab (.c U2 (-1)))])) .ret)
def Nz:AC:=(.seq Nx Ny)
def Ff:AC:=(.seq Nu Nz)
def Fb:AC:=Ff
def d144:FD:={nargs:=2,body:=Fb,res:=[.t 4]}
def MU:AC:=(.seq (.out [0,1] (.aa [0,1] [w 4 (.ab (.c .bool false))])) (.seq (.out [4] (.aa [0,1] [m 5 0,m 6 1,w 7 (.call 144 [5,6]),w 8 (.bin .geq 7 (.c U2 0)),w 4 (.ab 8)])) .ret))
def EF:AC:=MU
def d123:FD:={nargs:=2,body:=EF,res:=[.t 4]}
def QL:AC:=.out [1,24,25,26] (.aa [1] [w 23 (.fieldAddr ak [.r,.l] 1),w 24 (.load bW 23),w 25 (.aX 24),w 26 (.mv (.c U2 0))])
def HF:AC:=(.seq (.out [1,24,25,26,27] (.aa [1,24,25,26] [w 27 (.bin .lss 26 25)])) (.seq (.out [1,24,25,26] (.cond (.t 27) .skip (.exit 1))) (.seq (.out [1,2,3,24,25,26] (.block 2 (.seq (.out [1,4,5,24,25,26] (.aa [1,24,25,26] [m 28 26,w 29 (.indexAddr aC 24 26),w 30 (.load aC 29),w 5 (.alloc aC (.pair .no (.pair (.own true 40 .no) (.pair .no (.pair .no .no))))),w 4 (.ab 28),⟨none,.store aC 5 30,none⟩])) (.seq (.seq (.out [1,4,5,6,24,25,26] (.aa [1,4,5,24,25,26] [w 31 (.load aC 5),w 32 (.call 122 [31]),w 6 (.ab 32)])) (.seq (.out [1,4,5,6,24,25,26,34] (.aa [1,4,5,6,24,25,26] [m 33 6,w 34 (.bin .neq 33 (.c U2 0))])) (.out [1,2,3,4,5,24,25,26] (.cond (.t 34) (.seq (.out [2,3] (.aa [4,6] [m 35 4,m 36 6,w 2 (.ab 35),w 3 (.ab 36)])) .ret) .skip)))) (.seq (.out [1,4,7,24,25,26] (.aa [1,4,5,24,25,26] [w 37 (.fieldAddr ak [.r,.l] 1),w 38 (.load bW 37),m 39 4,w 40 (.kF aC 38 none (some 39) none),w 41 (.qH 124 L5 .bool [5]),w 42 (.call 123 [40,41]),w 7 (.ab 42)])) (.seq (.out [1,4,24,25,26,43] (.aa [1,4,7,24,25,26] [m 43 7])) (.out [1,2,3,24,25,26] (.cond (.t 43) (.seq (.out [2,3] (.aa [4] [m 44 4,w 2 (.ab 44),w 3 (.ab (.c U2 5))])) .ret) .skip)))))))) (.out [1,24,25,26] (.aa [1,24,25,26] [w 45 (.bin .add 26 (.c U2 1)),m 26 45])))))
def HG:AC:=.out [2,3] (.loop [1,24,25,26] HF)
def QM:AC:=.out [2,3] (.block 1 HG)
def QN:AC:=(.seq QL QM)
def QO:AC:=(.seq (.out [2,3] (.aa [] [w 2 (.ab (.c U2 (-1))),w 3 (.ab (.c U2 0))])) .ret)
def BD:AC:=(.seq QN QO)
def BE:AC:=(.seq (.out [1] (.aa [0] [w 1 (.box ak 0),w 2 (.ab (.c U2 0)),w 3 (.ab (.c U2 0))])) (.seq (.out [1,2,3] (.block 0 (.seq (.out [1,8] (.aa [1] [w 9 (.fieldAddr ak [.l] 1),w 10 (.load .str 9),w 11 (.call 121 [10]),w 12 (.un .not 11),w 8 (.ab 12)])) (.out [1,2,3] (.cond (.t 8) (.seq (.out [2,3] (.aa [] [w 2 (.ab (.c U2 (-1))),w 3 (.ab (.c U2 2))])) .ret) (.seq (.out [1,13] (.aa [1] [w 14 (.fieldAddr ak [.r,.l] 1),w 15 (.load bW 14),w 16 (.aX 15),w 17 (.bin .eql 16 (.c U2 0)),w 13 (.ab 17)])) (.out [1,2,3] (.cond (.t 13) (.seq (.out [2,3] (.aa [] [w 2 (.ab (.c U2 (-1))),w 3 (.ab (.c U2 7))])) .ret) (.seq (.out [1,18] (.aa [1] [w 19 (.fieldAddr ak [.r,.l] 1),w 20 (.load bW 19),w 21 (.aX 20),w 22 (.bin .gtr 21 (.c U2 120)),w 18 (.ab 22)])) (.out [1,2,3] (.cond (.t 18) (.seq (.out [2,3] (.aa [] [w 2 (.ab (.c U2 (-1))),w 3 (.ab (.c U2 3))])) .ret) .skip))))))))))) BD))
def HE:AC:=BE
def d95:FD:={nargs:=1,body:=HE,res:=[.t 2,.t 3]}
def P7:AC:=(.seq (.out [1] (.aa [0] [w 1 (.box ak 0),w 2 (.ab (.c U2 0))])) (.seq (.out [4] (.aa [1] [w 6 (.load ak 1),w 7 (.call 95 [6]),m 5 7,w 8 (.extract 5 0),w 9 (.extract 5 1),w 3 (.ab 8),w 4 (.ab 9)])) (.seq (.out [2] (.aa [4] [m 10 4,w 2 (.ab 10)])) .ret)))
def G8:AC:=P7
def d70:FD:={nargs:=1,body:=G8,res:=[.t 2]}
def QQ:AC:=(.seq (.out [0] (.aa [0] [w 2 (.ab (.c .bool false))])) (.seq (.out [2] (.aa [0] [m 3 0,w 4 (.call 98 [3]),w 5 (.un .not 4),w 2 (.ab 5)])) .ret))
def HI:AC:=QQ
def d97:FD:={nargs:=1,body:=HI,res:=[.t 2]}
def M0:AC:=.out [0,1] (.aa [0,1] [w 4 (.ab (.c U2 0))])
def M1:AC:=.out [0,1,7,8] (.aa [0,1] [m 6 0,w 7 (.aX 6),w 8 (.mv (.c U2 0))])
def EL:AC:=(.seq (.out [0,1,7,8,9] (.aa [0,1,7,8] [w 9 (.bin .lss 8 7)])) (.seq (.out [0,1,7,8] (.cond (.t 9) .skip (.exit 0))) (.seq (.out [0,1,4,7,8] (.block 1 (.seq (.out [0,1,5,7,8] (.aa [0,1,7,8] [m 10 8,w 5 (.ab 10)])) (.seq (.out [0,1,5,7,8,16] (.aa [0,1,5,7,8] [m 11 1,m 12 0,m 13 5,w 14 (.indexAddr U0 12 13),w 15 (.load U0 14),w 16 (.nP 11 [15])])) (.out [0,1,4,7,8] (.cond (.t 16) (.seq (.out [4] (.aa [5] [m 17 5,w 4 (.ab 17)])) .ret) .skip)))))) (.out [0,1,7,8] (.aa [0,1,7,8] [w 18 (.bin .add 8 (.c U2 1)),m 8 18])))))
def EM:AC:=.out [4] (.loop [0,1,7,8] EL)
def M3:AC:=.out [4] (.block 0 EM)
def M4:AC:=(.seq M1 M3)
def M5:AC:=(.seq (.out [4] (.aa [] [w 4 (.ab (.c U2 (-1)))])) .ret)
def M6:AC:=(.seq M4 M5)
def EN:AC:=(.seq M0 M6)
def EK:AC:=EN
def d126:FD:={nargs:=2,body:=EK,res:=[.t 4]}
def QP:AC:=(.seq (.out [0,1] (.aa [0,1] [w 4 (.ab (.c .bool false))])) (.seq (.out [4] (.aa [0,1] [m 5 0,m 6 1,w 7 (.call 126 [5,6]),w 8 (.bin .geq 7 (.c U2 0)),w 4 (.ab 8)])) .ret))
def HH:AC:=QP
def d96:FD:={nargs:=2,body:=HH,res:=[.t 4]}
def QS:AC:=.out [0,1,5,39,40,41] (.aa [0,1,5] [m 39 0,w 40 (.aX 39),w 41 (.mv (.c U2 0))])
def HL:AC:=(.seq (.out [0,1,5,39,40,41,42] (.aa [0,1,5,39,40,41] [w 42 (.bin .lss 41 40)])) (.seq (.out [0,1,5,39,40,41] (.cond (.t 42) .skip (.exit 1))) (.seq (.out [0,1,5,39,40,41] (.block 2 (.seq (.out [0,1,5,7,39,40,41] (.aa [0,1,5,39,40,41] [w 43 (.indexAddr .str 39 41),w 44 (.load .str 43),w 7 (.ab 44)])) (.seq (.seq (.out [0,1,5,7,39,40,41,49] (.aa [0,1,5,7,39,40,41] [m 45 7,w 46 (.bQ 45),m 47 5,w 48 (.bin .sub (.c U2 9223372036854775807) 47),w 49 (.bin .gtr 46 48)])) (.out [0,1,5,7,39,40,41] (.cond (.t 49) (.out [] (.aa [0,1,5,7,39,40,41] [w 50 (.bad),⟨none,.bad,none⟩])) .skip))) (.out [0,1,5,39,40,41] (.aa [0,1,5,7,39,40,41] [m 51 5,m 52 7,w 53 (.bQ 52),w 54 (.bin .add 51 53),w 5 (.ab 54)])))))) (.out [0,1,5,39,40,41] (.aa [0,1,5,39,40,41] [w 55 (.bin .add 41 (.c U2 1)),m 41 55])))))
def HM:AC:=.out [0,1,5] (.loop [0,1,5,39,40,41] HL)
def QU:AC:=.out [0,1,5] (.block 1 HM)
def QV:AC:=(.seq QS QU)
def QT:AC:=(.seq (.seq (.out [] (.aa [] [m 62 0,w 63 (.kF .str 62 (some (.c U2 1)) none none),w 64 (.aX 63),w 65 (.mv (.c U2 0))])) (.out [] (.block 3 (.out [] (.loop [] (.seq (.out [] (.aa [] [w 66 (.bin .lss 65 64)])) (.seq (.out [] (.cond (.t 66) .skip (.exit 3))) (.seq (.out [] (.block 4 (.seq (.out [] (.aa [] [w 67 (.indexAddr .str 63 65),w 68 (.load .str 67),w 10 (.ab 68)])) (.seq (.out [] (.aa [] [m 69 1,w 70 (.iC 84 8 69)])) (.out [] (.aa [] [m 71 10,w 72 (.iC 84 8 71)])))))) (.out [] (.aa [] [w 73 (.bin .add 65 (.c U2 1)),m 65 73])))))))))) (.seq (.out [] (.aa [] [w 74 (.jJ 85 8),w 4 (.ab 74)])) .ret))
def HN:AC:=(.seq (.out [0,1,5,8] (.aa [0,1,5] [w 8 (.zd 123 5)])) (.seq (.out [] (.aa [0,1,5,8] [m 56 5,w 57 (.kX 128 8 [56])])) (.seq (.out [] (.aa [] [m 58 0,w 59 (.indexAddr .str 58 (.c U2 0)),w 60 (.load .str 59),w 61 (.iC 84 8 60)])) QT)))
def BF:AC:=(.seq QV HN)
def BG:AC:=(.seq (.out [0,1] (.aa [0,1] [w 4 (.ab (.c .str []))])) (.seq (.seq (.out [0,1,12] (.aa [0,1] [m 11 0,w 12 (.aX 11)])) (.out [0,1,4] (.block 0 (.seq (.out [0,1,12,13] (.aa [0,1,12] [w 14 (.bin .eql 12 (.c U2 0)),w 13 (.ab 14)])) (.out [0,1,4] (.cond (.t 13) (.seq (.out [4] (.aa [] [w 4 (.ab (.c .str []))])) .ret) (.seq (.out [0,1,15] (.aa [0,1,12] [w 16 (.bin .eql 12 (.c U2 1)),w 15 (.ab 16)])) (.out [0,1,4] (.cond (.t 15) (.seq (.out [4] (.aa [0] [m 17 0,w 18 (.indexAddr .str 17 (.c U2 0)),w 19 (.load .str 18),w 4 (.ab 19)])) .ret) .skip))))))))) (.seq (.out [0,1,5] (.aa [0,1] [w 5 (.ab (.c U2 0))])) (.seq (.seq (.out [0,1,5,22] (.aa [0,1,5] [m 20 1,w 21 (.bQ 20),w 22 (.bin .gtr 21 (.c U2 0))])) (.out [0,1,5] (.cond (.t 22) (.seq (.seq (.out [0,1,5,29] (.aa [0,1,5] [m 23 1,w 24 (.bQ 23),m 25 0,w 26 (.aX 25),w 27 (.bin .sub 26 (.c U2 1)),w 28 (.bin .quo (.c U2 9223372036854775807) 27),w 29 (.bin .geq 24 28)])) (.out [0,1,5] (.cond (.t 29) (.out [] (.aa [0,1,5] [w 30 (.bad),⟨none,.bad,none⟩])) .skip))) (.out [0,1,5] (.aa [0,1,5] [m 31 5,m 32 1,w 33 (.bQ 32),m 34 0,w 35 (.aX 34),w 36 (.bin .sub 35 (.c U2 1)),w 37 (.bin .mul 33 36),w 38 (.bin .add 31 37),w 5 (.ab 38)]))) .skip))) BF))))
def HK:AC:=BG
def d99:FD:={nargs:=2,body:=HK,res:=[.t 4]}
def P8:AC:=.out [0] (.aa [0] [w 2 (.ab (.c .str [])),w 3 (.ab (.c U2 0))])
def P9:AC:=.out [0,7,8,9] (.aa [0] [m 7 0,w 8 (.aX 7),w 9 (.mv (.c U2 0))])
def Ha:AC:=(.seq (.out [0,7,8,9,10] (.aa [0,7,8,9] [w 10 (.bin .lss 9 8)])) (.seq (.out [0,7,8,9] (.cond (.t 10) .skip (.exit 0))) (.seq (.out [0,2,3,7,8,9] (.block 1 (.seq (.out [0,5,7,8,9] (.aa [0,7,8,9] [w 11 (.indexAddr .str 7 9),w 12 (.load .str 11),w 5 (.ab 12)])) (.seq (.seq (.out [0,5,7,8,9,14] (.aa [0,5,7,8,9] [m 13 5,w 14 (.bin .eql 13 (.c .str []))])) (.out [0,2,3,5,7,8,9] (.cond (.t 14) (.seq (.out [2,3] (.aa [] [w 2 (.ab (.c .str [])),w 3 (.ab (.c U2 7))])) .ret) .skip))) (.seq (.out [0,7,8,9,17] (.aa [0,5,7,8,9] [m 15 5,w 16 (.qW 15),w 17 (.call 96 [16,(.fn 97 U8 .bool)])])) (.out [0,2,3,7,8,9] (.cond (.t 17) (.seq (.out [2,3] (.aa [] [w 2 (.ab (.c .str [])),w 3 (.ab (.c U2 2))])) .ret) .skip))))))) (.out [0,7,8,9] (.aa [0,7,8,9] [w 18 (.bin .add 9 (.c U2 1)),m 9 18])))))
def Hb:AC:=.out [0,2,3] (.loop [0,7,8,9] Ha)
def Qa:AC:=.out [0,2,3] (.block 0 Hb)
def Qb:AC:=(.seq P9 Qa)
def Qc:AC:=(.seq (.out [6] (.aa [0] [m 19 0,w 20 (.call 99 [19,(.c .str [32])]),w 6 (.ab 20)])) (.seq (.seq (.out [6,23] (.aa [6] [m 21 6,w 22 (.bQ 21),w 23 (.bin .gtr 22 (.c U2 120))])) (.out [2,3,6] (.cond (.t 23) (.seq (.out [2,3] (.aa [] [w 2 (.ab (.c .str [])),w 3 (.ab (.c U2 3))])) .ret) .skip))) (.seq (.out [2,3] (.aa [6] [m 24 6,w 2 (.ab 24),w 3 (.ab (.c U2 0))])) .ret)))
def Qd:AC:=(.seq Qb Qc)
def Hc:AC:=(.seq P8 Qd)
def G9:AC:=Hc
def d71:FD:={nargs:=1,body:=G9,res:=[.t 2,.t 3]}
def O6:AC:=(.seq (.out [1,2] (.aa [0,1] [w 2 (.box ak 0),w 4 (.ab (.c U2 0))])) (.seq (.seq (.out [1,5] (.aa [1,2] [w 8 (.load ak 2),w 9 (.call 70 [8]),w 5 (.ab 9)])) (.seq (.out [1,5,11] (.aa [1,5] [m 10 5,w 11 (.bin .neq 10 (.c U2 0))])) (.out [1,4] (.cond (.t 11) (.seq (.out [4] (.aa [5] [m 12 5,w 4 (.ab 12)])) .ret) .skip)))) (.seq (.out [1,4] (.block 0 (.seq (.out [1,13] (.aa [1] [m 14 1,w 15 (.bin .eql 14 (.c .str [])),w 13 (.ab 15)])) (.out [1,4] (.cond (.t 13) (.seq (.out [4] (.aa [] [w 4 (.ab (.c U2 7))])) .ret) (.seq (.out [1,16] (.aa [1] [m 17 1,w 18 (.bQ 17),w 19 (.bin .gtr 18 (.c U2 16)),w 16 (.ab 19)])) (.out [1,4] (.cond (.t 16) (.seq (.out [4] (.aa [] [w 4 (.ab (.c U2 3))])) .ret) .skip)))))))) (.seq (.seq (.out [1,7] (.aa [1] [m 21 1,w 22 (.buildSlice 9 .str [21]),w 23 (.call 71 [22]),m 20 23,w 24 (.extract 20 0),w 25 (.extract 20 1),w 6 (.ab 24),w 7 (.ab 25)])) (.seq (.out [33] (.aa [1,7] [m 26 7,w 27 (.bin .neq 26 (.c U2 0)),m 28 27,⟨some 29,.mv 1,some (28,false)⟩,⟨some 30,.call 72 [29],some (28,false)⟩,⟨some 31,.mv 1,some (28,false)⟩,⟨some 32,.bin .neq 30 31,some (28,false)⟩,w 33 (.pick 28 (.c .bool true) 32)])) (.out [4] (.cond (.t 33) (.seq (.out [4] (.aa [] [w 4 (.ab (.c U2 2))])) .ret) .skip)))) (.seq (.out [4] (.aa [] [w 4 (.ab (.c U2 0))])) .ret)))))
def Gm:AC:=O6
def d40:FD:={nargs:=2,body:=Gm,res:=[.t 4]}
def Qi:AC:=(.seq (.out [0,1] (.aa [0,1] [w 4 (.ab (.nil 40 aD))])) (.seq (.seq (.out [0,1,6] (.aa [0,1] [m 5 1,w 6 (.bin .lss 5 (.c U2 0))])) (.out [0,1,4] (.cond (.t 6) (.seq (.out [4] (.aa [] [w 4 (.ab (.nil 40 aD))])) .ret) .skip))) (.seq (.out [4] (.aa [0,1] [m 7 0,w 8 (.jF 7),w 9 (.fieldAddr bG [.l] 8),w 10 (.fieldAddr ak [.r,.l] 9),w 11 (.load bW 10),m 12 1,w 13 (.indexAddr aC 11 12),w 14 (.fieldAddr aC [.r,.l] 13),w 15 (.load bt 14),w 4 (.ab 15)])) .ret)))
def Hg:AC:=Qi
def d73:FD:={nargs:=2,body:=Hg,res:=[.p 4]}
def Qq:AC:=(.seq (.out [1] (.aa [0] [w 1 (.box aD 0),w 2 (.ab (.c .bool false))])) (.seq (.out [2] (.aa [1] [w 3 (.fieldAddr aD [.l] 1),w 4 (.load U2 3),w 5 (.bin .eql 4 (.c U2 1)),m 6 5,⟨some 7,.fieldAddr aD [.l] 1,some (6,false)⟩,⟨some 8,.load U2 7,some (6,false)⟩,⟨some 9,.bin .eql 8 (.c U2 2),some (6,false)⟩,w 10 (.pick 6 (.c .bool true) 9),w 2 (.ab 10)])) .ret))
def Hn:AC:=Qq
def d87:FD:={nargs:=1,body:=Hn,res:=[.t 2]}
def PE:AC:=.out [1,2,3,4] (.aa [0,1,2,3] [w 4 (.box ak 0),w 8 (.ab (.c .bool false))])
def PF:AC:=(.seq (.out [1,2,3,4,18] (.aa [1,2,3,4] [m 10 1,w 11 (.bin .lss 10 (.c U2 0)),m 12 11,⟨some 13,.mv 1,some (12,false)⟩,⟨some 14,.fieldAddr ak [.r,.l] 4,some (12,false)⟩,⟨some 15,.load bW 14,some (12,false)⟩,⟨some 16,.aX 15,some (12,false)⟩,⟨some 17,.bin .geq 13 16,some (12,false)⟩,w 18 (.pick 12 (.c .bool true) 17)])) (.out [1,2,3,4,8] (.cond (.t 18) (.seq (.out [8] (.aa [] [w 8 (.ab (.c .bool false))])) .ret) .skip)))
def PG:AC:=.out [1,2,4,9] (.aa [1,2,3,4] [m 19 3,w 20 (.aX 19),w 21 (.bin .gtr 20 (.c U2 0)),m 22 21,⟨some 23,.mv 3,some (22,true)⟩,⟨some 24,.indexAddr aD 23 (.c U2 0),some (22,true)⟩,⟨some 25,.load aD 24,some (22,true)⟩,⟨some 26,.call 87 [25],some (22,true)⟩,w 27 (.pick 22 26 (.c .bool false)),w 9 (.ab 27)])
def PH:AC:=(.seq (.seq (.out [2,9,33] (.aa [1,2,4,9] [w 28 (.fieldAddr ak [.r,.l] 4),w 29 (.load bW 28),m 30 1,w 31 (.indexAddr aC 29 30),w 32 (.fieldAddr aC [.r,.r,.r,.l] 31),w 33 (.load U2 32)])) (.out [8] (.block 0 (.seq (.out [2,9,33,34] (.aa [2,9,33] [w 35 (.bin .eql 33 (.c U2 0)),w 34 (.ab 35)])) (.out [8] (.cond (.t 34) (.seq (.out [8] (.aa [] [w 8 (.ab (.c .bool true))])) .ret) (.seq (.out [2,9,33,36] (.aa [2,9,33] [w 37 (.bin .eql 33 (.c U2 1)),w 36 (.ab 37)])) (.out [8] (.cond (.t 36) (.seq (.out [8] (.aa [9] [m 38 9,w 8 (.ab 38)])) .ret) (.seq (.out [2,9,33,39] (.aa [2,9,33] [w 40 (.bin .eql 33 (.c U2 2)),w 39 (.ab 40)])) (.out [8] (.cond (.t 39) (.seq (.out [8] (.aa [2,9] [m 41 9,m 42 41,⟨some 43,.mv 2,some (42,true)⟩,⟨some 44,.aX 43,some (42,true)⟩,⟨some 45,.bin .eql 44 (.c U2 0),some (42,true)⟩,w 46 (.pick 42 45 (.c .bool false)),w 8 (.ab 46)])) .ret) (.seq (.out [2,9,33,47] (.aa [2,9,33] [w 48 (.bin .eql 33 (.c U2 3)),w 47 (.ab 48)])) (.out [8] (.cond (.t 47) (.seq (.out [8] (.aa [2,9] [m 49 9,m 50 49,⟨some 51,.mv 2,some (50,true)⟩,⟨some 52,.aX 51,some (50,true)⟩,⟨some 53,.bin .gtr 52 (.c U2 0),some (50,true)⟩,w 54 (.pick 50 53 (.c .bool false)),m 55 54,⟨some 56,.mv 2,some (55,true)⟩,⟨some 57,.mv 2,some (55,true)⟩,⟨some 58,.aX 57,some (55,true)⟩,⟨some 59,.bin .sub 58 (.c U2 1),some (55,true)⟩,⟨some 60,.indexAddr aD 56 59,some (55,true)⟩,⟨some 61,.load aD 60,some (55,true)⟩,⟨some 62,.call 87 [61],some (55,true)⟩,w 63 (.pick 55 62 (.c .bool false)),w 8 (.ab 63)])) .ret) (.seq (.out [9,64] (.aa [9,33] [w 65 (.bin .eql 33 (.c U2 4)),w 64 (.ab 65)])) (.out [8] (.cond (.t 64) (.seq (.out [8] (.aa [9] [m 66 9,w 67 (.un .not 66),w 8 (.ab 67)])) .ret) .skip)))))))))))))))))) (.seq (.out [8] (.aa [] [w 8 (.ab (.c .bool false))])) .ret))
def PI:AC:=(.seq PG PH)
def PJ:AC:=(.seq PF PI)
def GS:AC:=(.seq PE PJ)
def GR:AC:=GS
def d60:FD:={nargs:=4,body:=GR,res:=[.t 8]}
def Qo:AC:=(.seq (.out [0,1] (.aa [0,1] [w 4 (.ab (.c .bool false))])) (.seq (.out [4] (.aa [0,1] [m 5 0,w 6 (.bQ 5),m 7 1,w 8 (.bQ 7),w 9 (.bin .geq 6 8),m 10 9,⟨some 11,.mv 0,some (10,true)⟩,⟨some 12,.mv 1,some (10,true)⟩,⟨some 13,.bQ 12,some (10,true)⟩,⟨some 14,.jL 11 none (some 13),some (10,true)⟩,⟨some 15,.mv 1,some (10,true)⟩,⟨some 16,.bin .eql 14 15,some (10,true)⟩,w 17 (.pick 10 16 (.c .bool false)),w 4 (.ab 17)])) .ret))
def Hl:AC:=Qo
def d83:FD:={nargs:=2,body:=Hl,res:=[.t 4]}
def Px:AC:=(.seq (.out [0,1] (.aa [0,1] [w 4 (.ab (.c .bool false))])) (.seq (.out [4] (.aa [0,1] [m 5 0,m 6 1,w 7 (.call 83 [5,6]),w 4 (.ab 7)])) .ret))
def GL:AC:=Px
def d54:FD:={nargs:=2,body:=GL,res:=[.t 4]}
def Qj:AC:=.out [0,3,5,12,13,14] (.aa [0,3,5] [m 8 0,w 9 (.jF 8),w 10 (.fieldAddr bG [.l] 9),w 11 (.fieldAddr ak [.r,.l] 10),w 12 (.load bW 11),w 13 (.aX 12),w 14 (.mv (.c U2 0))])
def Hi:AC:=(.seq (.out [0,3,5,12,13,14,15] (.aa [0,3,5,12,13,14] [w 15 (.bin .lss 14 13)])) (.seq (.out [0,3,5,12,13,14] (.cond (.t 15) .skip (.exit 0))) (.seq (.out [0,3,5,12,13,14] (.block 1 (.seq (.out [0,3,5,6,7,12,13,14] (.aa [0,3,5,12,13,14] [m 16 14,w 17 (.indexAddr aC 12 14),w 18 (.load aC 17),w 7 (.alloc aC (.pair .no (.pair (.own true 40 .no) (.pair .no (.pair .no .no))))),w 6 (.ab 16),⟨none,.store aC 7 18,none⟩])) (.seq (.out [0,3,5,6,7,12,13,14,48] (.draw [0,3,5,6,7,12,13,14] [⟨m 19 0,[23,24,26,27],[19],[],false,[]⟩,⟨w 20 (.jF 19),[23,24,26,27],[20],[0],false,[]⟩,⟨w 21 (.fieldAddr bG [.r,.l] 20),[23,24,26,27],[21],[0,1],false,[]⟩,⟨w 22 (.load .str 21),[23,24,26,27],[22],[0,1,2],false,[]⟩,⟨w 23 (.fieldAddr aZ [.r,.r,.l] 3),[19,20,21,22,26,27],[23],[],false,[]⟩,⟨w 24 (.load U2 23),[19,20,21,22,26,27],[24],[4],false,[]⟩,⟨w 25 (.jL 22 (some 24) none),[26,27],[25],[0,1,2,3,4,5],false,[]⟩,⟨w 26 (.fieldAddr aC [.l] 7),[19,20,21,22,23,24,25],[26],[],false,[]⟩,⟨w 27 (.load .str 26),[19,20,21,22,23,24,25],[27],[7],false,[]⟩,⟨w 28 (.call 54 [25,27]),[],[28],[0,1,2,3,4,5,6,7,8],false,[]⟩,⟨m 29 28,[],[29],[0,1,2,3,4,5,6,7,8,9],false,[]⟩,⟨⟨some 30,.fieldAddr aZ [.r,.l] 3,some (29,true)⟩,[],[30],[0,1,2,3,4,5,6,7,8,9,10],false,[]⟩,⟨⟨some 31,.load U2 30,some (29,true)⟩,[],[31],[0,1,2,3,4,5,6,7,8,9,10,11],false,[]⟩,⟨⟨some 32,.bin .lss 31 (.c U2 0),some (29,true)⟩,[],[32],[0,1,2,3,4,5,6,7,8,9,10,11,12],false,[]⟩,⟨⟨some 33,.mv 32,some (29,true)⟩,[],[33],[0,1,2,3,4,5,6,7,8,9,10,11,12,13],false,[]⟩,⟨⟨some 34,.mv 0,some (33,false)⟩,[38,39,40,41,42,43,44,45],[34],[0,1,2,3,4,5,6,7,8,9,10,11,12,13,14],false,[]⟩,⟨⟨some 35,.jF 34,some (33,false)⟩,[38,39,40,41,42,43,44,45],[35],[0,1,2,3,4,5,6,7,8,9,10,11,12,13,14,15],false,[]⟩,⟨⟨some 36,.fieldAddr bG [.l] 35,some (33,false)⟩,[38,39,40,41,42,43,44,45],[36],[0,1,2,3,4,5,6,7,8,9,10,11,12,13,14,15,16],false,[]⟩,⟨⟨some 37,.load ak 36,some (33,false)⟩,[38,39,40,41,42,43,44,45],[37],[0,1,2,3,4,5,6,7,8,9,10,11,12,13,14,15,16,17],false,[]⟩,⟨⟨some 38,.fieldAddr aZ [.r,.l] 3,some (33,false)⟩,[34,35,36,37,40,41,42,43,44,45],[38],[0,1,2,3,4,5,6,7,8,9,10,11,12,13,14],false,[]⟩,⟨⟨some 39,.load U2 38,some (33,false)⟩,[34,35,36,37,40,41,42,43,44,45],[39],[0,1,2,3,4,5,6,7,8,9,10,11,12,13,14,19],false,[]⟩,⟨⟨some 40,.mv 0,some (33,false)⟩,[34,35,36,37,38,39,41,42,44,45],[40],[0,1,2,3,4,5,6,7,8,9,10,11,12,13,14],false,[]⟩,⟨⟨some 41,.fieldAddr aZ [.l] 3,some (33,false)⟩,[34,35,36,37,38,39,40,44,45],[41],[0,1,2,3,4,5,6,7,8,9,10,11,12,13,14],false,[]⟩,⟨⟨some 42,.load U2 41,some (33,false)⟩,[34,35,36,37,38,39,40,44,45],[42],[0,1,2,3,4,5,6,7,8,9,10,11,12,13,14,22],false,[]⟩,⟨⟨some 43,.call 73 [40,42],some (33,false)⟩,[34,35,36,37,38,39,44,45],[43],[0,1,2,3,4,5,6,7,8,9,10,11,12,13,14,21,22,23],false,[]⟩,⟨⟨some 44,.fieldAddr aC [.r,.l] 7,some (33,false)⟩,[34,35,36,37,38,39,40,41,42,43],[44],[0,1,2,3,4,5,6,7,8,9,10,11,12,13,14],false,[]⟩,⟨⟨some 45,.load bt 44,some (33,false)⟩,[34,35,36,37,38,39,40,41,42,43],[45],[0,1,2,3,4,5,6,7,8,9,10,11,12,13,14,25],false,[]⟩,⟨⟨some 46,.call 60 [37,39,43,45],some (33,false)⟩,[],[46],[0,1,2,3,4,5,6,7,8,9,10,11,12,13,14,15,16,17,18,19,20,21,22,23,24,25,26],false,[]⟩,⟨⟨some 47,.pick 33 (.c .bool true) 46,some (29,true)⟩,[],[47],[0,1,2,3,4,5,6,7,8,9,10,11,12,13,14,15,16,17,18,19,20,21,22,23,24,25,26,27],false,[]⟩,⟨w 48 (.pick 29 47 (.c .bool false)),[],[48],[0,1,2,3,4,5,6,7,8,9,10,11,12,13,14,15,16,17,18,19,20,21,22,23,24,25,26,27,28],false,[]⟩])) (.out [0,3,5,12,13,14] (.cond (.t 48) (.out [0,3,5,12,13,14] (.aa [0,3,5,6,7,12,13,14] [m 49 5,w 50 (.fieldAddr aZ [.r,.l] 3),w 51 (.load U2 50),m 52 6,w 53 (.fieldAddr aZ [.r,.r,.l] 3),w 54 (.load U2 53),w 55 (.fieldAddr aC [.l] 7),w 56 (.load .str 55),w 57 (.bQ 56),w 58 (.bin .add 54 57),w 59 (.build aZ [([.l],51),([.r,.l],52),([.r,.r,.l],58)]),w 60 (.buildSlice 73 aZ [59]),w 61 (.append 73 aZ 5864062014805 49 60),w 5 (.ab 61)])) .skip)))))) (.out [0,3,5,12,13,14] (.aa [0,3,5,12,13,14] [w 62 (.bin .add 14 (.c U2 1)),m 14 62])))))
def Hj:AC:=.out [5] (.loop [0,3,5,12,13,14] Hi)
def Qk:AC:=.out [5] (.block 0 Hj)
def Ql:AC:=(.seq Qj Qk)
def Qm:AC:=(.seq (.out [4,5] (.aa [5] [m 63 5,w 4 (.ab 63)])) .ret)
def Bs:AC:=(.seq Ql Qm)
def Bt:AC:=(.seq (.out [0,3] (.aa [0,1] [w 3 (.box aZ 1),w 4 (.ab (.nil 73 aZ))])) (.seq (.out [0,3,5] (.aa [0,3] [w 5 (.ab (.nil 73 aZ))])) Bs))
def Hh:AC:=Bt
def d74:FD:={nargs:=2,body:=Hh,res:=[.t 4]}
def O7:AC:=.out [0,3,7,47,48,49] (.aa [0,3,7] [m 45 0,w 46 (.load aZ 3),w 47 (.call 74 [45,46]),w 48 (.aX 47),w 49 (.mv (.c U2 0))])
def Gp:AC:=(.seq (.out [0,3,7,47,48,49,50] (.aa [0,3,7,47,48,49] [w 50 (.bin .lss 49 48)])) (.seq (.out [0,3,7,47,48,49] (.cond (.t 50) .skip (.exit 0))) (.seq (.out [0,3,7,47,48,49] (.block 1 (.seq (.out [0,3,7,9,47,48,49] (.aa [0,3,7,47,48,49] [w 51 (.indexAddr aZ 47 49),w 52 (.load aZ 51),w 9 (.alloc aZ .no),⟨none,.store aZ 9 52,none⟩])) (.out [0,3,7,47,48,49] (.aa [0,3,7,9,47,48,49] [m 53 7,m 54 0,w 55 (.load aZ 9),w 56 (.kX 41 54 [55]),w 57 (.bin .add 53 56),w 58 (.mm false 57 (.c U2 201)),w 7 (.ab 58)]))))) (.out [0,3,7,47,48,49] (.aa [0,3,7,47,48,49] [w 59 (.bin .add 49 (.c U2 1)),m 49 59])))))
def Gq:AC:=.out [0,3,7] (.loop [0,3,7,47,48,49] Gp)
def O8:AC:=.out [0,3,7] (.block 0 Gq)
def O9:AC:=(.seq O7 O8)
def Pa:AC:=(.seq (.out [0,7] (.draw [0,3,7] [⟨m 60 0,[64,65],[60],[],false,[]⟩,⟨w 61 (.jF 60),[64,65],[61],[0],false,[]⟩,⟨w 62 (.fieldAddr bG [.r,.r,.l] 61),[64,65],[62],[0,1],false,[]⟩,⟨w 63 (.load DX 62),[64,65],[63],[0,1,2],false,[]⟩,⟨w 64 (.load aZ 3),[60,61,62,63,65],[64],[],false,[]⟩,⟨m 65 7,[60,61,62,63,64],[65],[],false,[]⟩,⟨⟨none,.Df aZ U2 63 64 65,none⟩,[],[0,60,61,62,63],[0,1,2,3,4,5],true,[]⟩])) (.seq (.out [0,4] (.aa [0,7] [m 66 7,w 4 (.ab 66)])) .ret))
def A5:AC:=(.seq O9 Pa)
def A6:AC:=(.seq (.out [0,3] (.aa [0,1] [w 3 (.box aZ 1),w 4 (.ab (.c U2 0))])) (.seq (.seq (.out [0,3,17] (.draw [0,3] [⟨w 10 (.fieldAddr aZ [.r,.r,.l] 3),[12,13,14,15,16],[10],[],false,[]⟩,⟨w 11 (.load U2 10),[12,13,14,15,16],[11],[0],false,[]⟩,⟨m 12 0,[10,11],[12],[],false,[]⟩,⟨w 13 (.jF 12),[10,11],[13],[2],false,[]⟩,⟨w 14 (.fieldAddr bG [.r,.l] 13),[10,11],[14],[2,3],false,[]⟩,⟨w 15 (.load .str 14),[10,11],[15],[2,3,4],false,[]⟩,⟨w 16 (.bQ 15),[10,11],[16],[2,3,4,5],false,[]⟩,⟨w 17 (.bin .eql 11 16),[],[17],[0,1,2,3,4,5,6],false,[]⟩])) (.out [0,3,4] (.cond (.t 17) (.seq (.seq (.out [0,33] (.draw [0,3] [⟨w 18 (.fieldAddr aZ [.r,.l] 3),[],[18],[],false,[]⟩,⟨w 19 (.load U2 18),[],[19],[0],false,[]⟩,⟨w 20 (.bin .geq 19 (.c U2 0)),[],[20],[0,1],false,[]⟩,⟨m 21 20,[],[21],[0,1,2],false,[]⟩,⟨⟨some 22,.mv 0,some (21,true)⟩,[26,27,28,29,30,31],[22],[0,1,2,3],false,[]⟩,⟨⟨some 23,.jF 22,some (21,true)⟩,[26,27,28,29,30,31],[23],[0,1,2,3,4],false,[]⟩,⟨⟨some 24,.fieldAddr bG [.l] 23,some (21,true)⟩,[26,27,28,29,30,31],[24],[0,1,2,3,4,5],false,[]⟩,⟨⟨some 25,.load ak 24,some (21,true)⟩,[26,27,28,29,30,31],[25],[0,1,2,3,4,5,6],false,[]⟩,⟨⟨some 26,.fieldAddr aZ [.r,.l] 3,some (21,true)⟩,[22,23,24,25,28,29,30,31],[26],[0,1,2,3],false,[]⟩,⟨⟨some 27,.load U2 26,some (21,true)⟩,[22,23,24,25,28,29,30,31],[27],[0,1,2,3,8],false,[]⟩,⟨⟨some 28,.mv 0,some (21,true)⟩,[22,23,24,25,26,27,29,30],[28],[0,1,2,3],false,[]⟩,⟨⟨some 29,.fieldAddr aZ [.l] 3,some (21,true)⟩,[22,23,24,25,26,27,28],[29],[0,1,2,3],false,[]⟩,⟨⟨some 30,.load U2 29,some (21,true)⟩,[22,23,24,25,26,27,28],[30],[0,1,2,3,11],false,[]⟩,⟨⟨some 31,.call 73 [28,30],some (21,true)⟩,[22,23,24,25,26,27],[31],[0,1,2,3,10,11,12],false,[]⟩,⟨⟨some 32,.call 60 [25,27,31,(.nil 40 aD)],some (21,true)⟩,[],[32],[0,1,2,3,4,5,6,7,8,9,10,11,12,13],false,[]⟩,⟨w 33 (.pick 21 32 (.c .bool false)),[],[33],[0,1,2,3,4,5,6,7,8,9,10,11,12,13,14],false,[]⟩])) (.out [0,4] (.cond (.t 33) (.seq (.out [0,4] (.aa [0] [w 4 (.ab (.c U2 1))])) .ret) .skip))) (.seq (.out [0,4] (.aa [0] [w 4 (.ab (.c U2 0))])) .ret)) .skip))) (.seq (.seq (.out [0,3,5,6] (.draw [0,3] [⟨m 35 0,[39],[35],[],false,[]⟩,⟨w 36 (.jF 35),[39],[36],[0],false,[]⟩,⟨w 37 (.fieldAddr bG [.r,.r,.l] 36),[39],[37],[0,1],false,[]⟩,⟨w 38 (.load DX 37),[39],[38],[0,1,2],false,[]⟩,⟨w 39 (.load aZ 3),[35,36,37,38],[39],[],false,[]⟩,⟨w 40 (.Dd aZ U2 38 39),[],[40],[0,1,2,3,4],true,[]⟩,⟨m 34 40,[],[34],[0,1,2,3,4,5],true,[]⟩,⟨w 41 (.extract 34 0),[42],[41],[0,1,2,3,4,5,6],false,[]⟩,⟨w 42 (.extract 34 1),[5,41],[42],[0,1,2,3,4,5,6],false,[]⟩,⟨w 5 (.ab 41),[42],[5],[0,1,2,3,4,5,6,7],false,[]⟩,⟨w 6 (.ab 42),[],[6],[0,1,2,3,4,5,6,7,8,9],false,[]⟩])) (.seq (.out [0,3,5,43] (.aa [0,3,5,6] [m 43 6])) (.out [0,3,4] (.cond (.t 43) (.seq (.out [0,4] (.aa [0,5] [m 44 5,w 4 (.ab 44)])) .ret) .skip)))) (.seq (.out [0,3,7] (.aa [0,3] [w 7 (.ab (.c U2 0))])) A5))))
def Gn:AC:=A6
def d41:FD:={nargs:=2,body:=Gn,res:=[.t 4],lend:=true}
def Pb:AC:=.out [0,5,21,22,23] (.aa [0,3,5] [m 19 0,w 20 (.load aZ 3),w 21 (.call 74 [19,20]),w 22 (.aX 21),w 23 (.mv (.c U2 0))])
def Gt:AC:=(.seq (.out [0,5,7,21,22,23,33,34,35,36] (.aa [0,5,7,21,22,23,33,34,35] [w 36 (.bin .lss 35 34)])) (.seq (.out [0,5,7,21,22,23,33,34,35] (.cond (.t 36) .skip (.exit 2))) (.seq (.out [0,5,7,21,22,23,33,34,35] (.block 3 (.seq (.out [0,5,7,9,21,22,23,33,34,35] (.aa [0,5,7,21,22,23,33,34,35] [w 37 (.indexAddr U5 33 35),w 38 (.load U5 37),w 9 (.ab 38)])) (.out [0,5,7,21,22,23,33,34,35] (.aa [0,5,7,9,21,22,23,33,34,35] [m 39 5,w 40 (.fieldAddr aZ [.r,.l] 7),w 41 (.load U2 40),w 42 (.buildSlice 3 U2 [41]),m 43 9,w 44 (.append 3 U2 17592186044416 42 43),w 45 (.buildSlice 27 U5 [44]),w 46 (.append 27 U5 5864062014805 39 45),w 5 (.ab 46)]))))) (.out [0,5,7,21,22,23,33,34,35] (.aa [0,5,7,21,22,23,33,34,35] [w 47 (.bin .add 35 (.c U2 1)),m 35 47])))))
def Gu:AC:=.out [0,5,21,22,23] (.loop [0,5,7,21,22,23,33,34,35] Gt)
def A9:AC:=.out [0,5,21,22,23] (.block 2 Gu)
def Gv:AC:=(.seq (.out [0,5,7,21,22,23] (.aa [0,5,21,22,23] [w 25 (.indexAddr aZ 21 23),w 26 (.load aZ 25),w 7 (.alloc aZ .no),⟨none,.store aZ 7 26,none⟩])) (.seq (.seq (.out [0,5,7,21,22,23,30] (.aa [0,5,7,21,22,23] [m 27 0,w 28 (.load aZ 7),w 29 (.kX 41 27 [28]),w 30 (.bin .eql 29 (.c U2 0))])) (.out [0,5,7,21,22,23] (.cond (.t 30) (.exit 1) .skip))) (.seq (.out [0,5,7,21,22,23,33,34,35] (.aa [0,5,7,21,22,23] [m 31 0,w 32 (.load aZ 7),w 33 (.kX 42 31 [32]),w 34 (.aX 33),w 35 (.mv (.c U2 0))])) A9)))
def Gw:AC:=.out [0,5,21,22,23] (.block 1 Gv)
def Pf:AC:=.out [0,5,21,22,23] (.aa [0,5,21,22,23] [w 48 (.bin .add 23 (.c U2 1)),m 23 48])
def Ba:AC:=(.seq Gw Pf)
def uL:AC:=(.seq (.out [0,5,21,22,23,24] (.aa [0,5,21,22,23] [w 24 (.bin .lss 23 22)])) (.seq (.out [0,5,21,22,23] (.cond (.t 24) .skip (.exit 0))) Ba))
def Gx:AC:=.out [0,5] (.loop [0,5,21,22,23] uL)
def Pc:AC:=.out [0,5] (.block 0 Gx)
def Pd:AC:=(.seq Pb Pc)
def Pe:AC:=(.seq (.out [0,4,5] (.aa [0,5] [m 49 5,w 4 (.ab 49)])) .ret)
def A7:AC:=(.seq Pd Pe)
def A8:AC:=(.seq (.out [0,3] (.aa [0,1] [w 3 (.box aZ 1),w 4 (.ab (.nil 27 U5))])) (.seq (.seq (.out [0,3,17] (.draw [0,3] [⟨w 10 (.fieldAddr aZ [.r,.r,.l] 3),[12,13,14,15,16],[10],[],false,[]⟩,⟨w 11 (.load U2 10),[12,13,14,15,16],[11],[0],false,[]⟩,⟨m 12 0,[10,11],[12],[],false,[]⟩,⟨w 13 (.jF 12),[10,11],[13],[2],false,[]⟩,⟨w 14 (.fieldAddr bG [.r,.l] 13),[10,11],[14],[2,3],false,[]⟩,⟨w 15 (.load .str 14),[10,11],[15],[2,3,4],false,[]⟩,⟨w 16 (.bQ 15),[10,11],[16],[2,3,4,5],false,[]⟩,⟨w 17 (.bin .eql 11 16),[],[17],[0,1,2,3,4,5,6],false,[]⟩])) (.out [0,3,4] (.cond (.t 17) (.seq (.out [0,4] (.aa [0] [w 18 (.buildSlice 27 U5 [(.nil 3 U2)]),w 4 (.ab 18)])) .ret) .skip))) (.seq (.out [0,3,5] (.aa [0,3] [w 5 (.ab (.nil 27 U5))])) A7)))
def Gs:AC:=A8
def d42:FD:={nargs:=2,body:=Gs,res:=[.t 4],lend:=true}
def O2:AC:=.out [2,5,8,9,10] (.aa [1,2,5] [m 8 1,w 9 (.aX 8),w 10 (.mv (.c U2 0))])
def Gj:AC:=(.seq (.out [2,5,8,9,10,11] (.aa [2,5,8,9,10] [w 11 (.bin .lss 10 9)])) (.seq (.out [2,5,8,9,10] (.cond (.t 11) .skip (.exit 0))) (.seq (.out [2,5,8,9,10] (.block 1 (.seq (.out [2,5,7,8,9,10] (.aa [2,5,8,9,10] [w 12 (.indexAddr U2 8 10),w 13 (.load U2 12),w 7 (.ab 13)])) (.out [2,5,8,9,10] (.aa [2,5,7,8,9,10] [m 14 5,w 15 (.fieldAddr ak [.r,.l] 2),w 16 (.load bW 15),m 17 7,w 18 (.indexAddr aC 16 17),w 19 (.fieldAddr aC [.r,.r,.l] 18),w 20 (.load U2 19),w 21 (.bin .add 14 20),w 5 (.ab 21)]))))) (.out [2,5,8,9,10] (.aa [2,5,8,9,10] [w 22 (.bin .add 10 (.c U2 1)),m 10 22])))))
def Gk:AC:=.out [5] (.loop [2,5,8,9,10] Gj)
def O3:AC:=.out [5] (.block 0 Gk)
def O4:AC:=(.seq O2 O3)
def O5:AC:=(.seq (.out [4] (.aa [5] [m 23 5,w 4 (.ab 23)])) .ret)
def A3:AC:=(.seq O4 O5)
def A4:AC:=(.seq (.out [1,2] (.aa [0,1] [w 2 (.box ak 0),w 4 (.ab (.c U2 0))])) (.seq (.out [1,2,5] (.aa [1,2] [w 5 (.ab (.c U2 0))])) A3))
def Gi:AC:=A4
def d38:FD:={nargs:=2,body:=Gi,res:=[.t 4]}
def Qn:AC:=(.seq (.out [0] (.aa [0] [w 2 (.ab (.c .bool false))])) (.seq (.out [2] (.aa [0] [m 3 0,m 4 0,w 5 (.bin .neq 3 4),w 2 (.ab 5)])) .ret))
def Hk:AC:=Qn
def d77:FD:={nargs:=1,body:=Hk,res:=[.t 2]}
def Pm:AC:=(.seq (.out [0,1] (.aa [0,1] [w 4 (.ab (.c U2 0))])) (.seq (.out [0,1,5] (.aa [0,1] [m 7 0,w 8 (.call 77 [7]),w 5 (.ab 8)])) (.seq (.out [0,1,5,6] (.aa [0,1,5] [m 9 1,w 10 (.call 77 [9]),w 6 (.ab 10)])) (.seq (.seq (.out [0,1,6,11] (.aa [0,1,5,6] [m 11 5])) (.out [0,1,4,6] (.cond (.t 11) (.seq (.seq (.out [12] (.aa [6] [m 12 6])) (.out [4] (.cond (.t 12) (.seq (.out [4] (.aa [] [w 4 (.ab (.c U2 0))])) .ret) .skip))) (.seq (.out [4] (.aa [] [w 4 (.ab (.c U2 (-1)))])) .ret)) .skip))) (.seq (.seq (.out [0,1,13] (.aa [0,1,6] [m 13 6])) (.out [0,1,4] (.cond (.t 13) (.seq (.out [4] (.aa [] [w 4 (.ab (.c U2 1))])) .ret) .skip))) (.seq (.seq (.out [0,1,16] (.aa [0,1] [m 14 0,m 15 1,w 16 (.bin .lss 14 15)])) (.out [0,1,4] (.cond (.t 16) (.seq (.out [4] (.aa [] [w 4 (.ab (.c U2 (-1)))])) .ret) .skip))) (.seq (.seq (.out [19] (.aa [0,1] [m 17 0,m 18 1,w 19 (.bin .gtr 17 18)])) (.out [4] (.cond (.t 19) (.seq (.out [4] (.aa [] [w 4 (.ab (.c U2 1))])) .ret) .skip))) (.seq (.out [4] (.aa [] [w 4 (.ab (.c U2 0))])) .ret))))))))
def GC:AC:=Pm
def d46:FD:={nargs:=2,body:=GC,res:=[.t 4]}
def Pn:AC:=.out [0,1] (.aa [0,1] [w 4 (.ab (.c U2 0))])
def Po:AC:=.out [0,1,9,10,11] (.aa [0,1] [m 9 0,w 10 (.aX 9),w 11 (.mv (.c U2 0))])
def GF:AC:=(.seq (.out [0,1,9,10,11,12] (.aa [0,1,9,10,11] [w 12 (.bin .lss 11 10)])) (.seq (.out [0,1,9,10,11] (.cond (.t 12) .skip (.exit 0))) (.seq (.out [0,1,4,9,10,11] (.block 1 (.seq (.out [0,1,5,6,9,10,11] (.aa [0,1,9,10,11] [m 13 11,w 14 (.indexAddr U2 9 11),w 15 (.load U2 14),w 5 (.ab 13),w 6 (.ab 15)])) (.seq (.seq (.out [0,1,5,6,9,10,11,19] (.aa [0,1,5,6,9,10,11] [m 16 5,m 17 1,w 18 (.aX 17),w 19 (.bin .geq 16 18)])) (.out [0,1,4,5,6,9,10,11] (.cond (.t 19) (.seq (.out [4] (.aa [] [w 4 (.ab (.c U2 1))])) .ret) .skip))) (.seq (.out [0,1,6,7,9,10,11] (.aa [0,1,5,6,9,10,11] [m 20 1,m 21 5,w 22 (.indexAddr U2 20 21),w 23 (.load U2 22),w 7 (.ab 23)])) (.seq (.out [0,1,8,9,10,11] (.aa [0,1,6,7,9,10,11] [m 24 6,m 25 7,w 26 (.call 46 [24,25]),w 8 (.ab 26)])) (.seq (.out [0,1,8,9,10,11,28] (.aa [0,1,8,9,10,11] [m 27 8,w 28 (.bin .neq 27 (.c U2 0))])) (.out [0,1,4,9,10,11] (.cond (.t 28) (.seq (.out [4] (.aa [8] [m 29 8,w 4 (.ab 29)])) .ret) .skip))))))))) (.out [0,1,9,10,11] (.aa [0,1,9,10,11] [w 30 (.bin .add 11 (.c U2 1)),m 11 30])))))
def GG:AC:=.out [0,1,4] (.loop [0,1,9,10,11] GF)
def Pp:AC:=.out [0,1,4] (.block 0 GG)
def Pq:AC:=(.seq Po Pp)
def Pr:AC:=(.seq (.seq (.out [35] (.aa [0,1] [m 31 0,w 32 (.aX 31),m 33 1,w 34 (.aX 33),w 35 (.bin .lss 32 34)])) (.out [4] (.cond (.t 35) (.seq (.out [4] (.aa [] [w 4 (.ab (.c U2 (-1)))])) .ret) .skip))) (.seq (.out [4] (.aa [] [w 4 (.ab (.c U2 0))])) .ret))
def Ps:AC:=(.seq Pq Pr)
def GH:AC:=(.seq Pn Ps)
def GD:AC:=GH
def d47:FD:={nargs:=2,body:=GD,res:=[.t 4]}
def Ph:AC:=.out [3,6,7,8] (.aa [0,3] [m 6 0,w 7 (.aX 6),w 8 (.mv (.c U2 0))])
def GA:AC:=(.seq (.out [3,6,7,8,9] (.aa [3,6,7,8] [w 9 (.bin .lss 8 7)])) (.seq (.out [3,6,7,8] (.cond (.t 9) .skip (.exit 0))) (.seq (.out [2,3,6,7,8] (.block 1 (.seq (.out [3,5,6,7,8] (.aa [3,6,7,8] [w 10 (.indexAddr U2 6 8),w 11 (.load U2 10),w 5 (.ab 11)])) (.seq (.out [3,5,6,7,8,14] (.aa [3,5,6,7,8] [m 12 5,m 13 3,w 14 (.bin .neq 12 13)])) (.out [2,3,6,7,8] (.cond (.t 14) (.seq (.out [2] (.aa [5] [m 15 5,w 2 (.ab 15)])) .ret) .skip)))))) (.out [3,6,7,8] (.aa [3,6,7,8] [w 16 (.bin .add 8 (.c U2 1)),m 8 16])))))
def GB:AC:=.out [2,3] (.loop [3,6,7,8] GA)
def Pj:AC:=.out [2,3] (.block 0 GB)
def Pk:AC:=(.seq Ph Pj)
def Pl:AC:=(.seq (.out [2] (.aa [3] [m 17 3,w 2 (.ab 17)])) .ret)
def Bb:AC:=(.seq Pk Pl)
def Bc:AC:=(.seq (.out [0] (.aa [0] [w 2 (.ab (.c U2 0))])) (.seq (.out [0,3] (.aa [0] [w 3 (.ab (.c U2 0))])) Bb))
def Gz:AC:=Bc
def d45:FD:={nargs:=1,body:=Gz,res:=[.t 2]}
def Pg:AC:=(.seq (.out [0,1,2] (.aa [0,1,2] [w 5 (.ab (.c U2 0))])) (.seq (.out [5] (.draw [0,1,2] [⟨w 6 (.load ak 2),[7,9,10,13,14],[6],[],false,[]⟩,⟨m 7 0,[6,9,10,13,14],[7],[],false,[]⟩,⟨w 8 (.call 38 [6,7]),[9,10,13,14],[8],[0,1],false,[]⟩,⟨w 9 (.load ak 2),[6,7,8,10,13,14],[9],[],false,[]⟩,⟨m 10 1,[6,7,8,9,13,14],[10],[],false,[]⟩,⟨w 11 (.call 38 [9,10]),[13,14],[11],[0,1,2,3,4],false,[]⟩,⟨w 12 (.call 46 [8,11]),[13,14],[12],[0,1,2,3,4,5],false,[]⟩,⟨m 13 0,[6,7,8,9,10,11,12,14],[13],[],false,[]⟩,⟨m 14 1,[6,7,8,9,10,11,12,13],[14],[],false,[]⟩,⟨w 15 (.call 47 [13,14]),[],[15],[0,1,2,3,4,5,6,7,8],false,[]⟩,⟨w 16 (.buildSlice 3 U2 [12,15]),[],[16],[0,1,2,3,4,5,6,7,8,9],false,[]⟩,⟨w 17 (.call 45 [16]),[],[17],[0,1,2,3,4,5,6,7,8,9,10],false,[]⟩,⟨w 5 (.ab 17),[],[5],[0,1,2,3,4,5,6,7,8,9,10,11],false,[]⟩])) .ret))
def Gy:AC:=Pg
def d44:FD:={nargs:=3,body:=Gy,res:=[.t 5]}
def N1:AC:=(.seq (.out [1,2] (.aa [0,1] [w 2 (.box ak 0),w 4 (.ab (.nil 27 U5)),w 5 (.ab (.c U2 0))])) (.seq (.seq (.out [1,2,6] (.aa [1,2] [w 11 (.load ak 2),m 12 1,w 13 (.call 40 [11,12]),w 6 (.ab 13)])) (.seq (.out [1,2,6,15] (.aa [1,2,6] [m 14 6,w 15 (.bin .neq 14 (.c U2 0))])) (.out [1,2,4,5] (.cond (.t 15) (.seq (.out [4,5] (.aa [6] [m 16 6,w 4 (.ab (.nil 27 U5)),w 5 (.ab 16)])) .ret) .skip)))) (.seq (.out [2,7,21] (.aa [1,2] [w 17 (.load ak 2),m 18 1,w 19 (.De aZ U2),w 20 (.Ac bG [.r,.r,.l] 19 [([.l],17),([.r,.l],18)]),w 21 (.Ab bG 20),w 7 (.ab 21)])) (.seq (.out [2,7,8,21] (.aa [2,7,21] [w 22 (.build aZ [([.l],(.c U2 (-1))),([.r,.l],(.c U2 (-1))),([.r,.r,.l],(.c U2 0))]),w 8 (.alloc aZ .no),⟨none,.store aZ 8 22,none⟩])) (.seq (.seq (.out [2,7,8,9,21] (.aa [2,7,8,21] [m 23 7,w 24 (.load aZ 8),w 25 (.kX 41 23 [24]),w 9 (.ab 25)])) (.out [2,4,5,7,8,21] (.block 0 (.seq (.out [2,7,8,9,21,26] (.aa [2,7,8,9,21] [m 27 9,w 28 (.bin .eql 27 (.c U2 0)),w 26 (.ab 28)])) (.out [2,4,5,7,8,21] (.cond (.t 26) (.seq (.out [4,5] (.aa [] [w 4 (.ab (.nil 27 U5)),w 5 (.ab (.c U2 9))])) .ret) (.seq (.out [2,7,8,21,29] (.aa [2,7,8,9,21] [m 30 9,w 31 (.bin .gtr 30 (.c U2 200)),w 29 (.ab 31)])) (.out [2,4,5,7,8,21] (.cond (.t 29) (.seq (.out [4,5] (.aa [] [w 4 (.ab (.nil 27 U5)),w 5 (.ab (.c U2 3))])) .ret) .skip))))))))) (.seq (.out [2,10] (.aa [2,7,8,21] [m 32 7,w 33 (.load aZ 8),w 34 (.kX 42 32 [33]),w 10 (.ab 34)])) (.seq (.out [10] (.aa [2,10] [m 35 10,w 36 (.qH 44 zM U2 [2]),w 37 (.iX 43 35 36)])) (.seq (.out [4,5,10] (.aa [10] [m 38 10,w 4 (.ab 38),w 5 (.ab (.c U2 0))])) .ret))))))))
def FB:AC:=N1
def d16:FD:={nargs:=2,body:=FB,res:=[.t 4,.t 5]}
def Nn:AC:=(.seq (.out [1,2] (.aa [0,1] [w 2 (.box ak 0),w 4 (.ab (.nil 3 U2)),w 5 (.ab (.c U2 0)),w 6 (.ab (.c U2 0))])) (.seq (.out [2,7,8] (.aa [1,2] [w 10 (.load ak 2),m 11 1,w 12 (.call 16 [10,11]),m 9 12,w 13 (.extract 9 0),w 14 (.extract 9 1),w 7 (.ab 13),w 8 (.ab 14)])) (.seq (.seq (.out [2,7,8,16] (.aa [2,7,8] [m 15 8,w 16 (.bin .neq 15 (.c U2 0))])) (.out [2,4,5,6,7] (.cond (.t 16) (.seq (.out [4,5,6] (.aa [8] [m 17 8,w 4 (.ab (.nil 3 U2)),w 5 (.ab (.c U2 0)),w 6 (.ab 17)])) .ret) .skip))) (.seq (.out [4,5,6] (.draw [2,7] [⟨m 18 7,[21,22,23,24,25],[18],[],false,[]⟩,⟨w 19 (.indexAddr U5 18 (.c U2 0)),[21,22,23,24,25],[19],[0],false,[]⟩,⟨w 20 (.load U5 19),[21,22,23,24,25],[20],[0,1],false,[]⟩,⟨w 21 (.load ak 2),[18,19,20,22,23,24],[21],[],false,[]⟩,⟨m 22 7,[18,19,20,21],[22],[],false,[]⟩,⟨w 23 (.indexAddr U5 22 (.c U2 0)),[18,19,20,21],[23],[4],false,[]⟩,⟨w 24 (.load U5 23),[18,19,20,21],[24],[4,5],false,[]⟩,⟨w 25 (.call 38 [21,24]),[18,19,20],[25],[3,4,5,6],false,[]⟩,⟨w 4 (.ab 20),[],[4],[0,1,2,3,4,5,6,7],true,[]⟩,⟨w 5 (.ab 25),[],[5],[0,1,2,3,4,5,6,7,8],false,[]⟩,⟨w 6 (.ab (.c U2 0)),[],[6],[0,1,2,3,4,5,6,7,8,9],false,[]⟩])) .ret))))
def EP:AC:=Nn
def d13:FD:={nargs:=2,body:=EP,res:=[.p 4,.t 5,.t 6]}
def Pz:AC:=.out [2,6,9,10,11] (.aa [1,2,6] [m 9 1,w 10 (.aX 9),w 11 (.mv (.c U2 0))])
def GO:AC:=(.seq (.out [2,6,9,10,11,12] (.aa [2,6,9,10,11] [w 12 (.bin .lss 11 10)])) (.seq (.out [2,6,9,10,11] (.cond (.t 12) .skip (.exit 0))) (.seq (.out [2,4,5,6,9,10,11] (.block 1 (.seq (.out [2,6,8,9,10,11] (.aa [2,6,9,10,11] [w 13 (.indexAddr U2 9 11),w 14 (.load U2 13),w 8 (.ab 14)])) (.seq (.seq (.out [2,6,8,9,10,11,23] (.aa [2,6,8,9,10,11] [m 15 8,w 16 (.bin .lss 15 (.c U2 0)),m 17 16,⟨some 18,.mv 8,some (17,false)⟩,⟨some 19,.fieldAddr ak [.r,.l] 2,some (17,false)⟩,⟨some 20,.load bW 19,some (17,false)⟩,⟨some 21,.aX 20,some (17,false)⟩,⟨some 22,.bin .geq 18 21,some (17,false)⟩,w 23 (.pick 17 (.c .bool true) 22)])) (.out [2,4,5,6,8,9,10,11] (.cond (.t 23) (.seq (.out [4,5] (.aa [] [w 4 (.ab (.c .str [])),w 5 (.ab (.c .bool false))])) .ret) .skip))) (.out [2,6,9,10,11] (.aa [2,6,8,9,10,11] [w 24 (.fieldAddr ak [.r,.l] 2),w 25 (.load bW 24),m 26 8,w 27 (.indexAddr aC 25 26),w 28 (.fieldAddr aC [.l] 27),w 29 (.load .str 28),w 30 (.iC 84 6 29)])))))) (.out [2,6,9,10,11] (.aa [2,6,9,10,11] [w 31 (.bin .add 11 (.c U2 1)),m 11 31])))))
def GP:AC:=.out [4,5,6] (.loop [2,6,9,10,11] GO)
def PA:AC:=.out [4,5,6] (.block 0 GP)
def PB:AC:=(.seq Pz PA)
def PC:AC:=(.seq (.out [4,5] (.aa [6] [w 32 (.jJ 85 6),w 4 (.ab 32),w 5 (.ab (.c .bool true))])) .ret)
def Bf:AC:=(.seq PB PC)
def Bg:AC:=(.seq (.out [1,2] (.aa [0,1] [w 2 (.box ak 0),w 4 (.ab (.c .str [])),w 5 (.ab (.c .bool false))])) (.seq (.out [1,2,6] (.aa [1,2] [w 6 (.zd 123 5)])) Bf))
def GN:AC:=Bg
def d57:FD:={nargs:=2,body:=GN,res:=[.t 4,.t 5]}
def Py:AC:=(.seq (.out [1,2] (.aa [0,1] [w 2 (.box ak 0),w 4 (.ab (.c U2 0))])) (.seq (.seq (.out [1,2,5] (.aa [1,2] [w 8 (.load ak 2),w 9 (.call 70 [8]),w 5 (.ab 9)])) (.seq (.out [1,2,5,11] (.aa [1,2,5] [m 10 5,w 11 (.bin .neq 10 (.c U2 0))])) (.out [1,2,4] (.cond (.t 11) (.seq (.out [4] (.aa [5] [m 12 5,w 4 (.ab 12)])) .ret) .skip)))) (.seq (.seq (.out [1,2,15] (.aa [1,2] [m 13 1,w 14 (.aX 13),w 15 (.bin .gtr 14 (.c U2 16))])) (.out [1,2,4] (.cond (.t 15) (.seq (.out [4] (.aa [] [w 4 (.ab (.c U2 3))])) .ret) .skip))) (.seq (.seq (.out [7] (.aa [1,2] [w 17 (.load ak 2),m 18 1,w 19 (.call 57 [17,18]),m 16 19,w 20 (.extract 16 0),w 21 (.extract 16 1),w 6 (.ab 20),w 7 (.ab 21)])) (.seq (.out [23] (.aa [7] [m 22 7,w 23 (.un .not 22)])) (.out [4] (.cond (.t 23) (.seq (.out [4] (.aa [] [w 4 (.ab (.c U2 6))])) .ret) .skip)))) (.seq (.out [4] (.aa [] [w 4 (.ab (.c U2 0))])) .ret)))))
def GM:AC:=Py
def d55:FD:={nargs:=2,body:=GM,res:=[.t 4]}
def Ob:AC:=.out [2,7,8,17,18,19] (.aa [1,2,7,8] [m 17 1,w 18 (.aX 17),w 19 (.mv (.c U2 0))])
def Oc:AC:=.out [2,7,8,10,17,18,19] (.aa [2,7,8,17,18,19] [w 21 (.indexAddr U2 17 19),w 22 (.load U2 21),w 10 (.ab 22)])
def Oj:AC:=.out [2,7,8,10,17,18,19,29,30] (.aa [2,7,8,10,17,18,19] [w 23 (.fieldAddr ak [.r,.l] 2),w 24 (.load bW 23),m 25 10,w 26 (.indexAddr aC 24 25),w 27 (.fieldAddr aC [.r,.l] 26),w 28 (.load bt 27),w 29 (.aX 28),w 30 (.mv (.c U2 0))])
def FT:AC:=(.seq (.out [2,7,8,10,17,18,19,29,30,31] (.aa [2,7,8,10,17,18,19,29,30] [w 31 (.bin .lss 30 29)])) (.seq (.out [2,7,8,10,17,18,19,29,30] (.cond (.t 31) .skip (.exit 2))) (.seq (.out [2,7,8,10,17,18,19,29,30] (.block 3 (.out [2,7,8,10,17,18,19,29,30] (.aa [2,7,8,10,17,18,19,29,30] [m 32 7,m 33 8,w 34 (.buildSlice 3 U2 [33]),w 35 (.append 3 U2 17592186044416 32 34),w 7 (.ab 35)])))) (.out [2,7,8,10,17,18,19,29,30] (.aa [2,7,8,10,17,18,19,29,30] [w 36 (.bin .add 30 (.c U2 1)),m 30 36])))))
def FU:AC:=.out [2,7,8,10,17,18,19] (.loop [2,7,8,10,17,18,19,29,30] FT)
def Ol:AC:=.out [2,7,8,10,17,18,19] (.block 2 FU)
def Om:AC:=(.seq Oj Ol)
def On:AC:=.out [2,7,8,17,18,19] (.aa [2,7,8,10,17,18,19] [m 37 8,w 38 (.fieldAddr ak [.r,.l] 2),w 39 (.load bW 38),m 40 10,w 41 (.indexAddr aC 39 40),w 42 (.fieldAddr aC [.l] 41),w 43 (.load .str 42),w 44 (.bQ 43),w 45 (.bin .add 37 44),w 8 (.ab 45)])
def Oo:AC:=(.seq Om On)
def Oq:AC:=(.seq Oc Oo)
def Oe:AC:=.out [2,7,8,17,18,19] (.block 1 Oq)
def Of:AC:=.out [2,7,8,17,18,19] (.aa [2,7,8,17,18,19] [w 46 (.bin .add 19 (.c U2 1)),m 19 46])
def AS:AC:=(.seq Oe Of)
def uK:AC:=(.seq (.out [2,7,8,17,18,19,20] (.aa [2,7,8,17,18,19] [w 20 (.bin .lss 19 18)])) (.seq (.out [2,7,8,17,18,19] (.cond (.t 20) .skip (.exit 0))) AS))
def FR:AC:=.out [7] (.loop [2,7,8,17,18,19] uK)
def Og:AC:=.out [7] (.block 0 FR)
def Oh:AC:=(.seq Ob Og)
def Oi:AC:=(.seq (.out [4,5,7] (.aa [7] [m 47 7,w 4 (.ab 47),w 5 (.ab (.c U2 0))])) .ret)
def AT:AC:=(.seq Oh Oi)
def AU:AC:=(.seq (.out [1,2] (.aa [0,1] [w 2 (.box ak 0),w 4 (.ab (.nil 3 U2)),w 5 (.ab (.c U2 0))])) (.seq (.seq (.out [1,2,6] (.aa [1,2] [w 11 (.load ak 2),m 12 1,w 13 (.call 55 [11,12]),w 6 (.ab 13)])) (.seq (.out [1,2,6,15] (.aa [1,2,6] [m 14 6,w 15 (.bin .neq 14 (.c U2 0))])) (.out [1,2,4,5] (.cond (.t 15) (.seq (.out [4,5] (.aa [6] [m 16 6,w 4 (.ab (.nil 3 U2)),w 5 (.ab 16)])) .ret) .skip)))) (.seq (.out [1,2,7] (.aa [1,2] [w 7 (.ab (.nil 3 U2))])) (.seq (.out [1,2,7,8] (.aa [1,2,7] [w 8 (.ab (.c U2 0))])) AT))))
def FQ:AC:=AU
def d24:FD:={nargs:=2,body:=FQ,res:=[.t 4,.t 5]}
def N6:AC:=.out [1,2,7,8,25,26,27] (.aa [1,2,7,8] [m 25 7,w 26 (.aX 25),w 27 (.mv (.c U2 0))])
def FL:AC:=(.seq (.out [1,2,7,8,9,25,26,27,36,37,38,39] (.aa [1,2,7,8,9,25,26,27,36,37,38] [w 39 (.bin .lss 38 37)])) (.seq (.out [1,2,7,8,9,25,26,27,36,37,38] (.cond (.t 39) .skip (.exit 2))) (.seq (.out [1,2,7,8,9,25,26,27,36,37,38] (.block 3 (.seq (.out [1,2,7,8,9,12,25,26,27,36,37,38] (.aa [1,2,7,8,9,25,26,27,36,37,38] [w 40 (.indexAddr aC 36 38),w 41 (.load aC 40),w 12 (.alloc aC (.pair .no (.pair (.own true 40 .no) (.pair .no (.pair .no .no))))),⟨none,.store aC 12 41,none⟩])) (.seq (.out [1,2,7,8,9,12,25,26,27,36,37,38,47] (.draw [1,2,7,8,9,12,25,26,27,36,37,38] [⟨m 42 1,[43,45,46],[42],[],false,[]⟩,⟨m 43 9,[42,45,46],[43],[],false,[]⟩,⟨w 44 (.jL 42 (some 43) none),[45,46],[44],[0,1],false,[]⟩,⟨w 45 (.fieldAddr aC [.l] 12),[42,43,44],[45],[],false,[]⟩,⟨w 46 (.load .str 45),[42,43,44],[46],[3],false,[]⟩,⟨w 47 (.call 54 [44,46]),[],[47],[0,1,2,3,4],false,[]⟩])) (.out [1,2,7,8,9,25,26,27,36,37,38] (.cond (.t 47) (.out [1,2,7,8,9,25,26,27,36,37,38] (.aa [1,2,7,8,9,12,25,26,27,36,37,38] [m 48 7,m 49 9,w 50 (.fieldAddr aC [.l] 12),w 51 (.load .str 50),w 52 (.bQ 51),w 53 (.bin .add 49 52),w 54 (.indexAddr .bool 48 53),⟨none,.store .bool 54 (.c .bool true),none⟩])) .skip)))))) (.out [1,2,7,8,9,25,26,27,36,37,38] (.aa [1,2,7,8,9,25,26,27,36,37,38] [w 55 (.bin .add 38 (.c U2 1)),m 38 55])))))
def FM:AC:=.out [1,2,7,8,25,26,27] (.loop [1,2,7,8,9,25,26,27,36,37,38] FL)
def AQ:AC:=.out [1,2,7,8,25,26,27] (.block 2 FM)
def FN:AC:=(.seq (.out [1,2,7,8,9,10,25,26,27] (.aa [1,2,7,8,25,26,27] [m 29 27,w 30 (.indexAddr .bool 25 27),w 31 (.load .bool 30),w 9 (.ab 29),w 10 (.ab 31)])) (.seq (.seq (.out [1,2,7,8,9,25,26,27,33] (.aa [1,2,7,8,9,10,25,26,27] [m 32 10,w 33 (.un .not 32)])) (.out [1,2,7,8,9,25,26,27] (.cond (.t 33) (.exit 1) .skip))) (.seq (.out [1,2,7,8,9,25,26,27] (.aa [1,2,7,9,25,26,27] [m 34 9,w 8 (.ab 34)])) (.seq (.out [1,2,7,8,9,25,26,27,36,37,38] (.aa [1,2,7,8,9,25,26,27] [w 35 (.fieldAddr ak [.r,.l] 2),w 36 (.load bW 35),w 37 (.aX 36),w 38 (.mv (.c U2 0))])) AQ))))
def FO:AC:=.out [1,2,7,8,25,26,27] (.block 1 FN)
def Oa:AC:=.out [1,2,7,8,25,26,27] (.aa [1,2,7,8,25,26,27] [w 56 (.bin .add 27 (.c U2 1)),m 27 56])
def AR:AC:=(.seq FO Oa)
def uJ:AC:=(.seq (.out [1,2,7,8,25,26,27,28] (.aa [1,2,7,8,25,26,27] [w 28 (.bin .lss 27 26)])) (.seq (.out [1,2,7,8,25,26,27] (.cond (.t 28) .skip (.exit 0))) AR))
def FP:AC:=.out [8] (.loop [1,2,7,8,25,26,27] uJ)
def N7:AC:=.out [8] (.block 0 FP)
def N8:AC:=(.seq N6 N7)
def N9:AC:=(.seq (.out [4,5] (.aa [8] [m 57 8,w 4 (.ab 57),w 5 (.ab (.c U2 0))])) .ret)
def AO:AC:=(.seq N8 N9)
def AP:AC:=(.seq (.out [1,2] (.aa [0,1] [w 2 (.box ak 0),w 4 (.ab (.c U2 0)),w 5 (.ab (.c U2 0))])) (.seq (.seq (.out [1,2,6] (.aa [1,2] [w 13 (.load ak 2),m 14 1,w 15 (.call 40 [13,14]),w 6 (.ab 15)])) (.seq (.out [1,2,6,17] (.aa [1,2,6] [m 16 6,w 17 (.bin .neq 16 (.c U2 0))])) (.out [1,2,4,5] (.cond (.t 17) (.seq (.out [4,5] (.aa [6] [m 18 6,w 4 (.ab (.c U2 0)),w 5 (.ab 18)])) .ret) .skip)))) (.seq (.out [1,2,7] (.aa [1,2] [m 19 1,w 20 (.bQ 19),w 21 (.bin .add 20 (.c U2 1)),w 22 (.mkSlice 4 .bool 140737488355328 21 21),w 7 (.ab 22)])) (.seq (.out [1,2,7] (.aa [1,2,7] [m 23 7,w 24 (.indexAddr .bool 23 (.c U2 0)),⟨none,.store .bool 24 (.c .bool true),none⟩])) (.seq (.out [1,2,7,8] (.aa [1,2,7] [w 8 (.ab (.c U2 0))])) AO)))))
def FK:AC:=AP
def d20:FD:={nargs:=2,body:=FK,res:=[.t 4,.t 5]}
def Pt:AC:=.out [0,1,5] (.aa [0,1] [w 5 (.ab (.c U2 0))])
def GJ:AC:=(.seq (.seq (.out [0,1,5,14] (.aa [0,1,5] [m 11 5,m 12 0,w 13 (.aX 12),w 14 (.bin .lss 11 13)])) (.out [0,1,5] (.cond (.t 14) .skip (.exit 0)))) (.seq (.out [0,1,4,5] (.block 1 (.seq (.out [0,1,5,25] (.draw [0,1,5] [⟨m 17 0,[18,21,22,23,24],[17],[],false,[]⟩,⟨m 18 5,[17,21,22,23,24],[18],[],false,[]⟩,⟨w 19 (.indexAddr U2 17 18),[21,22,23,24],[19],[0,1],false,[]⟩,⟨w 20 (.load U2 19),[21,22,23,24],[20],[0,1,2],false,[]⟩,⟨m 21 1,[17,18,19,20,22],[21],[],false,[]⟩,⟨m 22 5,[17,18,19,20,21],[22],[],false,[]⟩,⟨w 23 (.indexAddr U2 21 22),[17,18,19,20],[23],[4,5],false,[]⟩,⟨w 24 (.load U2 23),[17,18,19,20],[24],[4,5,6],false,[]⟩,⟨w 25 (.bin .neq 20 24),[],[25],[0,1,2,3,4,5,6,7],false,[]⟩])) (.out [0,1,4,5] (.cond (.t 25) (.seq (.out [4] (.aa [] [w 4 (.ab (.c .bool false))])) .ret) .skip))))) (.out [0,1,5] (.aa [0,1,5] [m 15 5,w 16 (.bin .add 15 (.c U2 1)),w 5 (.ab 16)]))))
def GK:AC:=.out [4] (.loop [0,1,5] GJ)
def Pu:AC:=.out [4] (.block 0 GK)
def Pv:AC:=(.seq Pt Pu)
def Pw:AC:=(.seq (.out [4] (.aa [] [w 4 (.ab (.c .bool true))])) .ret)
def Bd:AC:=(.seq Pv Pw)
def Be:AC:=(.seq (.out [0,1] (.aa [0,1] [w 4 (.ab (.c .bool false))])) (.seq (.seq (.out [0,1,10] (.aa [0,1] [m 6 0,w 7 (.aX 6),m 8 1,w 9 (.aX 8),w 10 (.bin .neq 7 9)])) (.out [0,1,4] (.cond (.t 10) (.seq (.out [4] (.aa [] [w 4 (.ab (.c .bool false))])) .ret) .skip))) Bd))
def GI:AC:=Be
def d53:FD:={nargs:=2,body:=GI,res:=[.t 4]}
def N2:AC:=.out [0,1,5] (.aa [0,1] [w 5 (.ab (.c U2 0))])
def FI:AC:=(.seq (.seq (.out [0,1,5,14] (.aa [0,1,5] [m 11 5,m 12 0,w 13 (.aX 12),w 14 (.bin .lss 11 13)])) (.out [0,1,5] (.cond (.t 14) .skip (.exit 0)))) (.seq (.out [0,1,4,5] (.block 1 (.seq (.out [0,1,5,26] (.draw [0,1,5] [⟨m 17 0,[18,21,22,23,24],[17],[],false,[]⟩,⟨m 18 5,[17,21,22,23,24],[18],[],false,[]⟩,⟨w 19 (.indexAddr U5 17 18),[21,22,23,24],[19],[0,1],false,[]⟩,⟨w 20 (.load U5 19),[21,22,23,24],[20],[0,1,2],false,[]⟩,⟨m 21 1,[17,18,19,20,22],[21],[],false,[]⟩,⟨m 22 5,[17,18,19,20,21],[22],[],false,[]⟩,⟨w 23 (.indexAddr U5 21 22),[17,18,19,20],[23],[4,5],false,[]⟩,⟨w 24 (.load U5 23),[17,18,19,20],[24],[4,5,6],false,[]⟩,⟨w 25 (.call 53 [20,24]),[],[25],[0,1,2,3,4,5,6,7],false,[]⟩,⟨w 26 (.un .not 25),[],[26],[0,1,2,3,4,5,6,7,8],false,[]⟩])) (.out [0,1,4,5] (.cond (.t 26) (.seq (.out [4] (.aa [] [w 4 (.ab (.c .bool false))])) .ret) .skip))))) (.out [0,1,5] (.aa [0,1,5] [m 15 5,w 16 (.bin .add 15 (.c U2 1)),w 5 (.ab 16)]))))
def FJ:AC:=.out [4] (.loop [0,1,5] FI)
def N3:AC:=.out [4] (.block 0 FJ)
def N4:AC:=(.seq N2 N3)
def N5:AC:=(.seq (.out [4] (.aa [] [w 4 (.ab (.c .bool true))])) .ret)
def AM:AC:=(.seq N4 N5)
def AN:AC:=(.seq (.out [0,1] (.aa [0,1] [w 4 (.ab (.c .bool false))])) (.seq (.seq (.out [0,1,10] (.aa [0,1] [m 6 0,w 7 (.aX 6),m 8 1,w 9 (.aX 8),w 10 (.bin .neq 7 9)])) (.out [0,1,4] (.cond (.t 10) (.seq (.out [4] (.aa [] [w 4 (.ab (.c .bool false))])) .ret) .skip))) AM))
def FH:AC:=AN
def d19:FD:={nargs:=2,body:=FH,res:=[.t 4]}
def NR:AC:=.out [0,1,12,13] (.aa [0,1] [m 11 0,w 12 (.aX 11),w 13 (.mv (.c U2 0))])
def Fy:AC:=(.seq (.out [0,1,12,13,14] (.aa [0,1,12,13] [w 14 (.bin .lss 13 12)])) (.seq (.out [0,1,12,13] (.cond (.t 14) .skip (.exit 0))) (.seq (.out [0,1,4,12,13] (.block 1 (.seq (.out [0,1,5,12,13] (.aa [0,1,12,13] [m 15 13,w 5 (.ab 15)])) (.seq (.out [0,1,12,13,24] (.draw [0,1,5,12,13] [⟨m 16 0,[17,20,21,22,23],[16],[],false,[]⟩,⟨m 17 5,[16,20,21,22,23],[17],[],false,[]⟩,⟨w 18 (.indexAddr U2 16 17),[20,21,22,23],[18],[0,1],false,[]⟩,⟨w 19 (.load U2 18),[20,21,22,23],[19],[0,1,2],false,[]⟩,⟨m 20 1,[16,17,18,19,21],[20],[],false,[]⟩,⟨m 21 5,[16,17,18,19,20],[21],[],false,[]⟩,⟨w 22 (.indexAddr U2 20 21),[16,17,18,19],[22],[4,5],false,[]⟩,⟨w 23 (.load U2 22),[16,17,18,19],[23],[4,5,6],false,[]⟩,⟨w 24 (.bin .neq 19 23),[],[24],[0,1,2,3,4,5,6,7],false,[]⟩])) (.out [0,1,4,12,13] (.cond (.t 24) (.seq (.out [4] (.aa [] [w 4 (.ab (.c .bool false))])) .ret) .skip)))))) (.out [0,1,12,13] (.aa [0,1,12,13] [w 25 (.bin .add 13 (.c U2 1)),m 13 25])))))
def FA:AC:=.out [4] (.loop [0,1,12,13] Fy)
def NS:AC:=.out [4] (.block 0 FA)
def NT:AC:=(.seq NR NS)
def NU:AC:=(.seq (.out [4] (.aa [] [w 4 (.ab (.c .bool true))])) .ret)
def AK:AC:=(.seq NT NU)
def AL:AC:=(.seq (.out [0,1] (.aa [0,1] [w 4 (.ab (.c .bool false))])) (.seq (.seq (.out [0,1,10] (.aa [0,1] [m 6 0,w 7 (.aX 6),m 8 1,w 9 (.aX 8),w 10 (.bin .neq 7 9)])) (.out [0,1,4] (.cond (.t 10) (.seq (.out [4] (.aa [] [w 4 (.ab (.c .bool false))])) .ret) .skip))) AK))
def Fi:AC:=AL
def d15:FD:={nargs:=2,body:=Fi,res:=[.t 4]}
def MN:AC:=(.seq (.out [] (.aa [] [w 0 (.ab (.c .bool false))])) (.seq (.out [1] (.aa [] [w 13 (.call 37 []),w 1 (.alloc ak (.pair .no (.pair (.own true 43 .no) .no))),⟨none,.store ak 1 13,none⟩])) (.seq (.out [1,2,3] (.aa [1] [w 15 (.load ak 1),w 16 (.call 16 [15,(.c .str [97,114,109,97])]),m 14 16,w 17 (.extract 14 0),w 18 (.extract 14 1),w 2 (.ab 17),w 3 (.ab 18)])) (.seq (.out [1,2,3,4,5] (.aa [1,2,3] [w 20 (.load ak 1),w 21 (.call 16 [20,(.c .str [116,114,111,105,97,101])]),m 19 21,w 22 (.extract 19 0),w 23 (.extract 19 1),w 4 (.ab 22),w 5 (.ab 23)])) (.seq (.out [1,2,3,4,5,6,7,8] (.aa [1,2,3,4,5] [w 25 (.load ak 1),w 26 (.call 13 [25,(.c .str [105,97,109])]),m 24 26,w 27 (.extract 24 0),w 28 (.extract 24 1),w 29 (.extract 24 2),w 6 (.ab 27),w 7 (.ab 28),w 8 (.ab 29)])) (.seq (.out [1,2,3,4,5,6,7,8,9,10] (.aa [1,2,3,4,5,6,7,8] [w 31 (.load ak 1),w 32 (.buildSlice 3 U2 [(.c U2 38),(.c U2 40),(.c U2 3),(.c U2 23),(.c U2 18)]),w 33 (.call 24 [31,32]),m 30 33,w 34 (.extract 30 0),w 35 (.extract 30 1),w 9 (.ab 34),w 10 (.ab 35)])) (.seq (.out [2,3,4,5,6,7,8,9,10,11,12] (.aa [1,2,3,4,5,6,7,8,9,10] [w 37 (.load ak 1),w 38 (.call 20 [37,(.c .str [97,114,109,113])]),m 36 38,w 39 (.extract 36 0),w 40 (.extract 36 1),w 11 (.ab 39),w 12 (.ab 40)])) (.seq (.seq (.out [2,4,6,9,66] (.aa [2,3,4,5,6,7,8,9,10,11,12] [m 41 3,w 42 (.bin .neq 41 (.c U2 0)),m 43 42,⟨some 44,.mv 5,some (43,false)⟩,⟨some 45,.bin .neq 44 (.c U2 0),some (43,false)⟩,w 46 (.pick 43 (.c .bool true) 45),m 47 46,⟨some 48,.mv 8,some (47,false)⟩,⟨some 49,.bin .neq 48 (.c U2 0),some (47,false)⟩,w 50 (.pick 47 (.c .bool true) 49),m 51 50,⟨some 52,.mv 10,some (51,false)⟩,⟨some 53,.bin .neq 52 (.c U2 0),some (51,false)⟩,w 54 (.pick 51 (.c .bool true) 53),m 55 54,⟨some 56,.mv 12,some (55,false)⟩,⟨some 57,.bin .neq 56 (.c U2 0),some (55,false)⟩,w 58 (.pick 55 (.c .bool true) 57),m 59 58,⟨some 60,.mv 11,some (59,false)⟩,⟨some 61,.bin .neq 60 (.c U2 3),some (59,false)⟩,w 62 (.pick 59 (.c .bool true) 61),m 63 62,⟨some 64,.mv 7,some (63,false)⟩,⟨some 65,.bin .neq 64 (.c U2 1),some (63,false)⟩,w 66 (.pick 63 (.c .bool true) 65)])) (.out [0,2,4,6,9] (.cond (.t 66) (.seq (.out [0] (.aa [] [w 0 (.ab (.c .bool false))])) .ret) .skip))) (.seq (.out [0] (.aa [2,4,6,9] [m 67 2,w 68 (.buildSlice 3 U2 [(.c U2 0),(.c U2 40),(.c U2 41),(.c U2 0)]),w 69 (.buildSlice 27 U5 [68]),w 70 (.call 19 [67,69]),m 71 70,⟨some 72,.mv 4,some (71,true)⟩,⟨some 73,.buildSlice 3 U2 [(.c U2 38),(.c U2 40),(.c U2 3),(.c U2 23),(.c U2 18)],some (71,true)⟩,⟨some 74,.buildSlice 3 U2 [(.c U2 38),(.c U2 40),(.c U2 3),(.c U2 2),(.c U2 18)],some (71,true)⟩,⟨some 75,.buildSlice 3 U2 [(.c U2 38),(.c U2 40),(.c U2 3),(.c U2 23),(.c U2 0),(.c U2 1)],some (71,true)⟩,⟨some 76,.buildSlice 3 U2 [(.c U2 38),(.c U2 40),(.c U2 3),(.c U2 2),(.c U2 0),(.c U2 1)],some (71,true)⟩,⟨some 77,.buildSlice 27 U5 [73,74,75,76],some (71,true)⟩,⟨some 78,.call 19 [72,77],some (71,true)⟩,w 79 (.pick 71 78 (.c .bool false)),m 80 79,⟨some 81,.mv 6,some (80,true)⟩,⟨some 82,.buildSlice 3 U2 [(.c U2 22),(.c U2 0),(.c U2 41)],some (80,true)⟩,⟨some 83,.call 15 [81,82],some (80,true)⟩,w 84 (.pick 80 83 (.c .bool false)),m 85 84,⟨some 86,.mv 9,some (85,true)⟩,⟨some 87,.buildSlice 3 U2 [(.c U2 0),(.c U2 1),(.c U2 2),(.c U2 3),(.c U2 3),(.c U2 4)],some (85,true)⟩,⟨some 88,.call 15 [86,87],some (85,true)⟩,w 89 (.pick 85 88 (.c .bool false)),w 0 (.ab 89)])) .ret)))))))))
def Ee:AC:=MN
def d11:FD:={nargs:=0,body:=Ee,res:=[.t 0]}
def PK:AC:=(.seq (.out [0] (.aa [] [w 0 (.alloc ak (.pair .no (.pair (.own true 43 .no) .no)))])) (.seq (.out [0,1] (.aa [0] [w 5 (.call 69 [(.c .str [111,114,116,104,111,103,114,97,112,104,121,32,103,114,101,101,107,10,97,32,97,47,118,51,32,49,32,97,110,121,119,104,101,114,101,10,105,32,105,47,118,51,32,49,32,97,110,121,119,104,101,114,101,10,117,32,117,47,118,51,32,49,32,97,110,121,119,104,101,114,101,10,97,95,32,97,95,47,118,50,32,49,32,97,110,121,119,104,101,114,101,10,105,95,32,105,95,47,118,50,32,49,32,97,110,121,119,104,101,114,101,10,117,95,32,117,95,47,118,50,32,49,32,97,110,121,119,104,101,114,101,10,97,94,32,97,94,47,118,49,32,49,32,97,110,121,119,104,101,114,101,10,105,94,32,105,94,47,118,49,32,49,32,97,110,121,119,104,101,114,101,10,117,94,32,117,94,47,118,49,32,49,32,97,110,121,119,104,101,114,101,10,101,32,101,47,118,49,32,49,32,97,110,121,119,104,101,114,101,10,111,32,111,47,118,49,32,49,32,97,110,121,119,104,101,114,101,10,101,95,32,101,95,47,118,50,32,49,32,97,110,121,119,104,101,114,101,10,111,95,32,111,95,47,118,50,32,49,32,97,110,121,119,104,101,114,101,10,97,105,32,97,105,47,100,50,32,49,32,97,110,121,119,104,101,114,101,10,97,117,32,97,117,47,100,50,32,49,32,97,110,121,119,104,101,114,101,10,101,105,32,101,105,47,100,50,32,49,32,97,110,121,119,104,101,114,101,10,101,117,32,101,117,47,100,50,32,49,32,97,110,121,119,104,101,114,101,10,111,105,32,111,105,47,100,50,32,49,32,97,110,121,119,104,101,114,101,10,111,117,32,111,117,47,100,50,32,49,32,97,110,121,119,104,101,114,101,10,117,105,32,117,105,47,100,50,32,49,32,97,110,121,119,104,101,114,101,10,112,104,32,112,104,47,109,32,48,32,97,110,121,119,104,101,114,101,10,116,104,32,116,104,47,109,32,48,32,97,110,121,119,104,101,114,101,10,107,104,32,107,104,47,109,32,48,32,97,110,121,119,104,101,114,101,10,112,32,112,47,109,32,48,32,97,110,121,119,104,101,114,101,10,116,32,116,47,109,32,48,32,97,110,121,119,104,101,114,101,10,107,32,107,47,109,32,48,32,97,110,121,119,104,101,114,101,10,98,32,98,47,109,32,48,32,97,110,121,119,104,101,114,101,10,100,32,100,47,109,32,48,32,97,110,121,119,104,101,114,101,10,103,32,103,47,109,32,48,32,97,110,121,119,104,101,114,101,10,114,104,32,114,104,47,108,32,48,32,97,110,121,119,104,101,114,101,10,108,32,108,47,108,32,48,32,97,110,121,119,104,101,114,101,10,114,32,114,47,108,32,48,32,97,110,121,119,104,101,114,101,10,109,32,109,47,110,32,48,32,97,110,121,119,104,101,114,101,10,110,32,110,47,110,32,48,32,97,110,121,119,104,101,114,101,10,115,32,115,47,115,32,48,32,97,110,121,119,104,101,114,101,10,112,115,32,112,115,47,120,32,48,32,97,110,121,119,104,101,114,101,10,107,115,32,107,115,47,120,32,48,32,97,110,121,119,104,101,114,101,10,120,32,120,47,120,32,48,32,97,110,121,119,104,101,114,101,10,122,32,122,47,120,32,48,32,97,110,121,119,104,101,114,101,10,104,32,104,47,98,32,48,32,115,116,97,114,116,10])]),m 4 5,w 6 (.extract 4 0),w 7 (.extract 4 1),w 8 (.extract 4 2),w 1 (.alloc ak (.pair .no (.pair (.own true 43 .no) .no))),⟨none,.store ak 1 6,none⟩,w 2 (.ab 7),w 3 (.ab 8)])) (.seq (.out [0] (.aa [0,1] [w 9 (.load ak 1),⟨none,.store ak 0 9,none⟩])) .ret)))
def GU:AC:=PK
def d64:FD:={nargs:=0,body:=GU,res:=[.cell 0 ak]}
def O0:AC:=(.seq (.out [1] (.aa [0] [w 1 (.box ak 0),w 2 (.ab (.c U2 0))])) (.seq (.out [4] (.aa [1] [w 6 (.load ak 1),w 7 (.call 67 [6]),m 5 7,w 8 (.extract 5 0),w 9 (.extract 5 1),w 3 (.ab 8),w 4 (.ab 9)])) (.seq (.out [2] (.aa [4] [m 10 4,w 2 (.ab 10)])) .ret)))
def Gg:AC:=O0
def d35:FD:={nargs:=1,body:=Gg,res:=[.t 2]}
def OE:AC:=.out [1,2,3,4] (.aa [1,2,3] [w 4 (.ab (.c U2 0))])
def F3:AC:=(.seq (.seq (.out [1,2,3,4,24] (.aa [1,2,3,4] [m 16 4,w 17 (.fieldAddr fx [.r,.l] 1),w 18 (.load U4 17),w 19 (.aX 18),w 20 (.bin .lss 16 19),m 21 20,⟨some 22,.mv 4,some (21,true)⟩,⟨some 23,.bin .lss 22 (.c U2 20),some (21,true)⟩,w 24 (.pick 21 23 (.c .bool false))])) (.out [1,2,3,4] (.cond (.t 24) .skip (.exit 0)))) (.seq (.out [1,2,3,4] (.block 1 (.seq (.out [1,2,3,4,5] (.draw [1,2,3,4] [⟨w 27 (.fieldAddr fx [.r,.l] 1),[29,33,34,35],[27],[],false,[]⟩,⟨w 28 (.load U4 27),[29,33,34,35],[28],[0],false,[]⟩,⟨m 29 4,[27,28,33,34,35],[29],[],false,[]⟩,⟨w 30 (.indexAddr U0 28 29),[33,34,35],[30],[0,1,2],false,[]⟩,⟨w 31 (.load U0 30),[33,34,35],[31],[0,1,2,3],false,[]⟩,⟨w 32 (.kN .i64 31),[33,34,35],[32],[0,1,2,3,4],false,[]⟩,⟨w 33 (.fieldAddr ak [.r,.l] 3),[27,28,29,30,31,32],[33],[],false,[]⟩,⟨w 34 (.load bW 33),[27,28,29,30,31,32],[34],[6],false,[]⟩,⟨w 35 (.aX 34),[27,28,29,30,31,32],[35],[6,7],false,[]⟩,⟨w 36 (.bin .rem 32 35),[],[36],[0,1,2,3,4,5,6,7,8],false,[]⟩,⟨w 5 (.ab 36),[],[5],[0,1,2,3,4,5,6,7,8,9],false,[]⟩])) (.seq (.seq (.out [1,2,3,4,5,6] (.aa [1,2,3,4,5] [w 37 (.fieldAddr ak [.r,.l] 3),w 38 (.load bW 37),m 39 5,w 40 (.indexAddr aC 38 39),w 41 (.fieldAddr aC [.l] 40),w 42 (.load .str 41),w 6 (.ab 42)])) (.seq (.out [1,2,3,4,5,62] (.aa [1,2,3,4,5,6] [m 43 6,w 44 (.bin .eql 43 (.c .str [97])),m 45 44,⟨some 46,.mv 6,some (45,false)⟩,⟨some 47,.bin .eql 46 (.c .str [101]),some (45,false)⟩,w 48 (.pick 45 (.c .bool true) 47),m 49 48,⟨some 50,.mv 6,some (49,false)⟩,⟨some 51,.bin .eql 50 (.c .str [114]),some (49,false)⟩,w 52 (.pick 49 (.c .bool true) 51),m 53 52,⟨some 54,.mv 6,some (53,false)⟩,⟨some 55,.bin .eql 54 (.c .str [116]),some (53,false)⟩,w 56 (.pick 53 (.c .bool true) 55),m 57 56,⟨some 58,.fieldAddr ak [.r,.l] 3,some (57,false)⟩,⟨some 59,.load bW 58,some (57,false)⟩,⟨some 60,.aX 59,some (57,false)⟩,⟨some 61,.bin .lss 60 (.c U2 8),some (57,false)⟩,w 62 (.pick 57 (.c .bool true) 61)])) (.out [1,2,3,4,5] (.cond (.t 62) (.exit 1) .skip)))) (.out [1,2,3,4] (.draw [1,2,3,4,5] [⟨w 63 (.buildSlice 43 aC []),[64,65,66,67,69,70,71,72,73],[63],[],false,[63]⟩,⟨w 64 (.fieldAddr ak [.r,.l] 3),[63,66,69,70,71,72,73],[64],[],false,[63]⟩,⟨w 65 (.load bW 64),[63,66,69,70,71,72,73],[65],[1],false,[63]⟩,⟨m 66 5,[63,64,65,69,70,71,72,73],[66],[],false,[63]⟩,⟨w 67 (.kF aC 65 none (some 66) none),[63,69,70,71,72,73],[67],[1,2,3],false,[63]⟩,⟨w 68 (.append 43 aC 2513169434916 63 67),[69,70,71,72,73],[63,67,68],[0,1,2,3,4],false,[63]⟩,⟨w 69 (.fieldAddr ak [.r,.l] 3),[63,64,65,66,67,68,71,72],[69],[],false,[63]⟩,⟨w 70 (.load bW 69),[63,64,65,66,67,68,71,72],[70],[6],false,[63]⟩,⟨m 71 5,[63,64,65,66,67,68,69,70],[71],[],false,[63]⟩,⟨w 72 (.bin .add 71 (.c U2 1)),[63,64,65,66,67,68,69,70],[72],[8],false,[63]⟩,⟨w 73 (.kF aC 70 (some 72) none none),[63,64,65,66,67,68],[73],[6,7,8,9],false,[63]⟩,⟨w 74 (.append 43 aC 2513169434916 68 73),[],[74],[0,1,2,3,4,5,6,7,8,9,10],true,[63]⟩,⟨w 75 (.fieldAddr ak [.r,.l] 3),[],[75],[0,1,2,3,4,5,6,7,8,9,10,11],false,[63]⟩,⟨⟨none,.Dz bW 75 74,none⟩,[],[3,75],[0,1,2,3,4,5,6,7,8,9,10,11,12],true,[63]⟩])))))) (.out [1,2,3,4] (.aa [1,2,3,4] [m 25 4,w 26 (.bin .add 25 (.c U2 1)),w 4 (.ab 26)]))))
def F4:AC:=.out [1,2,3] (.loop [1,2,3,4] F3)
def OH:AC:=.out [1,2,3] (.block 0 F4)
def OI:AC:=(.seq OE OH)
def OJ:AC:=.out [1,2,3,7] (.aa [1,2,3] [w 7 (.ab (.c U2 0))])
def F5:AC:=(.seq (.seq (.out [1,2,3,7,84] (.aa [1,2,3,7] [m 76 7,w 77 (.fieldAddr fx [.r,.r,.l] 1),w 78 (.load U4 77),w 79 (.aX 78),w 80 (.bin .lss 76 79),m 81 80,⟨some 82,.mv 7,some (81,true)⟩,⟨some 83,.bin .lss 82 (.c U2 6),some (81,true)⟩,w 84 (.pick 81 83 (.c .bool false))])) (.out [1,2,3,7] (.cond (.t 84) .skip (.exit 2)))) (.seq (.out [1,2,3,7] (.block 3 (.seq (.out [1,2,3,7,8] (.draw [1,2,3,7] [⟨w 87 (.fieldAddr ak [.r,.l] 3),[8,89,90,91,92,93,94,95,96,97,98],[87],[],false,[]⟩,⟨w 88 (.load bW 87),[8,89,90,91,92,93,94,95,96,97,98],[88],[0],false,[]⟩,⟨w 89 (.fieldAddr fx [.r,.r,.l] 1),[8,87,88,91,95,96,97],[89],[],false,[]⟩,⟨w 90 (.load U4 89),[8,87,88,91,95,96,97],[90],[2],false,[]⟩,⟨m 91 7,[8,87,88,89,90,95,96,97],[91],[],false,[]⟩,⟨w 92 (.indexAddr U0 90 91),[8,87,88,95,96,97],[92],[2,3,4],false,[]⟩,⟨w 93 (.load U0 92),[8,87,88,95,96,97],[93],[2,3,4,5],false,[]⟩,⟨w 94 (.kN .i64 93),[8,87,88,95,96,97],[94],[2,3,4,5,6],false,[]⟩,⟨w 95 (.fieldAddr ak [.r,.l] 3),[8,87,88,89,90,91,92,93,94],[95],[],false,[]⟩,⟨w 96 (.load bW 95),[8,87,88,89,90,91,92,93,94],[96],[8],false,[]⟩,⟨w 97 (.aX 96),[8,87,88,89,90,91,92,93,94],[97],[8,9],false,[]⟩,⟨w 98 (.bin .rem 94 97),[8,87,88],[98],[2,3,4,5,6,7,8,9,10],false,[]⟩,⟨w 99 (.indexAddr aC 88 98),[8],[99],[0,1,2,3,4,5,6,7,8,9,10,11],false,[]⟩,⟨w 100 (.load aC 99),[8],[100],[0,1,2,3,4,5,6,7,8,9,10,11,12],false,[]⟩,⟨w 8 (.alloc aC (.pair .no (.pair (.own true 40 .no) (.pair .no (.pair .no .no))))),[87,88,89,90,91,92,93,94,95,96,97,98,99,100],[8],[],false,[]⟩,⟨⟨none,.store aC 8 100,none⟩,[],[8],[0,1,2,3,4,5,6,7,8,9,10,11,12,13,14],true,[]⟩])) (.seq (.out [1,2,3,7,8] (.aa [1,2,3,7,8] [w 101 (.fieldAddr fx [.r,.r,.l] 1),w 102 (.load U4 101),m 103 7,w 104 (.indexAddr U0 102 103),w 105 (.load U0 104),w 106 (.bin .quo 105 (.c U0 16)),w 107 (.kN .i64 106),w 108 (.bin .rem 107 (.c U2 5)),w 109 (.fieldAddr aC [.r,.r,.r,.l] 8),⟨none,.store U2 109 108,none⟩])) (.seq (.out [1,2,3,7,8] (.aa [1,2,3,7,8] [w 110 (.fieldAddr fx [.r,.r,.l] 1),w 111 (.load U4 110),m 112 7,w 113 (.indexAddr U0 111 112),w 114 (.load U0 113),w 115 (.kN .i64 114),w 116 (.bin .rem 115 (.c U2 5)),w 117 (.fieldAddr aC [.r,.r,.l] 8),⟨none,.store U2 117 116,none⟩])) (.seq (.out [1,2,3,7,9] (.draw [1,2,3,7,8] [⟨w 118 (.fieldAddr ak [.l] 3),[9,120,121,122,123,124,125,126],[118],[],false,[120,123]⟩,⟨w 119 (.load .str 118),[9,120,121,122,123,124,125,126],[119],[0],false,[120,123]⟩,⟨w 120 (.buildSlice 43 aC []),[9,118,119,121,122,124,125],[120],[],false,[120,123]⟩,⟨w 121 (.fieldAddr ak [.r,.l] 3),[9,118,119,120,124,125],[121],[],false,[120,123]⟩,⟨w 122 (.load bW 121),[9,118,119,120,124,125],[122],[3],false,[120,123]⟩,⟨w 123 (.append 43 aC 2513169434916 120 122),[9,118,119,124,125],[120,123],[2,3,4],false,[120,123]⟩,⟨w 124 (.load aC 8),[9,118,119,120,121,122,123],[124],[],false,[120,123]⟩,⟨w 125 (.buildSlice 43 aC [124]),[9,118,119,120,121,122,123],[125],[6],false,[120,123]⟩,⟨w 126 (.append 43 aC 2513169434916 123 125),[9,118,119],[123,125,126],[2,3,4,5,6,7],false,[120,123]⟩,⟨w 127 (.build ak [([.l],119),([.r,.l],126)]),[9],[126,127],[0,1,2,3,4,5,6,7,8],false,[120,123]⟩,⟨w 9 (.alloc ak (.pair .no (.pair (.own true 43 .no) .no))),[118,119,120,121,122,123,124,125,126,127],[9],[],false,[120,123]⟩,⟨⟨none,.store ak 9 127,none⟩,[],[9],[0,1,2,3,4,5,6,7,8,9,10],true,[120,123]⟩])) (.seq (.out [1,2,3,7,9,130] (.aa [1,2,3,7,9] [w 128 (.load ak 9),w 129 (.call 35 [128]),w 130 (.bin .eql 129 (.c U2 0))])) (.out [1,2,3,7] (.cond (.t 130) (.out [1,2,3,7] (.aa [1,2,3,7,9] [w 131 (.load ak 9),⟨none,.store ak 3 131,none⟩])) .skip))))))))) (.out [1,2,3,7] (.aa [1,2,3,7] [m 85 7,w 86 (.bin .add 85 (.c U2 1)),w 7 (.ab 86)]))))
def F6:AC:=.out [2,3] (.loop [1,2,3,7] F5)
def OK:AC:=.out [2,3] (.block 2 F6)
def OL:AC:=(.seq OJ OK)
def OF:AC:=(.seq (.out [2] (.aa [2,3] [w 132 (.load ak 3),⟨none,.store ak 2 132,none⟩])) .ret)
def OG:AC:=(.seq OL OF)
def AX:AC:=(.seq OI OG)
def AY:AC:=(.seq (.out [1,2] (.aa [0] [w 1 (.box fx 0),w 2 (.alloc ak (.pair .no (.pair (.own true 43 .no) .no)))])) (.seq (.out [1,2,3] (.aa [1,2] [w 10 (.call 37 []),w 3 (.alloc ak (.pair .no (.pair (.own true 43 .no) .no))),⟨none,.store ak 3 10,none⟩])) (.seq (.seq (.out [1,2,3,14] (.aa [1,2,3] [w 11 (.fieldAddr fx [.l] 1),w 12 (.load U0 11),w 13 (.bin .rem 12 (.c U0 2)),w 14 (.bin .eql 13 (.c U0 1))])) (.out [1,2,3] (.cond (.t 14) (.out [1,2,3] (.aa [1,2,3] [w 15 (.call 64 []),⟨none,.store ak 3 15,none⟩])) .skip))) AX)))
def F2:AC:=AY
def d32:FD:={nargs:=1,body:=F2,res:=[.cell 2 ak]}
def OM:AC:=.out [0,3,9,10,11] (.aa [0,3] [m 9 0,w 10 (.aX 9),w 11 (.mv (.c U2 0))])
def F8:AC:=(.seq (.out [0,3,9,10,11,12] (.aa [0,3,9,10,11] [w 12 (.bin .lss 11 10)])) (.seq (.out [0,3,9,10,11] (.cond (.t 12) .skip (.exit 0))) (.seq (.out [0,3,9,10,11] (.block 1 (.seq (.out [0,3,5,9,10,11] (.aa [0,3,9,10,11] [w 13 (.indexAddr bW 9 11),w 14 (.load bW 13),w 5 (.ab 14)])) (.seq (.out [0,3,9,10,11] (.aa [0,3,5,9,10,11] [m 15 3,m 16 5,w 17 (.aX 16),w 18 (.bin .add 15 17),w 3 (.ab 18)])) (.seq (.out [0,3,9,10,11,20] (.aa [0,3,9,10,11] [m 19 3,w 20 (.bin .lss 19 (.c U2 0))])) (.out [0,3,9,10,11] (.cond (.t 20) (.out [] (.aa [0,3,9,10,11] [w 21 (.bad),⟨none,.bad,none⟩])) .skip))))))) (.out [0,3,9,10,11] (.aa [0,3,9,10,11] [w 22 (.bin .add 11 (.c U2 1)),m 11 22])))))
def F9:AC:=.out [0,3] (.loop [0,3,9,10,11] F8)
def OR:AC:=.out [0,3] (.block 0 F9)
def OS:AC:=(.seq OM OR)
def OT:AC:=.out [0,6] (.aa [0,3] [m 23 3,w 24 (.BJ 65 [23]),w 6 (.ab 24)])
def OU:AC:=.out [6,25,26,27] (.aa [0,6] [m 25 0,w 26 (.aX 25),w 27 (.mv (.c U2 0))])
def Ga:AC:=(.seq (.out [6,25,26,27,28] (.aa [6,25,26,27] [w 28 (.bin .lss 27 26)])) (.seq (.out [6,25,26,27] (.cond (.t 28) .skip (.exit 2))) (.seq (.out [6,25,26,27] (.block 3 (.seq (.out [6,8,25,26,27] (.aa [6,25,26,27] [w 29 (.indexAddr bW 25 27),w 30 (.load bW 29),w 8 (.ab 30)])) (.out [6,25,26,27] (.aa [6,8,25,26,27] [m 31 6,m 32 8,w 33 (.append 43 aC 2513169434916 31 32),w 6 (.ab 33)]))))) (.out [6,25,26,27] (.aa [6,25,26,27] [w 34 (.bin .add 27 (.c U2 1)),m 27 34])))))
def Gb:AC:=.out [6] (.loop [6,25,26,27] Ga)
def OV:AC:=.out [6] (.block 2 Gb)
def ON:AC:=(.seq OU OV)
def OO:AC:=(.seq (.out [2,6] (.aa [6] [m 35 6,w 2 (.ab 35)])) .ret)
def OP:AC:=(.seq ON OO)
def OQ:AC:=(.seq OT OP)
def AZ:AC:=(.seq OS OQ)
def A0:AC:=(.seq (.out [0] (.aa [0] [w 2 (.ab (.nil 43 aC))])) (.seq (.out [0,3] (.aa [0] [w 3 (.ab (.c U2 0))])) AZ))
def F7:AC:=A0
def d33:FD:={nargs:=1,body:=F7,res:=[.t 2]}
def PL:AC:=.out [0,5] (.aa [0] [w 5 (.ab (.c U2 0))])
def GW:AC:=(.seq (.seq (.out [0,5,13] (.aa [0,5] [m 10 5,m 11 0,w 12 (.aX 11),w 13 (.bin .lss 10 12)])) (.out [0,5] (.cond (.t 13) .skip (.exit 0)))) (.seq (.out [0,4,5] (.block 1 (.seq (.out [0,5,22] (.aa [0,5] [m 16 0,m 17 5,w 18 (.indexAddr aD 16 17),w 19 (.fieldAddr aD [.r,.r,.l] 18),w 20 (.load .str 19),w 21 (.bQ 20),w 22 (.bin .gtr 21 (.c U2 40))])) (.out [0,4,5] (.cond (.t 22) (.seq (.out [4] (.aa [] [w 4 (.ab (.c .bool false))])) .ret) .skip))))) (.out [0,5] (.aa [0,5] [m 14 5,w 15 (.bin .add 14 (.c U2 1)),w 5 (.ab 15)]))))
def GX:AC:=.out [4] (.loop [0,5] GW)
def PM:AC:=.out [4] (.block 0 GX)
def PN:AC:=(.seq PL PM)
def PO:AC:=(.seq (.out [4] (.aa [] [w 4 (.ab (.c .bool true))])) .ret)
def Bh:AC:=(.seq PN PO)
def Bi:AC:=(.seq (.out [0,1] (.aa [0,1] [w 4 (.ab (.c .bool false))])) (.seq (.seq (.out [0,9] (.aa [0,1] [m 6 0,w 7 (.aX 6),m 8 1,w 9 (.bin .gtr 7 8)])) (.out [0,4] (.cond (.t 9) (.seq (.out [4] (.aa [] [w 4 (.ab (.c .bool false))])) .ret) .skip))) Bh))
def GV:AC:=Bi
def d66:FD:={nargs:=2,body:=GV,res:=[.t 4]}
def OW:AC:=.out [1,3,4] (.aa [1,3] [w 4 (.ab (.c U2 0))])
def Ge:AC:=(.seq (.seq (.out [1,3,4,19] (.aa [1,3,4] [m 15 4,w 16 (.fieldAddr ak [.r,.l] 1),w 17 (.load bW 16),w 18 (.aX 17),w 19 (.bin .lss 15 18)])) (.out [1,3,4] (.cond (.t 19) .skip (.exit 0)))) (.seq (.out [1,2,3,4] (.block 1 (.seq (.out [1,3,4] (.aa [1,3,4] [m 22 3,w 23 (.fieldAddr ak [.r,.l] 1),w 24 (.load bW 23),m 25 4,w 26 (.indexAddr aC 24 25),w 27 (.fieldAddr aC [.l] 26),w 28 (.load .str 27),w 29 (.bQ 28),w 30 (.bin .add 22 29),w 3 (.ab 30)])) (.seq (.out [1,3,4,38] (.aa [1,3,4] [w 31 (.fieldAddr ak [.r,.l] 1),w 32 (.load bW 31),m 33 4,w 34 (.indexAddr aC 32 33),w 35 (.fieldAddr aC [.r,.l] 34),w 36 (.load bt 35),w 37 (.call 66 [36,(.c U2 6)]),w 38 (.un .not 37)])) (.out [1,2,3,4] (.cond (.t 38) (.seq (.out [2] (.aa [] [w 2 (.ab (.c .bool false))])) .ret) .skip)))))) (.out [1,3,4] (.aa [1,3,4] [m 20 4,w 21 (.bin .add 20 (.c U2 1)),w 4 (.ab 21)]))))
def Gf:AC:=.out [2,3] (.loop [1,3,4] Ge)
def OX:AC:=.out [2,3] (.block 0 Gf)
def OY:AC:=(.seq OW OX)
def OZ:AC:=(.seq (.out [2] (.aa [3] [m 39 3,w 40 (.bin .leq 39 (.c U2 1500)),w 2 (.ab 40)])) .ret)
def A1:AC:=(.seq OY OZ)
def A2:AC:=(.seq (.out [1] (.aa [0] [w 1 (.box ak 0),w 2 (.ab (.c .bool false))])) (.seq (.seq (.out [1,14] (.aa [1] [w 5 (.fieldAddr ak [.l] 1),w 6 (.load .str 5),w 7 (.bQ 6),w 8 (.bin .gtr 7 (.c U2 60)),m 9 8,⟨some 10,.fieldAddr ak [.r,.l] 1,some (9,false)⟩,⟨some 11,.load bW 10,some (9,false)⟩,⟨some 12,.aX 11,some (9,false)⟩,⟨some 13,.bin .gtr 12 (.c U2 130),some (9,false)⟩,w 14 (.pick 9 (.c .bool true) 13)])) (.out [1,2] (.cond (.t 14) (.seq (.out [2] (.aa [] [w 2 (.ab (.c .bool false))])) .ret) .skip))) (.seq (.out [1,3] (.aa [1] [w 3 (.ab (.c U2 0))])) A1)))
def Gc:AC:=A2
def d34:FD:={nargs:=1,body:=Gc,res:=[.t 2]}
def Ox:AC:=.out [0,1] (.aa [0,1] [w 4 (.ab (.c .bool false))])
def Oy:AC:=.out [0,1,5] (.aa [0,1] [w 5 (.ab (.c U2 0))])
def FZ:AC:=(.seq (.seq (.out [0,1,5,9] (.aa [0,1,5] [m 6 5,m 7 0,w 8 (.aX 7),w 9 (.bin .lss 6 8)])) (.out [0,1,5] (.cond (.t 9) .skip (.exit 0)))) (.seq (.out [0,1,4,5] (.block 1 (.seq (.out [0,1,5,17] (.aa [0,1,5] [m 12 0,m 13 5,w 14 (.indexAddr U5 12 13),w 15 (.load U5 14),m 16 1,w 17 (.call 53 [15,16])])) (.out [0,1,4,5] (.cond (.t 17) (.seq (.out [4] (.aa [] [w 4 (.ab (.c .bool true))])) .ret) .skip))))) (.out [0,1,5] (.aa [0,1,5] [m 10 5,w 11 (.bin .add 10 (.c U2 1)),w 5 (.ab 11)]))))
def F0:AC:=.out [4] (.loop [0,1,5] FZ)
def Oz:AC:=.out [4] (.block 0 F0)
def OA:AC:=(.seq Oy Oz)
def OC:AC:=(.seq (.out [4] (.aa [] [w 4 (.ab (.c .bool false))])) .ret)
def OD:AC:=(.seq OA OC)
def F1:AC:=(.seq Ox OD)
def FY:AC:=F1
def d31:FD:={nargs:=2,body:=FY,res:=[.t 4]}
def QW:AC:=.out [1,7,8,9,11,87,88,89] (.aa [1,7,8,9,11] [m 87 9,w 88 (.aX 87),w 89 (.mv (.c U2 0))])
def HO:AC:=(.seq (.out [1,7,8,9,11,87,88,89,90] (.aa [1,7,8,9,11,87,88,89] [w 90 (.bin .lss 89 88)])) (.seq (.out [1,7,8,9,11,87,88,89] (.cond (.t 90) .skip (.exit 0))) (.seq (.out [1,6,7,8,9,11,87,88,89] (.block 1 (.seq (.out [1,7,8,9,11,14,87,88,89] (.aa [1,7,8,9,11,87,88,89] [w 91 (.indexAddr U5 87 89),w 92 (.load U5 91),w 14 (.ab 92)])) (.seq (.out [1,7,8,9,11,87,88,89,96] (.aa [1,7,8,9,11,14,87,88,89] [m 93 11,m 94 14,w 95 (.call 31 [93,94]),w 96 (.un .not 95)])) (.out [1,6,7,8,9,11,87,88,89] (.cond (.t 96) (.seq (.out [6] (.aa [] [w 6 (.ab (.c .bool false))])) .ret) .skip)))))) (.out [1,7,8,9,11,87,88,89] (.aa [1,7,8,9,11,87,88,89] [w 97 (.bin .add 89 (.c U2 1)),m 89 97])))))
def HP:AC:=.out [1,6,7,8] (.loop [1,7,8,9,11,87,88,89] HO)
def QX:AC:=.out [1,6,7,8] (.block 0 HP)
def QY:AC:=(.seq QW QX)
def QZ:AC:=(.seq (.out [1,8,16] (.aa [1,7,8] [w 99 (.load ak 7),m 100 1,w 101 (.call 13 [99,100]),m 98 101,w 102 (.extract 98 0),w 103 (.extract 98 1),w 104 (.extract 98 2),w 15 (.ab 102),w 16 (.ab 103),w 17 (.ab 104)])) (.seq (.out [16,19] (.aa [1,8,16] [w 106 (.load ak 8),m 107 1,w 108 (.call 13 [106,107]),m 105 108,w 109 (.extract 105 0),w 110 (.extract 105 1),w 111 (.extract 105 2),w 18 (.ab 109),w 19 (.ab 110),w 20 (.ab 111)])) (.seq (.out [6] (.aa [16,19] [m 112 19,m 113 16,w 114 (.bin .leq 112 113),w 6 (.ab 114)])) .ret)))
def BH:AC:=(.seq QY QZ)
def BI:AC:=(.seq (.out [1,2,3] (.aa [0,1,2] [w 3 (.box fx 0),w 6 (.ab (.c .bool false))])) (.seq (.seq (.out [1,2,3,44] (.aa [1,2,3] [w 21 (.call 11 []),w 22 (.un .not 21),m 23 22,⟨some 24,.fieldAddr fx [.r,.l] 3,some (23,false)⟩,⟨some 25,.load U4 24,some (23,false)⟩,⟨some 26,.aX 25,some (23,false)⟩,⟨some 27,.bin .gtr 26 (.c U2 20),some (23,false)⟩,w 28 (.pick 23 (.c .bool true) 27),m 29 28,⟨some 30,.fieldAddr fx [.r,.r,.l] 3,some (29,false)⟩,⟨some 31,.load U4 30,some (29,false)⟩,⟨some 32,.aX 31,some (29,false)⟩,⟨some 33,.bin .gtr 32 (.c U2 20),some (29,false)⟩,w 34 (.pick 29 (.c .bool true) 33),m 35 34,⟨some 36,.mv 1,some (35,false)⟩,⟨some 37,.bQ 36,some (35,false)⟩,⟨some 38,.bin .gtr 37 (.c U2 40),some (35,false)⟩,w 39 (.pick 35 (.c .bool true) 38),m 40 39,⟨some 41,.mv 2,some (40,false)⟩,⟨some 42,.aX 41,some (40,false)⟩,⟨some 43,.bin .gtr 42 (.c U2 4),some (40,false)⟩,w 44 (.pick 40 (.c .bool true) 43)])) (.out [1,2,3,6] (.cond (.t 44) (.seq (.out [6] (.aa [] [w 45 (.call 11 []),w 6 (.ab 45)])) .ret) .skip))) (.seq (.out [1,2,7] (.aa [1,2,3] [w 46 (.load fx 3),w 47 (.call 32 [46]),w 7 (.alloc ak (.pair .no (.pair (.own true 43 .no) .no))),⟨none,.store ak 7 47,none⟩])) (.seq (.out [1,2,7,8] (.aa [1,2,7] [w 48 (.load ak 7),w 8 (.alloc ak (.pair .no (.pair (.own true 43 .no) .no))),⟨none,.store ak 8 48,none⟩])) (.seq (.out [1,7,8] (.aa [1,2,7,8] [w 49 (.fieldAddr ak [.r,.l] 7),w 50 (.load bW 49),m 51 2,w 52 (.buildSlice 22 bW [50,51]),w 53 (.call 33 [52]),w 54 (.fieldAddr ak [.r,.l] 8),⟨none,.store bW 54 53,none⟩])) (.seq (.seq (.out [1,7,8,62] (.aa [1,7,8] [w 55 (.load ak 8),w 56 (.call 34 [55]),w 57 (.un .not 56),m 58 57,⟨some 59,.load ak 8,some (58,false)⟩,⟨some 60,.call 35 [59],some (58,false)⟩,⟨some 61,.bin .neq 60 (.c U2 0),some (58,false)⟩,w 62 (.pick 58 (.c .bool true) 61)])) (.out [1,6,7,8] (.cond (.t 62) (.seq (.out [6] (.aa [] [w 6 (.ab (.c .bool true))])) .ret) .skip))) (.seq (.out [1,7,8,9,10] (.aa [1,7,8] [w 64 (.load ak 7),m 65 1,w 66 (.call 16 [64,65]),m 63 66,w 67 (.extract 63 0),w 68 (.extract 63 1),w 9 (.ab 67),w 10 (.ab 68)])) (.seq (.out [1,7,8,9,10,11,12] (.aa [1,7,8,9,10] [w 70 (.load ak 8),m 71 1,w 72 (.call 16 [70,71]),m 69 72,w 73 (.extract 69 0),w 74 (.extract 69 1),w 11 (.ab 73),w 12 (.ab 74)])) (.seq (.seq (.out [1,7,8,9,10,11,12,80] (.aa [1,7,8,9,10,11,12] [m 75 10,w 76 (.bin .neq 75 (.c U2 0)),m 77 76,⟨some 78,.mv 12,some (77,false)⟩,⟨some 79,.bin .neq 78 (.c U2 0),some (77,false)⟩,w 80 (.pick 77 (.c .bool true) 79)])) (.out [1,6,7,8,9,11] (.cond (.t 80) (.seq (.out [6] (.aa [10,12] [m 81 10,w 82 (.bin .neq 81 (.c U2 0)),m 83 82,⟨some 84,.mv 12,some (83,false)⟩,⟨some 85,.bin .eql 84 (.c U2 3),some (83,false)⟩,w 86 (.pick 83 (.c .bool true) 85),w 6 (.ab 86)])) .ret) .skip))) BH)))))))))
def c9:AC:=BI
def d9:FD:={nargs:=3,body:=c9,res:=[.t 6]}
def table:Table:=fun f=>match f with
 | 9=>some d9
 | 11=>some d11
 | 13=>some d13
 | 15=>some d15
 | 16=>some d16
 | 19=>some d19
 | 20=>some d20
 | 24=>some d24
 | 28=>some d28
 | 31=>some d31
 | 32=>some d32
 | 33=>some d33
 | 34=>some d34
 | 35=>some d35
 | 37=>some d37
 | 38=>some d38
 | 40=>some d40
 | 44=>some d44
 | 45=>some d45
 | 46=>some d46
 | 47=>some d47
 | 53=>some d53
 | 54=>some d54
 | 55=>some d55
 | 57=>some d57
 | 59=>some d59
 | 60=>some d60
 | 64=>some d64
 | 66=>some d66
 | 67=>some d67
 | 69=>some d69
 | 70=>some d70
 | 71=>some d71
 | 72=>some d72
 | 73=>some d73
 | 74=>some d74
 | 77=>some d77
 | 83=>some d83
 | 86=>some d86
 | 87=>some d87
 | 90=>some d90
 | 91=>some d91
 | 92=>some d92
 | 93=>some d93
 | 94=>some d94
 | 95=>some d95
 | 96=>some d96
 | 97=>some d97
 | 98=>some d98
 | 99=>some d99
 | 111=>some d111
 | 114=>some d114
 | 115=>some d115
 | 116=>some d116
 | 117=>some d117
 | 118=>some d118
 | 119=>some d119
 | 120=>some d120
 | 121=>some d121
 | 122=>some d122
 | 123=>some d123
 | 124=>some d124
 | 125=>some d125
 | 126=>some d126
 | 127=>some d127
 | 135=>some d135
 | 136=>some d136
 | 137=>some d137
 | 138=>some d138
 | 139=>some d139
 | 140=>some d140
 | 141=>some d141
 | 142=>some d142
 | 143=>some d143
 | 144=>some d144
 | 148=>some d148
 | 149=>some d149
 | 150=>some d150
 | 151=>some d151
 | 152=>some d152
 | 153=>some d153
 | 154=>some d154
 | 155=>some d155
 | 158=>some d158
 | 159=>some d159
 | 160=>some d160
 | _=>none
end Go.Fw.L19
