/- Own work. -/
import Derived.Test.YtooiookccchmeaaGreatFwB1
set_option linter.unusedVariables false
set_option linter.unusedSimpArgs false
namespace Go.Fw.L19
open Go Go.Fw
abbrev U0:Ty:=(.int .u8)
abbrev U1:Ty:=(.sl .str)
abbrev V0:Type:=(List Int)
abbrev U2:Ty:=(.int .i64)
abbrev U3:Ty:=(.int .i32)
abbrev V1:Type:=(Int×Int)
abbrev V2:Type:=(List Bool)
abbrev V3:Type:=(Int×Unit)
abbrev V4:Type:=(List UInt8)
abbrev V5:Type:=(Int×Bool)
abbrev V6:Type:=(V4)
abbrev U4:Ty:=(.sl U0)
abbrev U5:Ty:=(.sl U2)
abbrev V7:Type:=(List V0)
abbrev U6:Ty:=(.pair .str .unit)
abbrev V8:Type:=(V0×Int)
abbrev V9:Type:=(V0×Unit)
abbrev Dx:Type:=(V7)
abbrev aG:Type:=(List V4)
abbrev tV:Type:=(Int×V3)
abbrev kL:Type:=(V4×Int)
abbrev WN:Type:=(V4×Unit)
abbrev fQ:Type:=(aG)
abbrev mT:Type:=(V4×Bool)
abbrev U7:Ty:=(.sl U5)
abbrev U8:Ty:=(.pair U0 .unit)
abbrev zn:Type:=(V0×Int×Int)
abbrev U9:Ty:=(.pair U2 .unit)
abbrev LF:Ty:=(.pair U3 .unit)
abbrev mU:Type:=(V7×Int)
abbrev gq:Type:=(List tV)
abbrev a8:Type:=(Int×tV)
abbrev bU:Type:=(V3→Option Bool)
abbrev WO:Type:=(Int×WN)
abbrev WE:Ty:=(.pair U4 .unit)
abbrev WG:Ty:=(.pair U5 .unit)
abbrev zo:Type:=(V0×V9)
abbrev bV:Type:=(List a8)
abbrev zp:Type:=(gq×Int)
abbrev zj:Ty:=(.fn U8 .bool)
abbrev WQ:Type:=(a8×Int)
abbrev mR:Ty:=(.fn LF .bool)
abbrev aR:Type:=(Int×WO)
abbrev nJ:Type:=(bV)
abbrev WH:Ty:=(.pair U2 U6)
abbrev dU:Type:=(Int×zo)
abbrev aA:Type:=(List aR)
abbrev eo:Ty:=(.pair U2 U9)
abbrev o6:Type:=(aR×Bool)
abbrev lr:Type:=(aA)
abbrev zq:Type:=(zo→Option Int)
abbrev WR:Type:=((List WQ)×Unit)
abbrev ke:Type:=(aA×Int)
abbrev WI:Ty:=(.pair U4 WE)
abbrev zk:Ty:=(.pair U5 WG)
abbrev aB:Ty:=(.pair U2 WH)
abbrev bB:Ty:=(.sl aB)
abbrev a6:Ty:=(.pair U2 eo)
abbrev WS:Type:=(aA×tV)
abbrev WT:Type:=(V4×WR)
abbrev fi:Ty:=(.pair U0 WI)
abbrev Dw:Ty:=(.map a6 U2)
abbrev aT:Type:=(V4×WS)
abbrev b7:Type:=(List aT)
abbrev nK:Type:=(aT×Bool)
abbrev WJ:Ty:=(.pair Dw .unit)
abbrev WU:Type:=(b7×Unit)
abbrev WK:Ty:=(.pair .str WJ)
abbrev fj:Type:=((aT×Unit)→Option Bool)
abbrev WL:Ty:=(.pair bB eo)
abbrev ae:Type:=(V4×WU)
abbrev gr:Type:=(ae)
abbrev aD:Ty:=(.pair .str WL)
abbrev qZ:Type:=(ae×Int×Int)
abbrev cR:Ty:=(.sl aD)
abbrev LG:Ty:=(.pair aD .unit)
abbrev WM:Ty:=(.pair cR .unit)
abbrev zl:Ty:=(.fn LG .bool)
abbrev ak:Ty:=(.pair .str WM)
abbrev aI:Type:=(ae×WT)
abbrev gQ:Type:=(aI×Int)
abbrev kg:Type:=(aI×V7)
abbrev bC:Ty:=(.pair ak WK)
instance (n:Nat):OfNat Od n:=⟨.t n⟩
abbrev w (d:Nat) (o:qQ):AI:={dst:=some d,op:=o}
abbrev m (d:Nat) (k:Nat):AI:={dst:=some d,op:=.mv (.t k)}
def P4:AC:=.out [0,3,4,5] (.aa [0,3,4] [w 5 (.ab (.c U2 0))])
def GZ:AC:=(.seq (.seq (.out [0,3,4,5,9] (.aa [0,3,4,5] [m 6 5,m 7 0,w 8 (.bP 7),w 9 (.bin .leq 6 8)])) (.out [0,3,4,5] (.cond (.t 9) .skip (.exit 0)))) (.seq (.out [0,3,4,5] (.block 1 (.seq (.seq (.out [0,3,4,5,20] (.aa [0,3,4,5] [m 12 5,m 13 0,w 14 (.bP 13),w 15 (.bin .eql 12 14),m 16 15,⟨some 17,.mv 4,some (16,true)⟩,⟨some 18,.mv 5,some (16,true)⟩,⟨some 19,.bin .eql 17 18,some (16,true)⟩,w 20 (.pick 16 19 (.c .bool false))])) (.out [0,3,4,5] (.cond (.t 20) (.exit 0) .skip))) (.seq (.out [0,3,4,5,30] (.aa [0,3,4,5] [m 21 5,m 22 0,w 23 (.bP 22),w 24 (.bin .eql 21 23),m 25 24,⟨some 26,.mv 0,some (25,false)⟩,⟨some 27,.mv 5,some (25,false)⟩,⟨some 28,.dX 26 27,some (25,false)⟩,⟨some 29,.bin .eql 28 (.c U0 10),some (25,false)⟩,w 30 (.pick 25 (.c .bool true) 29)])) (.out [0,3,4,5] (.cond (.t 30) (.seq (.out [0,3,5] (.aa [0,3,4,5] [m 31 3,m 32 0,m 33 4,m 34 5,w 35 (.jK 32 (some 33) (some 34)),w 36 (.buildSlice 9 .str [35]),w 37 (.append 9 .str 8796093022208 31 36),w 3 (.ab 37)])) (.out [0,3,4,5] (.aa [0,3,5] [m 38 5,w 39 (.bin .add 38 (.c U2 1)),w 4 (.ab 39)]))) .skip)))))) (.out [0,3,4,5] (.aa [0,3,4,5] [m 10 5,w 11 (.bin .add 10 (.c U2 1)),w 5 (.ab 11)]))))
def G3:AC:=.out [3] (.loop [0,3,4,5] GZ)
def P5:AC:=.out [3] (.block 0 G3)
def P6:AC:=(.seq P4 P5)
def P7:AC:=(.seq (.out [2,3] (.aa [3] [m 40 3,w 2 (.ab 40)])) .ret)
def A6:AC:=(.seq P6 P7)
def A7:AC:=(.seq (.out [0] (.aa [0] [w 2 (.ab (.nil 9 .str))])) (.seq (.out [0,3] (.aa [0] [w 3 (.ab (.nil 9 .str))])) (.seq (.out [0,3,4] (.aa [0,3] [w 4 (.ab (.c U2 0))])) A6)))
def GY:AC:=A7
def d92:FD:={nargs:=1,body:=GY,res:=[.t 2]}
def P8:AC:=.out [0,3,4,5] (.aa [0,3,4] [w 5 (.ab (.c U2 0))])
def G5:AC:=(.seq (.seq (.out [0,3,4,5,9] (.aa [0,3,4,5] [m 6 5,m 7 0,w 8 (.bP 7),w 9 (.bin .leq 6 8)])) (.out [0,3,4,5] (.cond (.t 9) .skip (.exit 0)))) (.seq (.out [0,2,3,4,5] (.block 1 (.seq (.out [0,3,4,5,21] (.aa [0,3,4,5] [m 12 5,m 13 0,w 14 (.bP 13),w 15 (.bin .eql 12 14),m 16 15,⟨some 17,.mv 0,some (16,false)⟩,⟨some 18,.mv 5,some (16,false)⟩,⟨some 19,.dX 17 18,some (16,false)⟩,⟨some 20,.bin .eql 19 (.c U0 32),some (16,false)⟩,w 21 (.pick 16 (.c .bool true) 20)])) (.out [0,2,3,4,5] (.cond (.t 21) (.seq (.seq (.out [0,3,4,5,24] (.aa [0,3,4,5] [m 22 5,m 23 4,w 24 (.bin .eql 22 23)])) (.out [0,2,3,4,5] (.cond (.t 24) (.seq (.out [2] (.aa [] [w 2 (.ab (.nil 9 .str))])) .ret) .skip))) (.seq (.out [0,3,5] (.aa [0,3,4,5] [m 25 3,m 26 0,m 27 4,m 28 5,w 29 (.jK 26 (some 27) (some 28)),w 30 (.buildSlice 9 .str [29]),w 31 (.append 9 .str 8796093022208 25 30),w 3 (.ab 31)])) (.out [0,3,4,5] (.aa [0,3,5] [m 32 5,w 33 (.bin .add 32 (.c U2 1)),w 4 (.ab 33)])))) .skip))))) (.out [0,3,4,5] (.aa [0,3,4,5] [m 10 5,w 11 (.bin .add 10 (.c U2 1)),w 5 (.ab 11)]))))
def G6:AC:=.out [2,3] (.loop [0,3,4,5] G5)
def P9:AC:=.out [2,3] (.block 0 G6)
def Qa:AC:=(.seq P8 P9)
def Qb:AC:=(.seq (.out [2,3] (.aa [3] [m 34 3,w 2 (.ab 34)])) .ret)
def A8:AC:=(.seq Qa Qb)
def A9:AC:=(.seq (.out [0] (.aa [0] [w 2 (.ab (.nil 9 .str))])) (.seq (.out [0,3] (.aa [0] [w 3 (.ab (.nil 9 .str))])) (.seq (.out [0,3,4] (.aa [0,3] [w 4 (.ab (.c U2 0))])) A8)))
def G4:AC:=A9
def d93:FD:={nargs:=1,body:=G4,res:=[.t 2]}
def MQ:AC:=.out [0,3,4] (.aa [0,3] [w 4 (.ab (.c U2 0))])
def Ev:AC:=(.seq (.seq (.out [0,3,4,9] (.aa [0,3,4] [m 6 4,m 7 0,w 8 (.bP 7),w 9 (.bin .lss 6 8)])) (.out [0,3,4] (.cond (.t 9) .skip (.exit 0)))) (.seq (.out [0,3,4] (.block 1 (.seq (.out [0,3,4,15] (.aa [0,3,4] [m 12 0,m 13 4,w 14 (.dX 12 13),w 15 (.bin .eql 14 (.c U0 32))])) (.out [0,3,4] (.cond (.t 15) (.out [0,3,4] (.aa [0,3,4] [m 16 3,w 17 (.buildSlice 9 .str [(.c .str [])]),w 18 (.append 9 .str 8796093022208 16 17),w 3 (.ab 18)])) (.out [0,3,4] (.draw [0,3,4] [⟨m 19 3,[20,21,22,23,24,25,26,27,28,29,30,31,32,33,34],[19],[],false,[]⟩,⟨m 20 3,[19,23,24,25,26,27,28,29,30,31,32,33,34],[20],[],false,[]⟩,⟨w 21 (.aZ 20),[19,23,24,25,26,27,28,29,30,31,32,33,34],[21],[1],false,[]⟩,⟨w 22 (.bin .sub 21 (.c U2 1)),[19,23,24,25,26,27,28,29,30,31,32,33,34],[22],[1,2],false,[]⟩,⟨m 23 3,[19,20,21,22,24,25,26,29,30,31,32,33],[23],[],false,[]⟩,⟨m 24 3,[19,20,21,22,23,29,30,31,32,33],[24],[],false,[]⟩,⟨w 25 (.aZ 24),[19,20,21,22,23,29,30,31,32,33],[25],[5],false,[]⟩,⟨w 26 (.bin .sub 25 (.c U2 1)),[19,20,21,22,23,29,30,31,32,33],[26],[5,6],false,[]⟩,⟨w 27 (.indexAddr .str 23 26),[19,20,21,22,29,30,31,32,33],[27],[4,5,6,7],false,[]⟩,⟨w 28 (.load .str 27),[19,20,21,22,29,30,31,32,33],[28],[4,5,6,7,8],false,[]⟩,⟨m 29 0,[19,20,21,22,23,24,25,26,27,28,30,31,32],[29],[],false,[]⟩,⟨m 30 4,[19,20,21,22,23,24,25,26,27,28,29,31,32],[30],[],false,[]⟩,⟨m 31 4,[19,20,21,22,23,24,25,26,27,28,29,30],[31],[],false,[]⟩,⟨w 32 (.bin .add 31 (.c U2 1)),[19,20,21,22,23,24,25,26,27,28,29,30],[32],[12],false,[]⟩,⟨w 33 (.jK 29 (some 30) (some 32)),[19,20,21,22,23,24,25,26,27,28],[33],[10,11,12,13],false,[]⟩,⟨w 34 (.bin .add 28 33),[19,20,21,22],[34],[4,5,6,7,8,9,10,11,12,13,14],false,[]⟩,⟨w 35 (.indexAddr .str 19 22),[],[35],[0,1,2,3,4,5,6,7,8,9,10,11,12,13,14,15],false,[]⟩,⟨⟨none,.store .str 35 34,none⟩,[],[3,19,35],[0,1,2,3,4,5,6,7,8,9,10,11,12,13,14,15,16],true,[]⟩]))))))) (.out [0,3,4] (.aa [0,3,4] [m 10 4,w 11 (.bin .add 10 (.c U2 1)),w 4 (.ab 11)]))))
def Ew:AC:=.out [3] (.loop [0,3,4] Ev)
def MR:AC:=.out [3] (.block 0 Ew)
def MS:AC:=(.seq MQ MR)
def MT:AC:=(.seq (.out [2,3] (.aa [3] [m 36 3,w 2 (.ab 36)])) .ret)
def zY:AC:=(.seq MS MT)
def zZ:AC:=(.seq (.out [0] (.aa [0] [w 2 (.ab (.nil 9 .str))])) (.seq (.out [0,3] (.aa [0] [w 5 (.buildSlice 9 .str [(.c .str [])]),w 3 (.ab 5)])) zY))
def Eu:AC:=zZ
def d138:FD:={nargs:=1,body:=Eu,res:=[.t 2]}
def Nf:AC:=(.seq (.out [] (.aa [] [w 0 (.ab (.c .str []))])) (.seq (.out [0] (.aa [] [w 0 (.ab (.c .str [32,118,100,109,108,110,115,120,103,98]))])) .ret))
def ER:AC:=Nf
def d148:FD:={nargs:=0,body:=ER,res:=[.t 0]}
def Ma:AC:=(.seq (.out [1] (.aa [0] [w 1 (.box aB 0),w 2 (.ab (.c .bool false))])) (.seq (.out [2] (.aa [1] [w 3 (.fieldAddr aB [.l] 1),w 4 (.load U2 3),w 5 (.bin .eql 4 (.c U2 1)),m 6 5,⟨some 7,.fieldAddr aB [.l] 1,some (6,false)⟩,⟨some 8,.load U2 7,some (6,false)⟩,⟨some 9,.bin .eql 8 (.c U2 2),some (6,false)⟩,w 10 (.pick 6 (.c .bool true) 9),w 2 (.ab 10)])) .ret))
def DU:AC:=Ma
def d114:FD:={nargs:=1,body:=DU,res:=[.t 2]}
def MP:AC:=(.seq (.out [0] (.aa [0] [w 2 (.ab (.c .bool false))])) (.seq (.out [2] (.aa [0] [m 3 0,w 4 (.bin .geq 3 (.c U0 97)),m 5 4,⟨some 6,.mv 0,some (5,true)⟩,⟨some 7,.bin .leq 6 (.c U0 122),some (5,true)⟩,w 8 (.pick 5 7 (.c .bool false)),m 9 8,⟨some 10,.mv 0,some (9,false)⟩,⟨some 11,.bin .geq 10 (.c U0 48),some (9,false)⟩,⟨some 12,.mv 11,some (9,false)⟩,⟨some 13,.mv 0,some (12,true)⟩,⟨some 14,.bin .leq 13 (.c U0 57),some (12,true)⟩,⟨some 15,.pick 12 14 (.c .bool false),some (9,false)⟩,w 16 (.pick 9 (.c .bool true) 15),m 17 16,⟨some 18,.mv 0,some (17,false)⟩,⟨some 19,.bin .eql 18 (.c U0 95),some (17,false)⟩,w 20 (.pick 17 (.c .bool true) 19),m 21 20,⟨some 22,.mv 0,some (21,false)⟩,⟨some 23,.bin .eql 22 (.c U0 94),some (21,false)⟩,w 24 (.pick 21 (.c .bool true) 23),m 25 24,⟨some 26,.mv 0,some (25,false)⟩,⟨some 27,.bin .eql 26 (.c U0 39),some (25,false)⟩,w 28 (.pick 25 (.c .bool true) 27),w 2 (.ab 28)])) .ret))
def Et:AC:=MP
def d137:FD:={nargs:=1,body:=Et,res:=[.t 2]}
def Mh:AC:=.out [1,4] (.aa [1] [w 4 (.ab (.c U2 0))])
def D2:AC:=(.seq (.seq (.out [1,4,46] (.aa [1,4] [m 42 4,w 43 (.fieldAddr aB [.r,.r,.l] 1),w 44 (.load .str 43),w 45 (.bP 44),w 46 (.bin .lss 42 45)])) (.out [1,4] (.cond (.t 46) .skip (.exit 0)))) (.seq (.out [1,2,4] (.block 1 (.seq (.out [1,4,54] (.aa [1,4] [w 49 (.fieldAddr aB [.r,.r,.l] 1),w 50 (.load .str 49),m 51 4,w 52 (.dX 50 51),w 53 (.call 137 [52]),w 54 (.un .not 53)])) (.out [1,2,4] (.cond (.t 54) (.seq (.out [2] (.aa [] [w 2 (.ab (.c U2 2))])) .ret) .skip))))) (.out [1,4] (.aa [1,4] [m 47 4,w 48 (.bin .add 47 (.c U2 1)),w 4 (.ab 48)]))))
def D3:AC:=.out [2] (.loop [1,4] D2)
def Mi:AC:=.out [2] (.block 0 D3)
def Mj:AC:=(.seq Mh Mi)
def Mk:AC:=(.seq (.out [2] (.aa [] [w 2 (.ab (.c U2 0))])) .ret)
def zO:AC:=(.seq Mj Mk)
def uj:AC:=(.seq (.seq (.out [1,34] (.aa [1,3] [m 33 3,w 34 (.un .not 33)])) (.out [1,2] (.cond (.t 34) (.seq (.out [2] (.aa [] [w 2 (.ab (.c U2 6))])) .ret) .skip))) (.seq (.seq (.out [1,37] (.aa [1] [w 35 (.fieldAddr aB [.r,.r,.l] 1),w 36 (.load .str 35),w 37 (.bin .eql 36 (.c .str []))])) (.out [1,2] (.cond (.t 37) (.seq (.out [2] (.aa [] [w 2 (.ab (.c U2 7))])) .ret) .skip))) (.seq (.seq (.out [1,41] (.aa [1] [w 38 (.fieldAddr aB [.r,.r,.l] 1),w 39 (.load .str 38),w 40 (.bP 39),w 41 (.bin .gtr 40 (.c U2 8))])) (.out [1,2] (.cond (.t 41) (.seq (.out [2] (.aa [] [w 2 (.ab (.c U2 3))])) .ret) .skip))) zO)))
def zP:AC:=(.seq (.out [1] (.aa [0] [w 1 (.box aB 0),w 2 (.ab (.c U2 0))])) (.seq (.seq (.out [1,12] (.aa [1] [w 5 (.fieldAddr aB [.l] 1),w 6 (.load U2 5),w 7 (.bin .lss 6 (.c U2 1)),m 8 7,⟨some 9,.fieldAddr aB [.l] 1,some (8,false)⟩,⟨some 10,.load U2 9,some (8,false)⟩,⟨some 11,.bin .gtr 10 (.c U2 9),some (8,false)⟩,w 12 (.pick 8 (.c .bool true) 11)])) (.out [1,2] (.cond (.t 12) (.seq (.out [2] (.aa [] [w 2 (.ab (.c U2 1))])) .ret) .skip))) (.seq (.out [1,3] (.aa [1] [w 13 (.fieldAddr aB [.r,.l] 1),w 14 (.load U2 13),w 15 (.bin .eql 14 (.c U2 0)),w 3 (.ab 15)])) (.seq (.seq (.out [1,3,18] (.aa [1,3] [w 16 (.fieldAddr aB [.l] 1),w 17 (.load U2 16),w 18 (.bin .eql 17 (.c U2 1))])) (.out [1,3] (.cond (.t 18) (.out [1,3] (.aa [1] [w 19 (.fieldAddr aB [.r,.l] 1),w 20 (.load U2 19),w 21 (.bin .geq 20 (.c U2 1)),m 22 21,⟨some 23,.fieldAddr aB [.r,.l] 1,some (22,true)⟩,⟨some 24,.load U2 23,some (22,true)⟩,⟨some 25,.bin .leq 24 (.c U2 3),some (22,true)⟩,w 26 (.pick 22 25 (.c .bool false)),w 3 (.ab 26)])) .skip))) (.seq (.seq (.out [1,3,29] (.aa [1,3] [w 27 (.fieldAddr aB [.l] 1),w 28 (.load U2 27),w 29 (.bin .eql 28 (.c U2 2))])) (.out [1,3] (.cond (.t 29) (.out [1,3] (.aa [1] [w 30 (.fieldAddr aB [.r,.l] 1),w 31 (.load U2 30),w 32 (.bin .eql 31 (.c U2 2)),w 3 (.ab 32)])) .skip))) uj)))))
def D1:AC:=zP
def d117:FD:={nargs:=1,body:=D1,res:=[.t 2]}
def Ez:AC:=(.seq (.seq (.out [0,2,4,17] (.aa [0,2,4] [m 8 4,m 9 0,w 10 (.bP 9),w 11 (.bin .lss 8 10),m 12 11,⟨some 13,.mv 0,some (12,true)⟩,⟨some 14,.mv 4,some (12,true)⟩,⟨some 15,.dX 13 14,some (12,true)⟩,⟨some 16,.bin .neq 15 (.c U0 47),some (12,true)⟩,w 17 (.pick 12 16 (.c .bool false))])) (.out [0,2,4] (.cond (.t 17) .skip (.exit 0)))) (.out [0,2,4] (.block 1 (.out [0,2,4] (.aa [0,2,4] [m 18 4,w 19 (.bin .add 18 (.c U2 1)),w 4 (.ab 19)])))))
def EA:AC:=.out [0,2,4] (.loop [0,2,4] Ez)
def MU:AC:=.out [0,2,4] (.block 0 EA)
def MV:AC:=.out [2,5,6,7] (.aa [2,5,6] [w 7 (.ab (.c U2 1))])
def EC:AC:=(.seq (.seq (.out [2,5,6,7,38] (.aa [2,5,6,7] [m 35 7,w 36 (.call 148 []),w 37 (.bP 36),w 38 (.bin .lss 35 37)])) (.out [2,5,6,7] (.cond (.t 38) .skip (.exit 2)))) (.seq (.out [2,5,6,7] (.block 3 (.seq (.out [2,5,6,7,46] (.draw [2,5,6,7] [⟨w 41 (.call 148 []),[42,44,45],[41],[],false,[]⟩,⟨m 42 7,[41,44,45],[42],[],false,[]⟩,⟨w 43 (.dX 41 42),[44,45],[43],[0,1],false,[]⟩,⟨m 44 5,[41,42,43],[44],[],false,[]⟩,⟨w 45 (.dX 44 (.c U2 0)),[41,42,43],[45],[3],false,[]⟩,⟨w 46 (.bin .eql 43 45),[],[46],[0,1,2,3,4],false,[]⟩])) (.out [2,5,6,7] (.cond (.t 46) (.out [2,5,6,7] (.aa [2,5,6,7] [m 47 7,w 48 (.fieldAddr aB [.l] 6),⟨none,.store U2 48 47,none⟩])) .skip))))) (.out [2,5,6,7] (.aa [2,5,6,7] [m 39 7,w 40 (.bin .add 39 (.c U2 1)),w 7 (.ab 40)]))))
def ED:AC:=.out [2,5,6] (.loop [2,5,6,7] EC)
def MW:AC:=.out [2,5,6] (.block 2 ED)
def MX:AC:=(.seq MV MW)
def MY:AC:=(.seq (.out [2,5,6] (.aa [2,5,6] [m 49 5,w 50 (.jK 49 (some (.c U2 1)) none),w 5 (.ab 50)])) (.seq (.seq (.out [2,5,6,67] (.aa [2,5,6] [w 51 (.load aB 6),w 52 (.call 114 [51]),m 53 52,⟨some 54,.mv 5,some (53,true)⟩,⟨some 55,.bP 54,some (53,true)⟩,⟨some 56,.bin .eql 55 (.c U2 1),some (53,true)⟩,w 57 (.pick 53 56 (.c .bool false)),m 58 57,⟨some 59,.mv 5,some (58,true)⟩,⟨some 60,.dX 59 (.c U2 0),some (58,true)⟩,⟨some 61,.bin .geq 60 (.c U0 49),some (58,true)⟩,w 62 (.pick 58 61 (.c .bool false)),m 63 62,⟨some 64,.mv 5,some (63,true)⟩,⟨some 65,.dX 64 (.c U2 0),some (63,true)⟩,⟨some 66,.bin .leq 65 (.c U0 51),some (63,true)⟩,w 67 (.pick 63 66 (.c .bool false))])) (.out [2,5,6] (.cond (.t 67) (.seq (.out [2,6] (.aa [2,5,6] [m 68 5,w 69 (.dX 68 (.c U2 0)),w 70 (.kM .i64 69),w 71 (.bin .sub 70 (.c U2 48)),w 72 (.fieldAddr aB [.r,.l] 6),⟨none,.store U2 72 71,none⟩])) (.out [2,5,6] (.aa [2,6] [w 5 (.ab (.c .str []))]))) .skip))) (.seq (.out [2,3] (.draw [2,5,6] [⟨w 73 (.load aB 6),[74,75,76,77,78,79,80],[73],[],false,[]⟩,⟨m 74 5,[73],[74],[],false,[]⟩,⟨w 75 (.bin .eql 74 (.c .str [])),[73],[75],[1],false,[]⟩,⟨m 76 75,[73],[76],[1,2],false,[]⟩,⟨⟨some 77,.load aB 6,some (76,true)⟩,[73],[77],[1,2,3],false,[]⟩,⟨⟨some 78,.call 117 [77],some (76,true)⟩,[73],[78],[1,2,3,4],false,[]⟩,⟨⟨some 79,.bin .eql 78 (.c U2 0),some (76,true)⟩,[2,73],[79],[1,2,3,4,5],false,[]⟩,⟨w 80 (.pick 76 79 (.c .bool false)),[2,73],[80],[1,2,3,4,5,6],false,[]⟩,⟨⟨none,.store aB 2 73,none⟩,[79,80],[2],[0,1,2,3,4,5],false,[]⟩,⟨w 3 (.ab 80),[],[3],[0,1,2,3,4,5,6,7,8],false,[]⟩])) .ret)))
def z8:AC:=(.seq MX MY)
def EB:AC:=(.seq (.out [0,2,4,5] (.aa [0,2,4] [w 5 (.ab (.c .str []))])) (.seq (.seq (.out [0,2,4,5,23] (.aa [0,2,4,5] [m 20 4,m 21 0,w 22 (.bP 21),w 23 (.bin .lss 20 22)])) (.out [0,2,4,5] (.cond (.t 23) (.out [0,2,4,5] (.aa [0,2,4] [m 24 0,m 25 4,w 26 (.bin .add 25 (.c U2 1)),w 27 (.jK 24 (some 26) none),w 5 (.ab 27)])) .skip))) (.seq (.seq (.out [0,2,4,5,29] (.aa [0,2,4,5] [m 28 5,w 29 (.bin .eql 28 (.c .str []))])) (.out [0,2,3,4,5] (.cond (.t 29) (.seq (.out [2,3] (.aa [2] [w 30 (.build aB []),⟨none,.store aB 2 30,none⟩,w 3 (.ab (.c .bool false))])) .ret) .skip))) (.seq (.out [2,5,6] (.aa [0,2,4,5] [m 31 0,m 32 4,w 33 (.jK 31 none (some 32)),w 34 (.build aB [([.r,.r,.l],33)]),w 6 (.alloc aB .no),⟨none,.store aB 6 34,none⟩])) z8))))
def z6:AC:=(.seq MU EB)
def z7:AC:=(.seq (.out [0,2] (.aa [0] [w 2 (.alloc aB .no),w 3 (.ab (.c .bool false))])) (.seq (.out [0,2,4] (.aa [0,2] [w 4 (.ab (.c U2 0))])) z6))
def Ey:AC:=z7
def d139:FD:={nargs:=1,body:=Ey,res:=[.cell 2 aB,.t 3]}
def Ml:AC:=.out [4,5,6] (.aa [4,5] [w 6 (.ab (.c U2 0))])
def D5:AC:=(.seq (.seq (.out [4,5,6,19] (.aa [4,5,6] [m 16 6,m 17 5,w 18 (.aZ 17),w 19 (.bin .lss 16 18)])) (.out [4,5,6] (.cond (.t 19) .skip (.exit 0)))) (.seq (.out [2,3,4,5,6] (.block 1 (.seq (.out [4,5,6,7,8] (.aa [4,5,6] [m 23 5,m 24 6,w 25 (.indexAddr .str 23 24),w 26 (.load .str 25),w 27 (.call 139 [26]),m 22 27,w 28 (.extract 22 0),w 29 (.extract 22 1),w 7 (.alloc aB .no),⟨none,.store aB 7 28,none⟩,w 8 (.ab 29)])) (.seq (.seq (.out [4,5,6,7,31] (.aa [4,5,6,7,8] [m 30 8,w 31 (.un .not 30)])) (.out [2,3,4,5,6,7] (.cond (.t 31) (.seq (.out [2,3] (.aa [] [w 2 (.ab (.nil 40 aB)),w 3 (.ab (.c U2 2))])) .ret) .skip))) (.out [4,5,6] (.aa [4,5,6,7] [m 32 4,w 33 (.load aB 7),w 34 (.buildSlice 40 aB [33]),w 35 (.append 40 aB 4398046511104 32 34),w 4 (.ab 35)])))))) (.out [4,5,6] (.aa [4,5,6] [m 20 6,w 21 (.bin .add 20 (.c U2 1)),w 6 (.ab 21)]))))
def D6:AC:=.out [2,3,4] (.loop [4,5,6] D5)
def Mm:AC:=.out [2,3,4] (.block 0 D6)
def Mn:AC:=(.seq Ml Mm)
def Mo:AC:=(.seq (.seq (.out [4,38] (.aa [4] [m 36 4,w 37 (.aZ 36),w 38 (.bin .gtr 37 (.c U2 200))])) (.out [2,3,4] (.cond (.t 38) (.seq (.out [2,3] (.aa [] [w 2 (.ab (.nil 40 aB)),w 3 (.ab (.c U2 2))])) .ret) .skip))) (.seq (.out [2,3,4] (.aa [4] [m 39 4,w 2 (.ab 39),w 3 (.ab (.c U2 0))])) .ret))
def zQ:AC:=(.seq Mn Mo)
def zR:AC:=(.seq (.out [0] (.aa [0] [w 2 (.ab (.nil 40 aB)),w 3 (.ab (.c U2 0))])) (.seq (.seq (.out [0,11] (.aa [0] [m 9 0,w 10 (.bP 9),w 11 (.bin .gtr 10 (.c U2 4000))])) (.out [0,2,3] (.cond (.t 11) (.seq (.out [2,3] (.aa [] [w 2 (.ab (.nil 40 aB)),w 3 (.ab (.c U2 3))])) .ret) .skip))) (.seq (.seq (.out [0,13] (.aa [0] [m 12 0,w 13 (.bin .eql 12 (.c .str []))])) (.out [0,2,3] (.cond (.t 13) (.seq (.out [2,3] (.aa [] [w 2 (.ab (.nil 40 aB)),w 3 (.ab (.c U2 0))])) .ret) .skip))) (.seq (.out [0,4] (.aa [0] [w 4 (.ab (.nil 40 aB))])) (.seq (.out [4,5] (.aa [0,4] [m 14 0,w 15 (.call 138 [14]),w 5 (.ab 15)])) zQ)))))
def D4:AC:=zR
def d118:FD:={nargs:=1,body:=D4,res:=[.t 2,.t 3]}
def MO:AC:=(.seq (.out [0] (.aa [0] [w 2 (.ab (.c .bool false))])) (.seq (.out [2] (.aa [0] [m 3 0,w 4 (.bin .geq 3 (.c U0 48)),m 5 4,⟨some 6,.mv 0,some (5,true)⟩,⟨some 7,.bin .leq 6 (.c U0 57),some (5,true)⟩,w 8 (.pick 5 7 (.c .bool false)),w 2 (.ab 8)])) .ret))
def Es:AC:=MO
def d136:FD:={nargs:=1,body:=Es,res:=[.t 2]}
def EF:AC:=(.seq (.seq (.out [0,3,13] (.aa [0,3] [m 4 3,m 5 0,w 6 (.bP 5),w 7 (.bin .lss 4 6),m 8 7,⟨some 9,.mv 0,some (8,true)⟩,⟨some 10,.mv 3,some (8,true)⟩,⟨some 11,.dX 9 10,some (8,true)⟩,⟨some 12,.call 136 [11],some (8,true)⟩,w 13 (.pick 8 12 (.c .bool false))])) (.out [0,3] (.cond (.t 13) .skip (.exit 0)))) (.out [0,3] (.block 1 (.out [0,3] (.aa [0,3] [m 14 3,w 15 (.bin .add 14 (.c U2 1)),w 3 (.ab 15)])))))
def EG:AC:=.out [3] (.loop [0,3] EF)
def M0:AC:=.out [3] (.block 0 EG)
def M1:AC:=(.seq (.out [2] (.aa [3] [m 16 3,w 2 (.ab 16)])) .ret)
def Aa:AC:=(.seq M0 M1)
def Ab:AC:=(.seq (.out [0] (.aa [0] [w 2 (.ab (.c U2 0))])) (.seq (.out [0,3] (.aa [0] [w 3 (.ab (.c U2 0))])) Aa))
def EE:AC:=Ab
def d140:FD:={nargs:=1,body:=EE,res:=[.t 2]}
def Mp:AC:=.out [0,4,5] (.aa [0,4] [w 5 (.ab (.c U2 0))])
def D8:AC:=(.seq (.seq (.out [0,4,5,33] (.aa [0,4,5] [m 30 5,m 31 0,w 32 (.bP 31),w 33 (.bin .lss 30 32)])) (.out [0,4,5] (.cond (.t 33) .skip (.exit 0)))) (.seq (.out [0,4,5] (.block 1 (.out [0,4,5] (.aa [0,4,5] [m 36 4,w 37 (.bin .mul (.c U2 10) 36),m 38 0,m 39 5,w 40 (.dX 38 39),w 41 (.bin .sub 40 (.c U0 48)),w 42 (.kM .i64 41),w 43 (.bin .add 37 42),w 4 (.ab 43)])))) (.out [0,4,5] (.aa [0,4,5] [m 34 5,w 35 (.bin .add 34 (.c U2 1)),w 5 (.ab 35)]))))
def D9:AC:=.out [4] (.loop [0,4,5] D8)
def Mq:AC:=.out [4] (.block 0 D9)
def Mr:AC:=(.seq Mp Mq)
def Ms:AC:=(.seq (.out [2,3] (.aa [4] [m 44 4,w 2 (.ab 44),w 3 (.ab (.c .bool true))])) .ret)
def zS:AC:=(.seq Mr Ms)
def zT:AC:=(.seq (.out [0] (.aa [0] [w 2 (.ab (.c U2 0)),w 3 (.ab (.c .bool false))])) (.seq (.seq (.out [0,29] (.aa [0] [m 6 0,w 7 (.bin .eql 6 (.c .str [])),m 8 7,⟨some 9,.mv 0,some (8,false)⟩,⟨some 10,.bP 9,some (8,false)⟩,⟨some 11,.bin .gtr 10 (.c U2 6),some (8,false)⟩,w 12 (.pick 8 (.c .bool true) 11),m 13 12,⟨some 14,.mv 0,some (13,false)⟩,⟨some 15,.call 140 [14],some (13,false)⟩,⟨some 16,.mv 0,some (13,false)⟩,⟨some 17,.bP 16,some (13,false)⟩,⟨some 18,.bin .neq 15 17,some (13,false)⟩,w 19 (.pick 13 (.c .bool true) 18),m 20 19,⟨some 21,.mv 0,some (20,false)⟩,⟨some 22,.dX 21 (.c U2 0),some (20,false)⟩,⟨some 23,.bin .eql 22 (.c U0 48),some (20,false)⟩,⟨some 24,.mv 23,some (20,false)⟩,⟨some 25,.mv 0,some (24,true)⟩,⟨some 26,.bP 25,some (24,true)⟩,⟨some 27,.bin .gtr 26 (.c U2 1),some (24,true)⟩,⟨some 28,.pick 24 27 (.c .bool false),some (20,false)⟩,w 29 (.pick 20 (.c .bool true) 28)])) (.out [0,2,3] (.cond (.t 29) (.seq (.out [2,3] (.aa [] [w 2 (.ab (.c U2 0)),w 3 (.ab (.c .bool false))])) .ret) .skip))) (.seq (.out [0,4] (.aa [0] [w 4 (.ab (.c U2 0))])) zS)))
def D7:AC:=zT
def d119:FD:={nargs:=1,body:=D7,res:=[.t 2,.t 3]}
def Mu:AC:=(.seq (.out [0] (.aa [0] [w 2 (.ab (.c .str []))])) (.seq (.out [2] (.aa [0] [w 3 (.buildSlice 9 .str [(.c .str [97,110,121,119,104,101,114,101]),(.c .str [98,101,102,111,114,101]),(.c .str [115,116,97,114,116]),(.c .str [98,101,116,119,101,101,110]),(.c .str [110,111,116])]),m 4 0,w 5 (.indexAddr .str 3 4),w 6 (.load .str 5),w 2 (.ab 6)])) .ret))
def Ea:AC:=Mu
def d120:FD:={nargs:=1,body:=Ea,res:=[.t 2]}
def Qc:AC:=.out [2,4,5,6] (.aa [2,4,5] [w 6 (.ab (.c U2 2))])
def G8:AC:=(.seq (.seq (.out [2,4,5,6,25] (.aa [2,4,5,6] [m 21 6,m 22 4,w 23 (.aZ 22),w 24 (.bin .sub 23 (.c U2 2)),w 25 (.bin .lss 21 24)])) (.out [2,4,5,6] (.cond (.t 25) .skip (.exit 0)))) (.seq (.out [2,4,5,6] (.block 1 (.out [2,4,5,6] (.aa [2,4,5,6] [m 28 5,w 29 (.bin .add 28 (.c .str [32])),m 30 4,m 31 6,w 32 (.indexAddr .str 30 31),w 33 (.load .str 32),w 34 (.bin .add 29 33),w 5 (.ab 34)])))) (.out [2,4,5,6] (.aa [2,4,5,6] [m 26 6,w 27 (.bin .add 26 (.c U2 1)),w 6 (.ab 27)]))))
def Ha:AC:=.out [2,4,5] (.loop [2,4,5,6] G8)
def Qe:AC:=.out [2,4,5] (.block 0 Ha)
def Qf:AC:=(.seq Qc Qe)
def Qg:AC:=.out [2,4,7,9,11] (.aa [2,4,7,9] [w 11 (.ab (.c U2 0))])
def Hb:AC:=(.seq (.seq (.out [2,4,7,9,11,58] (.aa [2,4,7,9,11] [m 57 11,w 58 (.bin .leq 57 (.c U2 4))])) (.out [2,4,7,9,11] (.cond (.t 58) .skip (.exit 2)))) (.seq (.out [2,3,4,7,9,11] (.block 3 (.seq (.out [2,4,7,9,11,69] (.draw [2,4,7,9,11] [⟨m 61 4,[62,63,64,67,68],[61],[],false,[]⟩,⟨m 62 4,[61,67,68],[62],[],false,[]⟩,⟨w 63 (.aZ 62),[61,67,68],[63],[1],false,[]⟩,⟨w 64 (.bin .sub 63 (.c U2 1)),[61,67,68],[64],[1,2],false,[]⟩,⟨w 65 (.indexAddr .str 61 64),[67,68],[65],[0,1,2,3],false,[]⟩,⟨w 66 (.load .str 65),[67,68],[66],[0,1,2,3,4],false,[]⟩,⟨m 67 11,[61,62,63,64,65,66],[67],[],false,[]⟩,⟨w 68 (.call 120 [67]),[61,62,63,64,65,66],[68],[6],false,[]⟩,⟨w 69 (.bin .eql 66 68),[],[69],[0,1,2,3,4,5,6,7],false,[]⟩])) (.out [2,3,4,7,9,11] (.cond (.t 69) (.seq (.out [2,3] (.aa [2,4,7,9,11] [m 70 4,w 71 (.indexAddr .str 70 (.c U2 0)),w 72 (.load .str 71),m 73 7,m 74 9,m 75 11,w 76 (.build aD [([.l],72),([.r,.l],73),([.r,.r,.l],74),([.r,.r,.r,.l],75)]),⟨none,.store aD 2 76,none⟩,w 3 (.ab (.c .bool true))])) .ret) .skip))))) (.out [2,4,7,9,11] (.aa [2,4,7,9,11] [m 59 11,w 60 (.bin .add 59 (.c U2 1)),w 11 (.ab 60)]))))
def Hc:AC:=.out [2,3] (.loop [2,4,7,9,11] Hb)
def Qh:AC:=.out [2,3] (.block 2 Hc)
def Qi:AC:=(.seq Qg Qh)
def Qd:AC:=(.seq (.out [2,3] (.aa [2] [w 77 (.kh aD (.pair .no (.pair (.own true 40 .no) (.pair .no (.pair .no .no)))) []),⟨none,.store aD 2 77,none⟩,w 3 (.ab (.c .bool false))])) .ret)
def Ba:AC:=(.seq Qi Qd)
def G9:AC:=(.seq (.out [2,4,7,8] (.aa [2,4,5] [m 36 5,w 37 (.call 118 [36]),m 35 37,w 38 (.extract 35 0),w 39 (.extract 35 1),w 7 (.ab 38),w 8 (.ab 39)])) (.seq (.out [2,4,7,8,9,10] (.aa [2,4,7,8] [m 41 4,m 42 4,w 43 (.aZ 42),w 44 (.bin .sub 43 (.c U2 2)),w 45 (.indexAddr .str 41 44),w 46 (.load .str 45),w 47 (.call 119 [46]),m 40 47,w 48 (.extract 40 0),w 49 (.extract 40 1),w 9 (.ab 48),w 10 (.ab 49)])) (.seq (.seq (.out [2,4,7,9,55] (.aa [2,4,7,8,9,10] [m 50 8,w 51 (.bin .neq 50 (.c U2 0)),m 52 51,⟨some 53,.mv 10,some (52,false)⟩,⟨some 54,.un .not 53,some (52,false)⟩,w 55 (.pick 52 (.c .bool true) 54)])) (.out [2,3,4,7,9] (.cond (.t 55) (.seq (.out [2,3] (.aa [2] [w 56 (.kh aD (.pair .no (.pair (.own true 40 .no) (.pair .no (.pair .no .no)))) []),⟨none,.store aD 2 56,none⟩,w 3 (.ab (.c .bool false))])) .ret) .skip))) Ba)))
def Bb:AC:=(.seq Qf G9)
def Bc:AC:=(.seq (.out [0,2] (.aa [0] [w 2 (.alloc aD (.pair .no (.pair (.own true 40 .no) (.pair .no (.pair .no .no))))),w 3 (.ab (.c .bool false))])) (.seq (.out [2,4] (.aa [0,2] [m 12 0,w 13 (.call 93 [12]),w 4 (.ab 13)])) (.seq (.seq (.out [2,4,16] (.aa [2,4] [m 14 4,w 15 (.aZ 14),w 16 (.bin .lss 15 (.c U2 4))])) (.out [2,3,4] (.cond (.t 16) (.seq (.out [2,3] (.aa [2] [w 17 (.kh aD (.pair .no (.pair (.own true 40 .no) (.pair .no (.pair .no .no)))) []),⟨none,.store aD 2 17,none⟩,w 3 (.ab (.c .bool false))])) .ret) .skip))) (.seq (.out [2,4,5] (.aa [2,4] [m 18 4,w 19 (.indexAddr .str 18 (.c U2 1)),w 20 (.load .str 19),w 5 (.ab 20)])) Bb))))
def G7:AC:=Bc
def d94:FD:={nargs:=1,body:=G7,res:=[.cell 2 aD,.t 3]}
def MN:AC:=(.seq (.out [0] (.aa [0] [w 2 (.ab (.c .bool false))])) (.seq (.out [2] (.aa [0] [m 3 0,w 4 (.bin .geq 3 (.c U0 97)),m 5 4,⟨some 6,.mv 0,some (5,true)⟩,⟨some 7,.bin .leq 6 (.c U0 122),some (5,true)⟩,w 8 (.pick 5 7 (.c .bool false)),w 2 (.ab 8)])) .ret))
def Er:AC:=MN
def d135:FD:={nargs:=1,body:=Er,res:=[.t 2]}
def DW:AC:=(.seq (.seq (.out [0,3,15] (.aa [0,3] [m 12 3,m 13 0,w 14 (.bP 13),w 15 (.bin .lss 12 14)])) (.out [0,3] (.cond (.t 15) .skip (.exit 0)))) (.out [0,3] (.block 1 (.seq (.seq (.out [0,3,25] (.aa [0,3] [m 16 0,m 17 3,w 18 (.dX 16 17),w 19 (.call 135 [18]),m 20 19,⟨some 21,.mv 0,some (20,false)⟩,⟨some 22,.mv 3,some (20,false)⟩,⟨some 23,.dX 21 22,some (20,false)⟩,⟨some 24,.call 136 [23],some (20,false)⟩,w 25 (.pick 20 (.c .bool true) 24)])) (.out [0,3] (.cond (.t 25) (.seq (.out [0,3] (.aa [0,3] [m 26 3,w 27 (.bin .add 26 (.c U2 1)),w 3 (.ab 27)])) (.exit 1)) .skip))) (.seq (.seq (.out [0,3,54] (.aa [0,3] [m 28 0,m 29 3,w 30 (.dX 28 29),w 31 (.bin .neq 30 (.c U0 45)),m 32 31,⟨some 33,.mv 3,some (32,false)⟩,⟨some 34,.bin .add 33 (.c U2 1),some (32,false)⟩,⟨some 35,.mv 0,some (32,false)⟩,⟨some 36,.bP 35,some (32,false)⟩,⟨some 37,.bin .eql 34 36,some (32,false)⟩,w 38 (.pick 32 (.c .bool true) 37),m 39 38,⟨some 40,.mv 0,some (39,false)⟩,⟨some 41,.mv 3,some (39,false)⟩,⟨some 42,.bin .add 41 (.c U2 1),some (39,false)⟩,⟨some 43,.dX 40 42,some (39,false)⟩,⟨some 44,.call 135 [43],some (39,false)⟩,⟨some 45,.un .not 44,some (39,false)⟩,⟨some 46,.mv 45,some (39,false)⟩,⟨some 47,.mv 0,some (46,true)⟩,⟨some 48,.mv 3,some (46,true)⟩,⟨some 49,.bin .add 48 (.c U2 1),some (46,true)⟩,⟨some 50,.dX 47 49,some (46,true)⟩,⟨some 51,.call 136 [50],some (46,true)⟩,⟨some 52,.un .not 51,some (46,true)⟩,⟨some 53,.pick 46 52 (.c .bool false),some (39,false)⟩,w 54 (.pick 39 (.c .bool true) 53)])) (.out [0,3] (.cond (.t 54) (.exit 0) .skip))) (.out [0,3] (.aa [0,3] [m 55 3,w 56 (.bin .add 55 (.c U2 2)),w 3 (.ab 56)])))))))
def DX:AC:=.out [3] (.loop [0,3] DW)
def Mb:AC:=.out [3] (.block 0 DX)
def Mc:AC:=(.seq (.out [2] (.aa [3] [m 57 3,w 2 (.ab 57)])) .ret)
def zK:AC:=(.seq Mb Mc)
def zL:AC:=(.seq (.out [0] (.aa [0] [w 2 (.ab (.c U2 0))])) (.seq (.seq (.out [0,11] (.aa [0] [m 4 0,w 5 (.bin .eql 4 (.c .str [])),m 6 5,⟨some 7,.mv 0,some (6,false)⟩,⟨some 8,.dX 7 (.c U2 0),some (6,false)⟩,⟨some 9,.call 135 [8],some (6,false)⟩,⟨some 10,.un .not 9,some (6,false)⟩,w 11 (.pick 6 (.c .bool true) 10)])) (.out [0,2] (.cond (.t 11) (.seq (.out [2] (.aa [] [w 2 (.ab (.c U2 0))])) .ret) .skip))) (.seq (.out [0,3] (.aa [0] [w 3 (.ab (.c U2 1))])) zK)))
def DV:AC:=zL
def d115:FD:={nargs:=1,body:=DV,res:=[.t 2]}
def PZ:AC:=(.seq (.out [0] (.aa [0] [w 2 (.ab (.c .bool false))])) (.seq (.out [2] (.aa [0] [m 3 0,w 4 (.bin .neq 3 (.c .str [])),m 5 4,⟨some 6,.mv 0,some (5,true)⟩,⟨some 7,.bP 6,some (5,true)⟩,⟨some 8,.bin .leq 7 (.c U2 20),some (5,true)⟩,w 9 (.pick 5 8 (.c .bool false)),m 10 9,⟨some 11,.mv 0,some (10,true)⟩,⟨some 12,.call 115 [11],some (10,true)⟩,⟨some 13,.mv 0,some (10,true)⟩,⟨some 14,.bP 13,some (10,true)⟩,⟨some 15,.bin .eql 12 14,some (10,true)⟩,w 16 (.pick 10 15 (.c .bool false)),w 2 (.ab 16)])) .ret))
def GU:AC:=PZ
def d90:FD:={nargs:=1,body:=GU,res:=[.t 2]}
def L6:AC:=.out [0,3] (.aa [0] [w 3 (.ab (.c U2 0))])
def DS:AC:=(.seq (.seq (.out [0,3,11] (.aa [0,3] [m 10 3,w 11 (.bin .lss 10 (.c U2 15))])) (.out [0,3] (.cond (.t 11) .skip (.exit 0)))) (.seq (.out [0,2,3] (.block 1 (.seq (.out [0,3,17] (.aa [0,3] [m 14 3,w 15 (.dX (.c .str [32,46,44,59,58,33,63,34,45,91,93,60,62,123,125]) 14),m 16 0,w 17 (.bin .eql 15 16)])) (.out [0,2,3] (.cond (.t 17) (.seq (.out [2] (.aa [] [w 2 (.ab (.c .bool false))])) .ret) .skip))))) (.out [0,3] (.aa [0,3] [m 12 3,w 13 (.bin .add 12 (.c U2 1)),w 3 (.ab 13)]))))
def DT:AC:=.out [2] (.loop [0,3] DS)
def L7:AC:=.out [2] (.block 0 DT)
def L8:AC:=(.seq L6 L7)
def L9:AC:=(.seq (.out [2] (.aa [] [w 2 (.ab (.c .bool true))])) .ret)
def zI:AC:=(.seq L8 L9)
def zJ:AC:=(.seq (.out [0] (.aa [0] [w 2 (.ab (.c .bool false))])) (.seq (.seq (.out [0,9] (.aa [0] [m 4 0,w 5 (.bin .lss 4 (.c U0 32)),m 6 5,⟨some 7,.mv 0,some (6,false)⟩,⟨some 8,.bin .gtr 7 (.c U0 126),some (6,false)⟩,w 9 (.pick 6 (.c .bool true) 8)])) (.out [0,2] (.cond (.t 9) (.seq (.out [2] (.aa [] [w 2 (.ab (.c .bool false))])) .ret) .skip))) zI))
def DR:AC:=zJ
def d111:FD:={nargs:=1,body:=DR,res:=[.t 2]}
def Md:AC:=.out [0,3] (.aa [0] [w 3 (.ab (.c U2 0))])
def DZ:AC:=(.seq (.seq (.out [0,3,12] (.aa [0,3] [m 9 3,m 10 0,w 11 (.bP 10),w 12 (.bin .lss 9 11)])) (.out [0,3] (.cond (.t 12) .skip (.exit 0)))) (.seq (.out [0,2,3] (.block 1 (.seq (.out [0,3,31] (.aa [0,3] [m 15 0,m 16 3,w 17 (.dX 15 16),w 18 (.call 111 [17]),w 19 (.un .not 18),m 20 19,⟨some 21,.mv 0,some (20,false)⟩,⟨some 22,.mv 3,some (20,false)⟩,⟨some 23,.dX 21 22,some (20,false)⟩,⟨some 24,.bin .geq 23 (.c U0 65),some (20,false)⟩,⟨some 25,.mv 24,some (20,false)⟩,⟨some 26,.mv 0,some (25,true)⟩,⟨some 27,.mv 3,some (25,true)⟩,⟨some 28,.dX 26 27,some (25,true)⟩,⟨some 29,.bin .leq 28 (.c U0 90),some (25,true)⟩,⟨some 30,.pick 25 29 (.c .bool false),some (20,false)⟩,w 31 (.pick 20 (.c .bool true) 30)])) (.out [0,2,3] (.cond (.t 31) (.seq (.out [2] (.aa [] [w 2 (.ab (.c U2 2))])) .ret) .skip))))) (.out [0,3] (.aa [0,3] [m 13 3,w 14 (.bin .add 13 (.c U2 1)),w 3 (.ab 14)]))))
def D0:AC:=.out [2] (.loop [0,3] DZ)
def Me:AC:=.out [2] (.block 0 D0)
def Mf:AC:=(.seq Md Me)
def Mg:AC:=(.seq (.out [2] (.aa [] [w 2 (.ab (.c U2 0))])) .ret)
def zM:AC:=(.seq Mf Mg)
def zN:AC:=(.seq (.out [0] (.aa [0] [w 2 (.ab (.c U2 0))])) (.seq (.seq (.out [0,5] (.aa [0] [m 4 0,w 5 (.bin .eql 4 (.c .str []))])) (.out [0,2] (.cond (.t 5) (.seq (.out [2] (.aa [] [w 2 (.ab (.c U2 7))])) .ret) .skip))) (.seq (.seq (.out [0,8] (.aa [0] [m 6 0,w 7 (.bP 6),w 8 (.bin .gtr 7 (.c U2 4))])) (.out [0,2] (.cond (.t 8) (.seq (.out [2] (.aa [] [w 2 (.ab (.c U2 3))])) .ret) .skip))) zM)))
def DY:AC:=zN
def d116:FD:={nargs:=1,body:=DY,res:=[.t 2]}
def P0:AC:=.out [1,4] (.aa [1] [w 4 (.ab (.c U2 0))])
def GW:AC:=(.seq (.seq (.out [1,4,24] (.aa [1,4] [m 20 4,w 21 (.fieldAddr aD [.r,.l] 1),w 22 (.load bB 21),w 23 (.aZ 22),w 24 (.bin .lss 20 23)])) (.out [1,4] (.cond (.t 24) .skip (.exit 0)))) (.seq (.out [1,2,4] (.block 1 (.seq (.out [1,4,5] (.aa [1,4] [w 27 (.fieldAddr aD [.r,.l] 1),w 28 (.load bB 27),m 29 4,w 30 (.indexAddr aB 28 29),w 31 (.load aB 30),w 32 (.call 117 [31]),w 5 (.ab 32)])) (.seq (.out [1,4,5,34] (.aa [1,4,5] [m 33 5,w 34 (.bin .neq 33 (.c U2 0))])) (.out [1,2,4] (.cond (.t 34) (.seq (.out [2] (.aa [5] [m 35 5,w 2 (.ab 35)])) .ret) .skip)))))) (.out [1,4] (.aa [1,4] [m 25 4,w 26 (.bin .add 25 (.c U2 1)),w 4 (.ab 26)]))))
def GX:AC:=.out [1,2] (.loop [1,4] GW)
def P1:AC:=.out [1,2] (.block 0 GX)
def P2:AC:=(.seq P0 P1)
def P3:AC:=(.seq (.seq (.out [53] (.aa [1] [w 36 (.fieldAddr aD [.r,.r,.l] 1),w 37 (.load U2 36),w 38 (.bin .lss 37 (.c U2 0)),m 39 38,⟨some 40,.fieldAddr aD [.r,.r,.l] 1,some (39,false)⟩,⟨some 41,.load U2 40,some (39,false)⟩,⟨some 42,.bin .gtr 41 (.c U2 99),some (39,false)⟩,w 43 (.pick 39 (.c .bool true) 42),m 44 43,⟨some 45,.fieldAddr aD [.r,.r,.r,.l] 1,some (44,false)⟩,⟨some 46,.load U2 45,some (44,false)⟩,⟨some 47,.bin .lss 46 (.c U2 0),some (44,false)⟩,w 48 (.pick 44 (.c .bool true) 47),m 49 48,⟨some 50,.fieldAddr aD [.r,.r,.r,.l] 1,some (49,false)⟩,⟨some 51,.load U2 50,some (49,false)⟩,⟨some 52,.bin .gtr 51 (.c U2 4),some (49,false)⟩,w 53 (.pick 49 (.c .bool true) 52)])) (.out [2] (.cond (.t 53) (.seq (.out [2] (.aa [] [w 2 (.ab (.c U2 6))])) .ret) .skip))) (.seq (.out [2] (.aa [] [w 2 (.ab (.c U2 0))])) .ret))
def A4:AC:=(.seq P2 P3)
def A5:AC:=(.seq (.out [1] (.aa [0] [w 1 (.box aD 0),w 2 (.ab (.c U2 0))])) (.seq (.seq (.out [1,3] (.aa [1] [w 6 (.fieldAddr aD [.l] 1),w 7 (.load .str 6),w 8 (.call 116 [7]),w 3 (.ab 8)])) (.seq (.out [1,3,10] (.aa [1,3] [m 9 3,w 10 (.bin .neq 9 (.c U2 0))])) (.out [1,2] (.cond (.t 10) (.seq (.out [2] (.aa [3] [m 11 3,w 2 (.ab 11)])) .ret) .skip)))) (.seq (.seq (.out [1,15] (.aa [1] [w 12 (.fieldAddr aD [.r,.l] 1),w 13 (.load bB 12),w 14 (.aZ 13),w 15 (.bin .eql 14 (.c U2 0))])) (.out [1,2] (.cond (.t 15) (.seq (.out [2] (.aa [] [w 2 (.ab (.c U2 7))])) .ret) .skip))) (.seq (.seq (.out [1,19] (.aa [1] [w 16 (.fieldAddr aD [.r,.l] 1),w 17 (.load bB 16),w 18 (.aZ 17),w 19 (.bin .gtr 18 (.c U2 2))])) (.out [1,2] (.cond (.t 19) (.seq (.out [2] (.aa [] [w 2 (.ab (.c U2 3))])) .ret) .skip))) A4))))
def GV:AC:=A5
def d91:FD:={nargs:=1,body:=GV,res:=[.t 2]}
def PX:AC:=(.seq (.out [0,1] (.aa [0,1] [w 4 (.ab (.c U2 0))])) (.seq (.seq (.out [0,1,7] (.aa [0,1] [m 5 0,m 6 1,w 7 (.bin .lss 5 6)])) (.out [0,1,4] (.cond (.t 7) (.seq (.out [4] (.aa [] [w 4 (.ab (.c U2 (-1)))])) .ret) .skip))) (.seq (.seq (.out [10] (.aa [0,1] [m 8 0,m 9 1,w 10 (.bin .gtr 8 9)])) (.out [4] (.cond (.t 10) (.seq (.out [4] (.aa [] [w 4 (.ab (.c U2 1))])) .ret) .skip))) (.seq (.out [4] (.aa [] [w 4 (.ab (.c U2 0))])) .ret))))
def GR:AC:=PX
def d86:FD:={nargs:=2,body:=GR,res:=[.t 4]}
def Pd:AC:=(.seq (.out [2,3] (.aa [0,1] [w 2 (.box aB 0),w 3 (.box aB 1),w 4 (.ab (.c U2 0))])) (.seq (.seq (.out [2,3,5] (.aa [2,3] [w 7 (.fieldAddr aB [.l] 2),w 8 (.load U2 7),w 9 (.fieldAddr aB [.l] 3),w 10 (.load U2 9),w 11 (.call 86 [8,10]),w 5 (.ab 11)])) (.seq (.out [2,3,5,13] (.aa [2,3,5] [m 12 5,w 13 (.bin .neq 12 (.c U2 0))])) (.out [2,3,4] (.cond (.t 13) (.seq (.out [4] (.aa [5] [m 14 5,w 4 (.ab 14)])) .ret) .skip)))) (.seq (.seq (.out [2,3,6] (.aa [2,3] [w 15 (.fieldAddr aB [.r,.l] 2),w 16 (.load U2 15),w 17 (.fieldAddr aB [.r,.l] 3),w 18 (.load U2 17),w 19 (.call 86 [16,18]),w 6 (.ab 19)])) (.seq (.out [2,3,6,21] (.aa [2,3,6] [m 20 6,w 21 (.bin .neq 20 (.c U2 0))])) (.out [2,3,4] (.cond (.t 21) (.seq (.out [4] (.aa [6] [m 22 6,w 4 (.ab 22)])) .ret) .skip)))) (.seq (.seq (.out [2,3,27] (.aa [2,3] [w 23 (.fieldAddr aB [.r,.r,.l] 2),w 24 (.load .str 23),w 25 (.fieldAddr aB [.r,.r,.l] 3),w 26 (.load .str 25),w 27 (.bin .lss 24 26)])) (.out [2,3,4] (.cond (.t 27) (.seq (.out [4] (.aa [] [w 4 (.ab (.c U2 (-1)))])) .ret) .skip))) (.seq (.seq (.out [32] (.aa [2,3] [w 28 (.fieldAddr aB [.r,.r,.l] 2),w 29 (.load .str 28),w 30 (.fieldAddr aB [.r,.r,.l] 3),w 31 (.load .str 30),w 32 (.bin .gtr 29 31)])) (.out [4] (.cond (.t 32) (.seq (.out [4] (.aa [] [w 4 (.ab (.c U2 1))])) .ret) .skip))) (.seq (.out [4] (.aa [] [w 4 (.ab (.c U2 0))])) .ret))))))
def Gp:AC:=Pd
def d59:FD:={nargs:=2,body:=Gp,res:=[.t 4]}
def N9:AC:=.out [0,1,5] (.aa [0,1] [w 5 (.ab (.c U2 0))])
def FA:AC:=(.seq (.seq (.out [0,1,5,14] (.aa [0,1,5] [m 11 5,m 12 0,w 13 (.aZ 12),w 14 (.bin .lss 11 13)])) (.out [0,1,5] (.cond (.t 14) .skip (.exit 0)))) (.seq (.out [0,1,4,5] (.block 1 (.seq (.out [0,1,5,26] (.draw [0,1,5] [⟨m 17 0,[18,21,22,23,24],[17],[],false,[]⟩,⟨m 18 5,[17,21,22,23,24],[18],[],false,[]⟩,⟨w 19 (.indexAddr aB 17 18),[21,22,23,24],[19],[0,1],false,[]⟩,⟨w 20 (.load aB 19),[21,22,23,24],[20],[0,1,2],false,[]⟩,⟨m 21 1,[17,18,19,20,22],[21],[],false,[]⟩,⟨m 22 5,[17,18,19,20,21],[22],[],false,[]⟩,⟨w 23 (.indexAddr aB 21 22),[17,18,19,20],[23],[4,5],false,[]⟩,⟨w 24 (.load aB 23),[17,18,19,20],[24],[4,5,6],false,[]⟩,⟨w 25 (.call 59 [20,24]),[],[25],[0,1,2,3,4,5,6,7],false,[]⟩,⟨w 26 (.bin .neq 25 (.c U2 0)),[],[26],[0,1,2,3,4,5,6,7,8],false,[]⟩])) (.out [0,1,4,5] (.cond (.t 26) (.seq (.out [4] (.aa [] [w 4 (.ab (.c .bool false))])) .ret) .skip))))) (.out [0,1,5] (.aa [0,1,5] [m 15 5,w 16 (.bin .add 15 (.c U2 1)),w 5 (.ab 16)]))))
def FB:AC:=.out [4] (.loop [0,1,5] FA)
def Oa:AC:=.out [4] (.block 0 FB)
def Ob:AC:=(.seq N9 Oa)
def Oc:AC:=(.seq (.out [4] (.aa [] [w 4 (.ab (.c .bool true))])) .ret)
def Ax:AC:=(.seq Ob Oc)
def Ay:AC:=(.seq (.out [0,1] (.aa [0,1] [w 4 (.ab (.c .bool false))])) (.seq (.seq (.out [0,1,10] (.aa [0,1] [m 6 0,w 7 (.aZ 6),m 8 1,w 9 (.aZ 8),w 10 (.bin .neq 7 9)])) (.out [0,1,4] (.cond (.t 10) (.seq (.out [4] (.aa [] [w 4 (.ab (.c .bool false))])) .ret) .skip))) Ax))
def Fy:AC:=Ay
def d28:FD:={nargs:=2,body:=Fy,res:=[.t 4]}
def Pm:AC:=.out [1,4] (.aa [1] [w 4 (.ab (.c U2 0))])
def Gv:AC:=(.seq (.seq (.out [1,4,6,40] (.aa [1,4,6] [m 38 6,m 39 4,w 40 (.bin .lss 38 39)])) (.out [1,4,6] (.cond (.t 40) .skip (.exit 2)))) (.seq (.out [1,2,3,4,6] (.block 3 (.seq (.out [1,4,6,7,8] (.draw [1,4,6] [⟨w 43 (.fieldAddr ak [.r,.l] 1),[7,8,45,48,49,50,51,52],[43],[],false,[]⟩,⟨w 44 (.load cR 43),[7,8,45,48,49,50,51,52],[44],[0],false,[]⟩,⟨m 45 4,[7,8,43,44,48,49,50,51,52],[45],[],false,[]⟩,⟨w 46 (.indexAddr aD 44 45),[7,8,48,49,50,51,52],[46],[0,1,2],false,[]⟩,⟨w 47 (.load aD 46),[7,8,48,49,50,51,52],[47],[0,1,2,3],false,[]⟩,⟨w 48 (.fieldAddr ak [.r,.l] 1),[7,8,43,44,45,46,47,50],[48],[],false,[]⟩,⟨w 49 (.load cR 48),[7,8,43,44,45,46,47,50],[49],[5],false,[]⟩,⟨m 50 6,[7,8,43,44,45,46,47,48,49],[50],[],false,[]⟩,⟨w 51 (.indexAddr aD 49 50),[7,8,43,44,45,46,47],[51],[5,6,7],false,[]⟩,⟨w 52 (.load aD 51),[7,8,43,44,45,46,47],[52],[5,6,7,8],false,[]⟩,⟨w 7 (.alloc aD .no),[8,43,44,45,46,47,48,49,50,51,52],[7],[],false,[]⟩,⟨w 8 (.alloc aD (.pair .no (.pair (.own true 40 .no) (.pair .no (.pair .no .no))))),[7,43,44,45,46,47,48,49,50,51,52],[8],[],false,[]⟩,⟨⟨none,.store aD 7 47,none⟩,[48,49,50,51,52],[7],[0,1,2,3,4,10,11],false,[]⟩,⟨⟨none,.store aD 8 52,none⟩,[],[8],[0,1,2,3,4,5,6,7,8,9,10,11,12],true,[]⟩])) (.seq (.out [1,4,6,71] (.aa [1,4,6,7,8] [w 53 (.fieldAddr aD [.l] 7),w 54 (.load .str 53),w 55 (.fieldAddr aD [.l] 8),w 56 (.load .str 55),w 57 (.bin .eql 54 56),m 58 57,⟨some 59,.fieldAddr aD [.r,.r,.r,.l] 7,some (58,true)⟩,⟨some 60,.load U2 59,some (58,true)⟩,⟨some 61,.fieldAddr aD [.r,.r,.r,.l] 8,some (58,true)⟩,⟨some 62,.load U2 61,some (58,true)⟩,⟨some 63,.bin .eql 60 62,some (58,true)⟩,w 64 (.pick 58 63 (.c .bool false)),m 65 64,⟨some 66,.fieldAddr aD [.r,.l] 7,some (65,true)⟩,⟨some 67,.load bB 66,some (65,true)⟩,⟨some 68,.fieldAddr aD [.r,.l] 8,some (65,true)⟩,⟨some 69,.load bB 68,some (65,true)⟩,⟨some 70,.call 28 [67,69],some (65,true)⟩,w 71 (.pick 65 70 (.c .bool false))])) (.out [1,2,3,4,6] (.cond (.t 71) (.seq (.out [2,3] (.aa [4] [m 72 4,w 2 (.ab 72),w 3 (.ab (.c U2 5))])) .ret) .skip)))))) (.out [1,4,6] (.aa [1,4,6] [m 41 6,w 42 (.bin .add 41 (.c U2 1)),w 6 (.ab 42)]))))
def Gw:AC:=.out [1,2,3,4] (.loop [1,4,6] Gv)
def AV:AC:=.out [1,2,3,4] (.block 2 Gw)
def Gx:AC:=(.seq (.seq (.out [1,4,5] (.aa [1,4] [w 28 (.fieldAddr ak [.r,.l] 1),w 29 (.load cR 28),m 30 4,w 31 (.indexAddr aD 29 30),w 32 (.load aD 31),w 33 (.call 91 [32]),w 5 (.ab 33)])) (.seq (.out [1,4,5,35] (.aa [1,4,5] [m 34 5,w 35 (.bin .neq 34 (.c U2 0))])) (.out [1,2,3,4] (.cond (.t 35) (.seq (.out [2,3] (.aa [4,5] [m 36 4,m 37 5,w 2 (.ab 36),w 3 (.ab 37)])) .ret) .skip)))) (.seq (.out [1,4,6] (.aa [1,4] [w 6 (.ab (.c U2 0))])) AV))
def Pq:AC:=.out [1,2,3,4] (.block 1 Gx)
def Pr:AC:=.out [1,4] (.aa [1,4] [m 26 4,w 27 (.bin .add 26 (.c U2 1)),w 4 (.ab 27)])
def AW:AC:=(.seq Pq Pr)
def uu:AC:=(.seq (.seq (.out [1,4,25] (.aa [1,4] [m 21 4,w 22 (.fieldAddr ak [.r,.l] 1),w 23 (.load cR 22),w 24 (.aZ 23),w 25 (.bin .lss 21 24)])) (.out [1,4] (.cond (.t 25) .skip (.exit 0)))) AW)
def Gy:AC:=.out [2,3] (.loop [1,4] uu)
def Pn:AC:=.out [2,3] (.block 0 Gy)
def Po:AC:=(.seq Pm Pn)
def Pp:AC:=(.seq (.out [2,3] (.aa [] [w 2 (.ab (.c U2 (-1))),w 3 (.ab (.c U2 0))])) .ret)
def AT:AC:=(.seq Po Pp)
def AU:AC:=(.seq (.out [1] (.aa [0] [w 1 (.box ak 0),w 2 (.ab (.c U2 0)),w 3 (.ab (.c U2 0))])) (.seq (.seq (.out [1,12] (.aa [1] [w 9 (.fieldAddr ak [.l] 1),w 10 (.load .str 9),w 11 (.call 90 [10]),w 12 (.un .not 11)])) (.out [1,2,3] (.cond (.t 12) (.seq (.out [2,3] (.aa [] [w 2 (.ab (.c U2 (-1))),w 3 (.ab (.c U2 2))])) .ret) .skip))) (.seq (.seq (.out [1,16] (.aa [1] [w 13 (.fieldAddr ak [.r,.l] 1),w 14 (.load cR 13),w 15 (.aZ 14),w 16 (.bin .eql 15 (.c U2 0))])) (.out [1,2,3] (.cond (.t 16) (.seq (.out [2,3] (.aa [] [w 2 (.ab (.c U2 (-1))),w 3 (.ab (.c U2 7))])) .ret) .skip))) (.seq (.seq (.out [1,20] (.aa [1] [w 17 (.fieldAddr ak [.r,.l] 1),w 18 (.load cR 17),w 19 (.aZ 18),w 20 (.bin .gtr 19 (.c U2 120))])) (.out [1,2,3] (.cond (.t 20) (.seq (.out [2,3] (.aa [] [w 2 (.ab (.c U2 (-1))),w 3 (.ab (.c U2 3))])) .ret) .skip))) AT))))
def Gu:AC:=AU
def d67:FD:={nargs:=1,body:=Gu,res:=[.t 2,.t 3]}
def Pt:AC:=.out [0,2,5,6,7] (.aa [0,2,5,6] [w 7 (.ab (.c U2 0))])
def Pu:AC:=(.seq (.out [0,2,5,6,7,28] (.aa [0,2,5,6,7] [m 25 7,m 26 5,w 27 (.aZ 26),w 28 (.bin .lss 25 27)])) (.out [0,2,5,6,7] (.cond (.t 28) .skip (.exit 0))))
def Py:AC:=.out [0,2,5,6,7,8] (.aa [0,2,5,6,7] [m 31 7,m 32 5,w 33 (.aZ 32),w 34 (.bin .sub 33 (.c U2 1)),w 35 (.bin .eql 31 34),m 36 35,⟨some 37,.mv 0,some (36,true)⟩,⟨some 38,.mv 0,some (36,true)⟩,⟨some 39,.bP 38,some (36,true)⟩,⟨some 40,.bin .sub 39 (.c U2 1),some (36,true)⟩,⟨some 41,.dX 37 40,some (36,true)⟩,⟨some 42,.bin .neq 41 (.c U0 10),some (36,true)⟩,w 43 (.pick 36 42 (.c .bool false)),w 8 (.ab 43)])
def Pz:AC:=(.seq (.out [0,2,5,6,7,8,9] (.aa [0,2,5,6,7,8] [m 44 5,m 45 7,w 46 (.indexAddr .str 44 45),w 47 (.load .str 46),w 48 (.call 93 [47]),w 9 (.ab 48)])) (.seq (.out [0,2,5,6,7,8,9,10,11] (.aa [0,2,5,6,7,8,9] [m 50 5,m 51 7,w 52 (.indexAddr .str 50 51),w 53 (.load .str 52),w 54 (.call 94 [53]),m 49 54,w 55 (.extract 49 0),w 56 (.extract 49 1),w 10 (.alloc aD (.pair .no (.pair (.own true 40 .no) (.pair .no (.pair .no .no))))),⟨none,.store aD 10 55,none⟩,w 11 (.ab 56)])) (.seq (.seq (.out [0,2,5,6,7,8,9,10,11,58] (.aa [0,2,5,6,7,8,9,10,11] [m 57 7,w 58 (.bin .eql 57 (.c U2 0))])) (.out [0,2,5,6,7,8,9,10,11] (.cond (.t 58) (.out [0,2,5,6,7,8,9,10,11] (.aa [0,2,5,6,7,8,9,10] [m 59 9,w 60 (.aZ 59),w 61 (.bin .eql 60 (.c U2 2)),m 62 61,⟨some 63,.mv 9,some (62,true)⟩,⟨some 64,.indexAddr .str 63 (.c U2 0),some (62,true)⟩,⟨some 65,.load .str 64,some (62,true)⟩,⟨some 66,.bin .eql 65 (.c .str [111,114,116,104,111,103,114,97,112,104,121]),some (62,true)⟩,w 67 (.pick 62 66 (.c .bool false)),w 11 (.ab 67)])) .skip))) (.seq (.seq (.out [0,2,5,6,7,9,10,72] (.aa [0,2,5,6,7,8,9,10,11] [m 68 8,m 69 68,⟨some 70,.mv 11,some (69,false)⟩,⟨some 71,.un .not 70,some (69,false)⟩,w 72 (.pick 69 (.c .bool true) 71)])) (.out [0,2,3,4,5,6,7,9,10] (.cond (.t 72) (.seq (.out [2,3,4] (.aa [2,7] [w 73 (.kh ak (.pair .no (.pair (.own true 43 .no) .no)) []),m 74 7,w 75 (.bin .add 74 (.c U2 1)),⟨none,.store ak 2 73,none⟩,w 3 (.ab 75),w 4 (.ab (.c U2 2))])) .ret) .skip))) (.seq (.out [0,2,5,6,7,9,10,77] (.aa [0,2,5,6,7,9,10] [m 76 7,w 77 (.bin .eql 76 (.c U2 0))])) (.out [0,2,5,6,7] (.cond (.t 77) (.out [0,2,5,6,7] (.aa [0,2,5,6,7,9] [m 78 9,w 79 (.indexAddr .str 78 (.c U2 1)),w 80 (.load .str 79),w 81 (.fieldAddr ak [.l] 6),⟨none,.store .str 81 80,none⟩])) (.out [0,2,5,6,7] (.aa [0,2,5,6,7,10] [w 82 (.fieldAddr ak [.r,.l] 6),w 83 (.load cR 82),w 84 (.load aD 10),w 85 (.buildSlice 43 aD [84]),w 86 (.append 43 aD 2513169434916 83 85),w 87 (.fieldAddr ak [.r,.l] 6),⟨none,.store cR 87 86,none⟩])))))))))
def PA:AC:=(.seq Py Pz)
def PB:AC:=.out [0,2,3,4,5,6,7] (.block 1 PA)
def PC:AC:=.out [0,2,5,6,7] (.aa [0,2,5,6,7] [m 29 7,w 30 (.bin .add 29 (.c U2 1)),w 7 (.ab 30)])
def PD:AC:=(.seq PB PC)
def AZ:AC:=(.seq Pu PD)
def GB:AC:=.out [2,3,4,6] (.loop [0,2,5,6,7] AZ)
def Pv:AC:=.out [2,3,4,6] (.block 0 GB)
def Pw:AC:=(.seq Pt Pv)
def Px:AC:=(.seq (.seq (.out [2,6,12,13] (.aa [2,6] [w 89 (.load ak 6),w 90 (.call 67 [89]),m 88 90,w 91 (.extract 88 0),w 92 (.extract 88 1),w 12 (.ab 91),w 13 (.ab 92)])) (.seq (.out [2,6,12,13,94] (.aa [2,6,12,13] [m 93 13,w 94 (.bin .neq 93 (.c U2 0))])) (.out [2,3,4,6] (.cond (.t 94) (.seq (.out [2,12,13,14] (.aa [2,12,13] [w 14 (.ab (.c U2 1))])) (.seq (.seq (.out [2,12,13,14,96] (.aa [2,12,13,14] [m 95 12,w 96 (.bin .geq 95 (.c U2 0))])) (.out [2,13,14] (.cond (.t 96) (.out [2,13,14] (.aa [2,12,13] [m 97 12,w 98 (.bin .add 97 (.c U2 2)),w 14 (.ab 98)])) .skip))) (.seq (.out [2,3,4] (.aa [2,13,14] [w 99 (.kh ak (.pair .no (.pair (.own true 43 .no) .no)) []),m 100 14,m 101 13,⟨none,.store ak 2 99,none⟩,w 3 (.ab 100),w 4 (.ab 101)])) .ret))) .skip)))) (.seq (.out [2,3,4] (.aa [2,6] [w 102 (.load ak 6),⟨none,.store ak 2 102,none⟩,w 3 (.ab (.c U2 0)),w 4 (.ab (.c U2 0))])) .ret))
def AX:AC:=(.seq Pw Px)
def AY:AC:=(.seq (.out [0,2] (.aa [0] [w 2 (.alloc ak (.pair .no (.pair (.own true 43 .no) .no))),w 3 (.ab (.c U2 0)),w 4 (.ab (.c U2 0))])) (.seq (.seq (.out [0,2,17] (.aa [0,2] [m 15 0,w 16 (.bP 15),w 17 (.bin .gtr 16 (.c U2 20000))])) (.out [0,2,3,4] (.cond (.t 17) (.seq (.out [2,3,4] (.aa [2] [w 18 (.kh ak (.pair .no (.pair (.own true 43 .no) .no)) []),⟨none,.store ak 2 18,none⟩,w 3 (.ab (.c U2 0)),w 4 (.ab (.c U2 3))])) .ret) .skip))) (.seq (.out [0,2,5] (.aa [0,2] [m 19 0,w 20 (.call 92 [19]),w 5 (.ab 20)])) (.seq (.seq (.out [0,2,5,23] (.aa [0,2,5] [m 21 5,w 22 (.aZ 21),w 23 (.bin .eql 22 (.c U2 0))])) (.out [0,2,3,4,5] (.cond (.t 23) (.seq (.out [2,3,4] (.aa [2] [w 24 (.kh ak (.pair .no (.pair (.own true 43 .no) .no)) []),⟨none,.store ak 2 24,none⟩,w 3 (.ab (.c U2 1)),w 4 (.ab (.c U2 2))])) .ret) .skip))) (.seq (.out [0,2,5,6] (.aa [0,2,5] [w 6 (.alloc ak (.pair .no (.pair (.own true 43 .no) .no)))])) AX)))))
def GA:AC:=AY
def d69:FD:={nargs:=1,body:=GA,res:=[.cell 2 ak,.t 3,.t 4]}
def OC:AC:=(.seq (.out [0] (.aa [] [w 0 (.alloc ak (.pair .no (.pair (.own true 43 .no) .no)))])) (.seq (.out [0,1] (.aa [0] [w 5 (.call 69 [(.c .str [111,114,116,104,111,103,114,97,112,104,121,32,108,97,116,105,110,10,97,32,97,47,118,51,32,49,32,97,110,121,119,104,101,114,101,10,101,32,101,47,118,51,32,49,32,97,110,121,119,104,101,114,101,10,105,32,105,47,118,51,32,49,32,97,110,121,119,104,101,114,101,10,111,32,111,47,118,51,32,49,32,97,110,121,119,104,101,114,101,10,117,32,117,47,118,51,32,49,32,97,110,121,119,104,101,114,101,10,121,32,121,47,118,51,32,49,32,97,110,121,119,104,101,114,101,10,97,95,32,97,95,47,118,50,32,49,32,97,110,121,119,104,101,114,101,10,101,95,32,101,95,47,118,50,32,49,32,97,110,121,119,104,101,114,101,10,105,95,32,105,95,47,118,50,32,49,32,97,110,121,119,104,101,114,101,10,111,95,32,111,95,47,118,50,32,49,32,97,110,121,119,104,101,114,101,10,117,95,32,117,95,47,118,50,32,49,32,97,110,121,119,104,101,114,101,10,121,95,32,121,95,47,118,50,32,49,32,97,110,121,119,104,101,114,101,10,97,94,32,97,94,47,118,49,32,49,32,97,110,121,119,104,101,114,101,10,101,94,32,101,94,47,118,49,32,49,32,97,110,121,119,104,101,114,101,10,105,94,32,105,94,47,118,49,32,49,32,97,110,121,119,104,101,114,101,10,111,94,32,111,94,47,118,49,32,49,32,97,110,121,119,104,101,114,101,10,117,94,32,117,94,47,118,49,32,49,32,97,110,121,119,104,101,114,101,10,121,94,32,121,94,47,118,49,32,49,32,97,110,121,119,104,101,114,101,10,97,101,32,97,101,47,100,50,32,49,32,97,110,121,119,104,101,114,101,10,97,117,32,97,117,47,100,50,32,49,32,97,110,121,119,104,101,114,101,10,111,101,32,111,101,47,100,50,32,49,32,97,110,121,119,104,101,114,101,10,101,117,32,101,117,47,100,50,32,51,32,97,110,121,119,104,101,114,101,10,105,32,105,47,103,32,48,32,115,116,97,114,116,10,105,32,105,47,103,32,105,47,103,32,48,32,98,101,116,119,101,101,110,10,117,32,117,47,103,32,48,32,115,116,97,114,116,10,117,32,117,47,103,32,48,32,98,101,116,119,101,101,110,10,106,32,106,47,103,32,48,32,97,110,121,119,104,101,114,101,10,118,32,118,47,103,32,48,32,97,110,121,119,104,101,114,101,10,113,117,32,113,117,47,109,32,48,32,98,101,102,111,114,101,10,103,117,32,103,117,47,109,32,50,32,98,101,102,111,114,101,10,115,117,32,115,47,115,32,117,47,103,32,51,32,98,101,102,111,114,101,10,98,32,98,47,109,32,48,32,97,110,121,119,104,101,114,101,10,99,32,99,47,109,32,48,32,97,110,121,119,104,101,114,101,10,100,32,100,47,109,32,48,32,97,110,121,119,104,101,114,101,10,102,32,102,47,109,32,48,32,97,110,121,119,104,101,114,101,10,103,32,103,47,109,32,48,32,97,110,121,119,104,101,114,101,10,107,32,107,47,109,32,48,32,97,110,121,119,104,101,114,101,10,112,32,112,47,109,32,48,32,97,110,121,119,104,101,114,101,10,116,32,116,47,109,32,48,32,97,110,121,119,104,101,114,101,10,108,32,108,47,108,32,48,32,97,110,121,119,104,101,114,101,10,114,32,114,47,108,32,48,32,97,110,121,119,104,101,114,101,10,109,32,109,47,110,32,48,32,97,110,121,119,104,101,114,101,10,110,32,110,47,110,32,48,32,97,110,121,119,104,101,114,101,10,115,32,115,47,115,32,48,32,97,110,121,119,104,101,114,101,10,120,32,120,47,120,32,48,32,97,110,121,119,104,101,114,101,10,122,32,122,47,120,32,48,32,97,110,121,119,104,101,114,101,10,104,32,104,47,98,32,48,32,97,110,121,119,104,101,114,101,10])]),m 4 5,w 6 (.extract 4 0),w 7 (.extract 4 1),w 8 (.extract 4 2),w 1 (.alloc ak (.pair .no (.pair (.own true 43 .no) .no))),⟨none,.store ak 1 6,none⟩,w 2 (.ab 7),w 3 (.ab 8)])) (.seq (.out [0] (.aa [0,1] [w 9 (.load ak 1),⟨none,.store ak 0 9,none⟩])) .ret)))
def FQ:AC:=OC
def d37:FD:={nargs:=0,body:=FQ,res:=[.cell 0 ak]}
def Ng:AC:=(.seq (.out [0] (.aa [0] [w 2 (.ab (.c .bool false))])) (.seq (.out [2] (.aa [0] [m 3 0,w 4 (.bin .geq 3 (.c U0 97)),m 5 4,⟨some 6,.mv 0,some (5,true)⟩,⟨some 7,.bin .leq 6 (.c U0 122),some (5,true)⟩,w 8 (.pick 5 7 (.c .bool false)),w 2 (.ab 8)])) .ret))
def ES:AC:=Ng
def d149:FD:={nargs:=1,body:=ES,res:=[.t 2]}
def Nh:AC:=(.seq (.out [0] (.aa [0] [w 2 (.ab (.c .bool false))])) (.seq (.out [2] (.aa [0] [m 3 0,w 4 (.bin .geq 3 (.c U0 48)),m 5 4,⟨some 6,.mv 0,some (5,true)⟩,⟨some 7,.bin .leq 6 (.c U0 57),some (5,true)⟩,w 8 (.pick 5 7 (.c .bool false)),w 2 (.ab 8)])) .ret))
def EU:AC:=Nh
def d150:FD:={nargs:=1,body:=EU,res:=[.t 2]}
def EI:AC:=(.seq (.seq (.out [0,3,16] (.aa [0,3] [m 13 3,m 14 0,w 15 (.bP 14),w 16 (.bin .lss 13 15)])) (.out [0,3] (.cond (.t 16) .skip (.exit 0)))) (.out [0,2,3] (.block 1 (.seq (.out [0,3,4] (.aa [0,3] [m 17 0,m 18 3,w 19 (.dX 17 18),w 4 (.ab 19)])) (.out [0,2,3] (.block 2 (.seq (.out [0,3,4,21] (.aa [0,3,4] [m 22 4,w 23 (.call 149 [22]),m 24 23,⟨some 25,.mv 4,some (24,false)⟩,⟨some 26,.call 150 [25],some (24,false)⟩,w 27 (.pick 24 (.c .bool true) 26),w 21 (.ab 27)])) (.out [0,2,3] (.cond (.t 21) (.out [0,3] (.aa [0,3] [m 28 3,w 29 (.bin .add 28 (.c U2 1)),w 3 (.ab 29)])) (.seq (.out [0,3,30] (.aa [0,3,4] [m 31 4,w 32 (.bin .eql 31 (.c U0 45)),m 33 32,⟨some 34,.mv 3,some (33,true)⟩,⟨some 35,.bin .add 34 (.c U2 1),some (33,true)⟩,⟨some 36,.mv 0,some (33,true)⟩,⟨some 37,.bP 36,some (33,true)⟩,⟨some 38,.bin .lss 35 37,some (33,true)⟩,w 39 (.pick 33 38 (.c .bool false)),m 40 39,⟨some 41,.mv 0,some (40,true)⟩,⟨some 42,.mv 3,some (40,true)⟩,⟨some 43,.bin .add 42 (.c U2 1),some (40,true)⟩,⟨some 44,.dX 41 43,some (40,true)⟩,⟨some 45,.call 149 [44],some (40,true)⟩,⟨some 46,.mv 45,some (40,true)⟩,⟨some 47,.mv 0,some (46,false)⟩,⟨some 48,.mv 3,some (46,false)⟩,⟨some 49,.bin .add 48 (.c U2 1),some (46,false)⟩,⟨some 50,.dX 47 49,some (46,false)⟩,⟨some 51,.call 150 [50],some (46,false)⟩,⟨some 52,.pick 46 (.c .bool true) 51,some (40,true)⟩,w 53 (.pick 40 52 (.c .bool false)),w 30 (.ab 53)])) (.out [0,2,3] (.cond (.t 30) (.out [0,3] (.aa [0,3] [m 54 3,w 55 (.bin .add 54 (.c U2 2)),w 3 (.ab 55)])) (.seq (.out [2] (.aa [3] [m 20 3,w 2 (.ab 20)])) .ret)))))))))))))
def EJ:AC:=.out [2,3] (.loop [0,3] EI)
def M3:AC:=.out [2,3] (.block 0 EJ)
def M4:AC:=(.seq (.out [2] (.aa [3] [m 56 3,w 2 (.ab 56)])) .ret)
def Ac:AC:=(.seq M3 M4)
def Ad:AC:=(.seq (.out [0] (.aa [0] [w 2 (.ab (.c U2 0))])) (.seq (.seq (.out [0,12] (.aa [0] [m 5 0,w 6 (.bin .eql 5 (.c .str [])),m 7 6,⟨some 8,.mv 0,some (7,false)⟩,⟨some 9,.dX 8 (.c U2 0),some (7,false)⟩,⟨some 10,.call 149 [9],some (7,false)⟩,⟨some 11,.un .not 10,some (7,false)⟩,w 12 (.pick 7 (.c .bool true) 11)])) (.out [0,2] (.cond (.t 12) (.seq (.out [2] (.aa [] [w 2 (.ab (.c U2 0))])) .ret) .skip))) (.seq (.out [0,3] (.aa [0] [w 3 (.ab (.c U2 1))])) Ac)))
def EH:AC:=Ad
def d141:FD:={nargs:=1,body:=EH,res:=[.t 2]}
def Mv:AC:=(.seq (.out [0] (.aa [0] [w 2 (.ab (.c .bool false))])) (.seq (.out [2] (.aa [0] [m 3 0,w 4 (.bin .neq 3 (.c .str [])),m 5 4,⟨some 6,.mv 0,some (5,true)⟩,⟨some 7,.bP 6,some (5,true)⟩,⟨some 8,.bin .leq 7 (.c U2 20),some (5,true)⟩,w 9 (.pick 5 8 (.c .bool false)),m 10 9,⟨some 11,.mv 0,some (10,true)⟩,⟨some 12,.call 141 [11],some (10,true)⟩,⟨some 13,.mv 0,some (10,true)⟩,⟨some 14,.bP 13,some (10,true)⟩,⟨some 15,.bin .eql 12 14,some (10,true)⟩,w 16 (.pick 10 15 (.c .bool false)),w 2 (.ab 16)])) .ret))
def Eb:AC:=Mv
def d121:FD:={nargs:=1,body:=Eb,res:=[.t 2]}
def PL:AC:=.out [3,8,9,10] (.aa [3] [m 8 3,w 9 (.aZ 8),w 10 (.mv (.c U2 0))])
def GJ:AC:=(.seq (.out [3,8,9,10,11] (.aa [3,8,9,10] [w 11 (.bin .lss 10 9)])) (.seq (.out [3,8,9,10] (.cond (.t 11) .skip (.exit 0))) (.seq (.out [3,8,9,10] (.block 1 (.seq (.out [3,4,5,8,9,10] (.aa [3,8,9,10] [m 12 10,w 13 (.indexAddr U0 8 10),w 14 (.load U0 13),w 4 (.ab 12),w 5 (.ab 14)])) (.seq (.out [3,4,5,8,9,10,20] (.aa [3,4,5,8,9,10] [m 15 5,w 16 (.bin .geq 15 (.c U0 65)),m 17 16,⟨some 18,.mv 5,some (17,true)⟩,⟨some 19,.bin .leq 18 (.c U0 90),some (17,true)⟩,w 20 (.pick 17 19 (.c .bool false))])) (.out [3,8,9,10] (.cond (.t 20) (.out [3,8,9,10] (.aa [3,4,5,8,9,10] [m 21 3,m 22 4,m 23 5,w 24 (.bin .sub 23 (.c U0 65)),w 25 (.bin .add 24 (.c U0 97)),w 26 (.indexAddr U0 21 22),⟨none,.store U0 26 25,none⟩])) .skip)))))) (.out [3,8,9,10] (.aa [3,8,9,10] [w 27 (.bin .add 10 (.c U2 1)),m 10 27])))))
def GK:AC:=.out [3] (.loop [3,8,9,10] GJ)
def PM:AC:=.out [3] (.block 0 GK)
def PN:AC:=(.seq PL PM)
def PO:AC:=(.seq (.out [2] (.aa [3] [m 28 3,w 29 (.toStr 28),w 2 (.ab 29)])) .ret)
def A0:AC:=(.seq PN PO)
def A1:AC:=(.seq (.out [0] (.aa [0] [w 2 (.ab (.c .str []))])) (.seq (.out [3] (.aa [0] [m 6 0,w 7 (.qN 6),w 3 (.ab 7)])) A0))
def GI:AC:=A1
def d72:FD:={nargs:=1,body:=GI,res:=[.t 2]}
def Nr:AC:=.out [9,10,11] (.aa [0] [m 8 0,w 9 (.qN 8),w 10 (.aZ 9),w 11 (.mv (.c U2 0))])
def E3:AC:=(.seq (.out [9,10,11,12] (.aa [9,10,11] [w 12 (.bin .lss 11 10)])) (.seq (.out [9,10,11] (.cond (.t 12) .skip (.exit 0))) (.seq (.out [2,9,10,11] (.block 1 (.seq (.out [4,9,10,11] (.aa [9,10,11] [w 13 (.indexAddr U0 9 11),w 14 (.load U0 13),w 4 (.ab 14)])) (.seq (.out [9,10,11,20] (.aa [4,9,10,11] [m 15 4,w 16 (.bin .lss 15 (.c U0 32)),m 17 16,⟨some 18,.mv 4,some (17,false)⟩,⟨some 19,.bin .gtr 18 (.c U0 126),some (17,false)⟩,w 20 (.pick 17 (.c .bool true) 19)])) (.out [2,9,10,11] (.cond (.t 20) (.seq (.out [2] (.aa [] [w 2 (.ab (.c U2 2))])) .ret) .skip)))))) (.out [9,10,11] (.aa [9,10,11] [w 21 (.bin .add 11 (.c U2 1)),m 11 21])))))
def E4:AC:=.out [2] (.loop [9,10,11] E3)
def Ns:AC:=.out [2] (.block 0 E4)
def Nt:AC:=(.seq Nr Ns)
def Nu:AC:=(.seq (.out [2] (.aa [] [w 2 (.ab (.c U2 0))])) .ret)
def Ag:AC:=(.seq Nt Nu)
def Ah:AC:=(.seq (.out [0] (.aa [0] [w 2 (.ab (.c U2 0))])) (.seq (.seq (.out [0,7] (.aa [0] [m 5 0,w 6 (.bP 5),w 7 (.bin .gtr 6 (.c U2 120))])) (.out [0,2] (.cond (.t 7) (.seq (.out [2] (.aa [] [w 2 (.ab (.c U2 3))])) .ret) .skip))) Ag))
def E2:AC:=Ah
def d158:FD:={nargs:=1,body:=E2,res:=[.t 2]}
def MM:AC:=(.seq (.out [0,1] (.aa [0,1] [w 4 (.ab (.c U2 0))])) (.seq (.out [4] (.aa [0,1] [m 5 0,m 6 1,w 7 (.call 145 [5,6]),w 4 (.ab 7)])) .ret))
def Eo:AC:=MM
def d127:FD:={nargs:=2,body:=Eo,res:=[.t 4]}
def Qp:AC:=(.seq (.out [0] (.aa [0] [w 2 (.ab (.c .bool false))])) (.seq (.out [2] (.aa [0] [m 3 0,w 4 (.bin .geq 3 (.c U0 32)),m 5 4,⟨some 6,.mv 0,some (5,true)⟩,⟨some 7,.bin .leq 6 (.c U0 126),some (5,true)⟩,w 8 (.pick 5 7 (.c .bool false)),m 9 8,⟨some 10,.mv 0,some (9,true)⟩,⟨some 11,.call 127 [(.c .str [32,46,44,59,58,33,63,34,45,91,93,60,62,123,125]),10],some (9,true)⟩,⟨some 12,.bin .lss 11 (.c U2 0),some (9,true)⟩,w 13 (.pick 9 12 (.c .bool false)),w 2 (.ab 13)])) .ret))
def Hi:AC:=Qp
def d98:FD:={nargs:=1,body:=Hi,res:=[.t 2]}
def Ni:AC:=.out [5,15,16,17] (.aa [0,5] [m 14 0,w 15 (.qN 14),w 16 (.aZ 15),w 17 (.mv (.c U2 0))])
def EW:AC:=(.seq (.out [5,15,16,17,18] (.aa [5,15,16,17] [w 18 (.bin .lss 17 16)])) (.seq (.out [5,15,16,17] (.cond (.t 18) .skip (.exit 0))) (.seq (.out [5,15,16,17] (.block 1 (.seq (.out [5,6,7,15,16,17] (.aa [5,15,16,17] [m 19 17,w 20 (.indexAddr U0 15 17),w 21 (.load U0 20),w 6 (.ab 19),w 7 (.ab 21)])) (.seq (.out [5,6,7,8,15,16,17] (.aa [5,6,7,15,16,17] [m 22 5,w 23 (.aZ 22),w 8 (.ab 23)])) (.out [5,15,16,17] (.block 2 (.seq (.out [5,6,8,15,16,17,31] (.aa [5,6,7,8,15,16,17] [m 32 7,w 33 (.call 98 [32]),w 34 (.un .not 33),w 31 (.ab 34)])) (.out [5,15,16,17] (.cond (.t 31) .skip (.seq (.out [5,6,8,15,16,17,35] (.aa [5,6,8,15,16,17] [m 36 8,w 37 (.bin .gtr 36 (.c U2 0)),m 38 37,⟨some 39,.mv 5,some (38,true)⟩,⟨some 40,.mv 8,some (38,true)⟩,⟨some 41,.bin .sub 40 (.c U2 1),some (38,true)⟩,⟨some 42,.indexAddr eo 39 41,some (38,true)⟩,⟨some 43,.fieldAddr eo [.r,.l] 42,some (38,true)⟩,⟨some 44,.load U2 43,some (38,true)⟩,⟨some 45,.mv 6,some (38,true)⟩,⟨some 46,.bin .eql 44 45,some (38,true)⟩,w 47 (.pick 38 46 (.c .bool false)),w 35 (.ab 47)])) (.out [5,15,16,17] (.cond (.t 35) (.out [5,15,16,17] (.aa [5,8,15,16,17] [m 48 5,m 49 8,w 50 (.bin .sub 49 (.c U2 1)),w 51 (.indexAddr eo 48 50),w 52 (.fieldAddr eo [.r,.l] 51),w 53 (.load U2 52),w 54 (.bin .add 53 (.c U2 1)),w 55 (.indexAddr eo 48 50),w 56 (.fieldAddr eo [.r,.l] 55),⟨none,.store U2 56 54,none⟩])) (.out [5,15,16,17] (.aa [5,6,15,16,17] [m 24 5,m 25 6,m 26 6,w 27 (.bin .add 26 (.c U2 1)),w 28 (.build eo [([.l],25),([.r,.l],27)]),w 29 (.buildSlice 179 eo [28]),w 30 (.append 179 eo 8796093022208 24 29),w 5 (.ab 30)])))))))))))))) (.out [5,15,16,17] (.aa [5,15,16,17] [w 57 (.bin .add 17 (.c U2 1)),m 17 57])))))
def EX:AC:=.out [5] (.loop [5,15,16,17] EW)
def Nj:AC:=.out [5] (.block 0 EX)
def Nk:AC:=(.seq Ni Nj)
def Nl:AC:=(.seq (.out [2,3,5] (.aa [5] [m 58 5,w 2 (.ab 58),w 3 (.ab (.c U2 0))])) .ret)
def Ae:AC:=(.seq Nk Nl)
def Af:AC:=(.seq (.out [0] (.aa [0] [w 2 (.ab (.nil 179 eo)),w 3 (.ab (.c U2 0))])) (.seq (.seq (.out [0,4] (.aa [0] [m 9 0,w 10 (.call 158 [9]),w 4 (.ab 10)])) (.seq (.out [0,4,12] (.aa [0,4] [m 11 4,w 12 (.bin .neq 11 (.c U2 0))])) (.out [0,2,3] (.cond (.t 12) (.seq (.out [2,3] (.aa [4] [m 13 4,w 2 (.ab (.nil 179 eo)),w 3 (.ab 13)])) .ret) .skip)))) (.seq (.out [0,5] (.aa [0] [w 5 (.ab (.nil 179 eo))])) Ae)))
def EV:AC:=Af
def d151:FD:={nargs:=1,body:=EV,res:=[.t 2,.t 3]}
def M5:AC:=(.seq (.out [0] (.aa [0] [w 2 (.ab (.c U2 0))])) (.seq (.out [0,2] (.block 0 (.seq (.out [0,5] (.aa [0] [m 6 0,w 7 (.bin .eql 6 (.c .str [])),w 5 (.ab 7)])) (.out [0,2] (.cond (.t 5) (.seq (.out [2] (.aa [] [w 2 (.ab (.c U2 7))])) .ret) (.seq (.out [0,8] (.aa [0] [m 9 0,w 10 (.bP 9),w 11 (.bin .gtr 10 (.c U2 4)),w 8 (.ab 11)])) (.out [0,2] (.cond (.t 8) (.seq (.out [2] (.aa [] [w 2 (.ab (.c U2 3))])) .ret) (.seq (.out [0,12] (.aa [0] [m 13 0,w 14 (.call 72 [13]),m 15 0,w 16 (.bin .neq 14 15),w 12 (.ab 16)])) (.out [0,2] (.cond (.t 12) (.seq (.out [2] (.aa [] [w 2 (.ab (.c U2 2))])) .ret) .skip))))))))))) (.seq (.out [0,3,4] (.aa [0] [m 18 0,w 19 (.call 151 [18]),m 17 19,w 20 (.extract 17 0),w 21 (.extract 17 1),w 3 (.ab 20),w 4 (.ab 21)])) (.seq (.seq (.out [42] (.draw [0,3,4] [⟨m 22 4,[],[22],[],false,[]⟩,⟨w 23 (.bin .neq 22 (.c U2 0)),[],[23],[0],false,[]⟩,⟨m 24 23,[],[24],[0,1],false,[]⟩,⟨⟨some 25,.mv 3,some (24,false)⟩,[],[25],[0,1,2],false,[]⟩,⟨⟨some 26,.aZ 25,some (24,false)⟩,[],[26],[0,1,2,3],false,[]⟩,⟨⟨some 27,.bin .neq 26 (.c U2 1),some (24,false)⟩,[],[27],[0,1,2,3,4],false,[]⟩,⟨w 28 (.pick 24 (.c .bool true) 27),[],[28],[0,1,2,3,4,5],false,[]⟩,⟨m 29 28,[],[29],[0,1,2,3,4,5,6],false,[]⟩,⟨⟨some 30,.mv 3,some (29,false)⟩,[34,35,36,37,39,40],[30],[0,1,2,3,4,5,6,7],false,[]⟩,⟨⟨some 31,.indexAddr eo 30 (.c U2 0),some (29,false)⟩,[34,35,36,37,39,40],[31],[0,1,2,3,4,5,6,7,8],false,[]⟩,⟨⟨some 32,.fieldAddr eo [.r,.l] 31,some (29,false)⟩,[34,35,36,37,39,40],[32],[0,1,2,3,4,5,6,7,8,9],false,[]⟩,⟨⟨some 33,.load U2 32,some (29,false)⟩,[34,35,36,37,39,40],[33],[0,1,2,3,4,5,6,7,8,9,10],false,[]⟩,⟨⟨some 34,.mv 3,some (29,false)⟩,[30,31,32,33,39,40],[34],[0,1,2,3,4,5,6,7],false,[]⟩,⟨⟨some 35,.indexAddr eo 34 (.c U2 0),some (29,false)⟩,[30,31,32,33,39,40],[35],[0,1,2,3,4,5,6,7,12],false,[]⟩,⟨⟨some 36,.fieldAddr eo [.l] 35,some (29,false)⟩,[30,31,32,33,39,40],[36],[0,1,2,3,4,5,6,7,12,13],false,[]⟩,⟨⟨some 37,.load U2 36,some (29,false)⟩,[30,31,32,33,39,40],[37],[0,1,2,3,4,5,6,7,12,13,14],false,[]⟩,⟨⟨some 38,.bin .sub 33 37,some (29,false)⟩,[39,40],[38],[0,1,2,3,4,5,6,7,8,9,10,11,12,13,14,15],false,[]⟩,⟨⟨some 39,.mv 0,some (29,false)⟩,[30,31,32,33,34,35,36,37,38],[39],[0,1,2,3,4,5,6,7],false,[]⟩,⟨⟨some 40,.bP 39,some (29,false)⟩,[30,31,32,33,34,35,36,37,38],[40],[0,1,2,3,4,5,6,7,17],false,[]⟩,⟨⟨some 41,.bin .neq 38 40,some (29,false)⟩,[],[41],[0,1,2,3,4,5,6,7,8,9,10,11,12,13,14,15,16,17,18],false,[]⟩,⟨w 42 (.pick 29 (.c .bool true) 41),[],[42],[0,1,2,3,4,5,6,7,8,9,10,11,12,13,14,15,16,17,18,19],false,[]⟩])) (.out [2] (.cond (.t 42) (.seq (.out [2] (.aa [] [w 2 (.ab (.c U2 2))])) .ret) .skip))) (.seq (.out [2] (.aa [] [w 2 (.ab (.c U2 0))])) .ret)))))
def EK:AC:=M5
def d142:FD:={nargs:=1,body:=EK,res:=[.t 2]}
def Nn:AC:=(.seq (.out [1] (.aa [0] [w 1 (.box aB 0),w 2 (.ab (.c .bool false))])) (.seq (.seq (.out [1,4] (.aa [1] [w 3 (.fieldAddr aB [.l] 1),w 4 (.load U2 3)])) (.out [1,2] (.block 0 (.seq (.out [1,4,5] (.aa [1,4] [w 6 (.bin .eql 4 (.c U2 1)),w 5 (.ab 6)])) (.out [1,2] (.cond (.t 5) (.seq (.out [2] (.aa [1] [w 7 (.fieldAddr aB [.r,.l] 1),w 8 (.load U2 7),w 9 (.bin .geq 8 (.c U2 1)),m 10 9,⟨some 11,.fieldAddr aB [.r,.l] 1,some (10,true)⟩,⟨some 12,.load U2 11,some (10,true)⟩,⟨some 13,.bin .leq 12 (.c U2 3),some (10,true)⟩,w 14 (.pick 10 13 (.c .bool false)),w 2 (.ab 14)])) .ret) (.seq (.out [1,15] (.aa [1,4] [w 16 (.bin .eql 4 (.c U2 2)),w 15 (.ab 16)])) (.out [1,2] (.cond (.t 15) (.seq (.out [2] (.aa [1] [w 17 (.fieldAddr aB [.r,.l] 1),w 18 (.load U2 17),w 19 (.bin .eql 18 (.c U2 2)),w 2 (.ab 19)])) .ret) .skip))))))))) (.seq (.out [2] (.aa [1] [w 20 (.fieldAddr aB [.r,.l] 1),w 21 (.load U2 20),w 22 (.bin .eql 21 (.c U2 0)),w 2 (.ab 22)])) .ret)))
def EY:AC:=Nn
def d152:FD:={nargs:=1,body:=EY,res:=[.t 2]}
def Nq:AC:=(.seq (.out [0] (.aa [0] [w 2 (.ab (.c .bool false))])) (.seq (.out [2] (.aa [0] [m 3 0,w 4 (.bin .geq 3 (.c U3 97)),m 5 4,⟨some 6,.mv 0,some (5,true)⟩,⟨some 7,.bin .leq 6 (.c U3 122),some (5,true)⟩,w 8 (.pick 5 7 (.c .bool false)),m 9 8,⟨some 10,.mv 0,some (9,false)⟩,⟨some 11,.bin .geq 10 (.c U3 48),some (9,false)⟩,⟨some 12,.mv 11,some (9,false)⟩,⟨some 13,.mv 0,some (12,true)⟩,⟨some 14,.bin .leq 13 (.c U3 57),some (12,true)⟩,⟨some 15,.pick 12 14 (.c .bool false),some (9,false)⟩,w 16 (.pick 9 (.c .bool true) 15),m 17 16,⟨some 18,.mv 0,some (17,false)⟩,⟨some 19,.bin .eql 18 (.c U3 95),some (17,false)⟩,w 20 (.pick 17 (.c .bool true) 19),m 21 20,⟨some 22,.mv 0,some (21,false)⟩,⟨some 23,.bin .eql 22 (.c U3 94),some (21,false)⟩,w 24 (.pick 21 (.c .bool true) 23),m 25 24,⟨some 26,.mv 0,some (25,false)⟩,⟨some 27,.bin .eql 26 (.c U3 39),some (25,false)⟩,w 28 (.pick 25 (.c .bool true) 27),w 2 (.ab 28)])) .ret))
def E1:AC:=Nq
def d155:FD:={nargs:=1,body:=E1,res:=[.t 2]}
def Np:AC:=(.seq (.out [0] (.aa [0] [w 2 (.ab (.c .bool false))])) (.seq (.out [2] (.aa [0] [m 3 0,w 4 (.call 155 [3]),w 5 (.un .not 4),w 2 (.ab 5)])) .ret))
def E0:AC:=Np
def d154:FD:={nargs:=1,body:=E0,res:=[.t 2]}
def NA:AC:=.out [0,1,2] (.aa [0,1,2] [w 6 (.ab (.c U2 0))])
def NB:AC:=.out [1,2,10] (.aa [0,1,2] [m 9 0,w 10 (.CT 9)])
def Fa:AC:=(.seq (.out [1,2,10,11,12] (.aa [1,2,10] [w 11 (.ea 10),w 12 (.extract 11 0)])) (.seq (.out [1,2,10,11] (.cond (.t 12) .skip (.exit 0))) (.out [1,2,6,10] (.block 1 (.seq (.out [1,2,7,8,10] (.aa [1,2,10,11] [w 13 (.extract 11 1),w 14 (.extract 11 2),w 7 (.ab 13),w 8 (.ab 14)])) (.seq (.out [1,2,7,10,19] (.aa [1,2,7,8,10] [m 15 1,m 16 8,w 17 (.nP 15 [16]),m 18 2,w 19 (.nn false .bool 17 18)])) (.out [1,2,6,10] (.cond (.t 19) (.seq (.out [6] (.aa [7] [m 20 7,w 6 (.ab 20)])) .ret) .skip))))))))
def Fb:AC:=.out [6] (.loop [1,2,10] Fa)
def NC:AC:=.out [6] (.block 0 Fb)
def ND:AC:=(.seq NB NC)
def NF:AC:=(.seq (.out [6] (.aa [] [w 6 (.ab (.c U2 (-1)))])) .ret)
def NG:AC:=(.seq ND NF)
def Fc:AC:=(.seq NA NG)
def E9:AC:=Fc
def d160:FD:={nargs:=3,body:=E9,res:=[.t 6]}
def Nv:AC:=(.seq (.out [0,1] (.aa [0,1] [w 4 (.ab (.c U2 0))])) (.seq (.out [4] (.aa [0,1] [m 5 0,m 6 1,w 7 (.call 160 [5,6,(.c .bool true)]),w 4 (.ab 7)])) .ret))
def E5:AC:=Nv
def d159:FD:={nargs:=2,body:=E5,res:=[.t 4]}
def No:AC:=(.seq (.out [0,1] (.aa [0,1] [w 4 (.ab (.c .bool false))])) (.seq (.out [4] (.aa [0,1] [m 5 0,m 6 1,w 7 (.call 159 [5,6]),w 8 (.bin .geq 7 (.c U2 0)),w 4 (.ab 8)])) .ret))
def EZ:AC:=No
def d153:FD:={nargs:=2,body:=EZ,res:=[.t 4]}
def M6:AC:=(.seq (.out [1] (.aa [0] [w 1 (.box aB 0),w 2 (.ab (.c U2 0))])) (.seq (.out [2] (.block 0 (.seq (.out [1,3] (.aa [1] [w 4 (.fieldAddr aB [.l] 1),w 5 (.load U2 4),w 6 (.bin .lss 5 (.c U2 1)),m 7 6,⟨some 8,.fieldAddr aB [.l] 1,some (7,false)⟩,⟨some 9,.load U2 8,some (7,false)⟩,⟨some 10,.bin .gtr 9 (.c U2 9),some (7,false)⟩,w 11 (.pick 7 (.c .bool true) 10),w 3 (.ab 11)])) (.out [2] (.cond (.t 3) (.seq (.out [2] (.aa [] [w 2 (.ab (.c U2 1))])) .ret) (.seq (.out [1,12] (.aa [1] [w 13 (.load aB 1),w 14 (.call 152 [13]),w 15 (.un .not 14),w 12 (.ab 15)])) (.out [2] (.cond (.t 12) (.seq (.out [2] (.aa [] [w 2 (.ab (.c U2 6))])) .ret) (.seq (.out [1,16] (.aa [1] [w 17 (.fieldAddr aB [.r,.r,.l] 1),w 18 (.load .str 17),w 19 (.bin .eql 18 (.c .str [])),w 16 (.ab 19)])) (.out [2] (.cond (.t 16) (.seq (.out [2] (.aa [] [w 2 (.ab (.c U2 7))])) .ret) (.seq (.out [1,20] (.aa [1] [w 21 (.fieldAddr aB [.r,.r,.l] 1),w 22 (.load .str 21),w 23 (.bP 22),w 24 (.bin .gtr 23 (.c U2 8)),w 20 (.ab 24)])) (.out [2] (.cond (.t 20) (.seq (.out [2] (.aa [] [w 2 (.ab (.c U2 3))])) .ret) (.seq (.out [25] (.aa [1] [w 26 (.fieldAddr aB [.r,.r,.l] 1),w 27 (.load .str 26),w 28 (.call 153 [27,(.fn 154 LF .bool)]),w 25 (.ab 28)])) (.out [2] (.cond (.t 25) (.seq (.out [2] (.aa [] [w 2 (.ab (.c U2 2))])) .ret) .skip))))))))))))))))) (.seq (.out [2] (.aa [] [w 2 (.ab (.c U2 0))])) .ret)))
def EL:AC:=M6
def d143:FD:={nargs:=1,body:=EL,res:=[.t 2]}
def Mw:AC:=.out [1,22,23,24] (.aa [1] [w 21 (.fieldAddr aD [.r,.l] 1),w 22 (.load bB 21),w 23 (.aZ 22),w 24 (.mv (.c U2 0))])
def Ed:AC:=(.seq (.out [1,22,23,24,25] (.aa [1,22,23,24] [w 25 (.bin .lss 24 23)])) (.seq (.out [1,22,23,24] (.cond (.t 25) .skip (.exit 0))) (.seq (.out [1,2,22,23,24] (.block 1 (.seq (.out [1,5,22,23,24] (.aa [1,22,23,24] [w 26 (.indexAddr aB 22 24),w 27 (.load aB 26),w 5 (.alloc aB .no),⟨none,.store aB 5 27,none⟩])) (.seq (.out [1,6,22,23,24] (.aa [1,5,22,23,24] [w 28 (.load aB 5),w 29 (.call 143 [28]),w 6 (.ab 29)])) (.seq (.out [1,6,22,23,24,31] (.aa [1,6,22,23,24] [m 30 6,w 31 (.bin .neq 30 (.c U2 0))])) (.out [1,2,22,23,24] (.cond (.t 31) (.seq (.out [2] (.aa [6] [m 32 6,w 2 (.ab 32)])) .ret) .skip))))))) (.out [1,22,23,24] (.aa [1,22,23,24] [w 33 (.bin .add 24 (.c U2 1)),m 24 33])))))
def Ee:AC:=.out [1,2] (.loop [1,22,23,24] Ed)
def Mx:AC:=.out [1,2] (.block 0 Ee)
def My:AC:=(.seq Mw Mx)
def Mz:AC:=(.seq (.seq (.out [51] (.aa [1] [w 34 (.fieldAddr aD [.r,.r,.l] 1),w 35 (.load U2 34),w 36 (.bin .lss 35 (.c U2 0)),m 37 36,⟨some 38,.fieldAddr aD [.r,.r,.l] 1,some (37,false)⟩,⟨some 39,.load U2 38,some (37,false)⟩,⟨some 40,.bin .gtr 39 (.c U2 99),some (37,false)⟩,w 41 (.pick 37 (.c .bool true) 40),m 42 41,⟨some 43,.fieldAddr aD [.r,.r,.r,.l] 1,some (42,false)⟩,⟨some 44,.load U2 43,some (42,false)⟩,⟨some 45,.bin .lss 44 (.c U2 0),some (42,false)⟩,w 46 (.pick 42 (.c .bool true) 45),m 47 46,⟨some 48,.fieldAddr aD [.r,.r,.r,.l] 1,some (47,false)⟩,⟨some 49,.load U2 48,some (47,false)⟩,⟨some 50,.bin .gtr 49 (.c U2 4),some (47,false)⟩,w 51 (.pick 47 (.c .bool true) 50)])) (.out [2] (.cond (.t 51) (.seq (.out [2] (.aa [] [w 2 (.ab (.c U2 6))])) .ret) .skip))) (.seq (.out [2] (.aa [] [w 2 (.ab (.c U2 0))])) .ret))
def zU:AC:=(.seq My Mz)
def zV:AC:=(.seq (.out [1] (.aa [0] [w 1 (.box aD 0),w 2 (.ab (.c U2 0))])) (.seq (.seq (.out [1,3] (.aa [1] [w 7 (.fieldAddr aD [.l] 1),w 8 (.load .str 7),w 9 (.call 142 [8]),w 3 (.ab 9)])) (.seq (.out [1,3,11] (.aa [1,3] [m 10 3,w 11 (.bin .neq 10 (.c U2 0))])) (.out [1,2] (.cond (.t 11) (.seq (.out [2] (.aa [3] [m 12 3,w 2 (.ab 12)])) .ret) .skip)))) (.seq (.seq (.out [1,16] (.aa [1] [w 13 (.fieldAddr aD [.r,.l] 1),w 14 (.load bB 13),w 15 (.aZ 14),w 16 (.bin .eql 15 (.c U2 0))])) (.out [1,2] (.cond (.t 16) (.seq (.out [2] (.aa [] [w 2 (.ab (.c U2 7))])) .ret) .skip))) (.seq (.seq (.out [1,20] (.aa [1] [w 17 (.fieldAddr aD [.r,.l] 1),w 18 (.load bB 17),w 19 (.aZ 18),w 20 (.bin .gtr 19 (.c U2 2))])) (.out [1,2] (.cond (.t 20) (.seq (.out [2] (.aa [] [w 2 (.ab (.c U2 3))])) .ret) .skip))) zU))))
def Ec:AC:=zV
def d122:FD:={nargs:=1,body:=Ec,res:=[.t 2]}
def MC:AC:=.out [0,1,12,13] (.aa [0,1] [m 11 0,w 12 (.aZ 11),w 13 (.mv (.c U2 0))])
def Ei:AC:=(.seq (.out [0,1,12,13,14] (.aa [0,1,12,13] [w 14 (.bin .lss 13 12)])) (.seq (.out [0,1,12,13] (.cond (.t 14) .skip (.exit 0))) (.seq (.out [0,1,4,12,13] (.block 1 (.seq (.out [0,1,5,12,13] (.aa [0,1,12,13] [m 15 13,w 5 (.ab 15)])) (.seq (.out [0,1,12,13,24] (.draw [0,1,5,12,13] [⟨m 16 0,[17,20,21,22,23],[16],[],false,[]⟩,⟨m 17 5,[16,20,21,22,23],[17],[],false,[]⟩,⟨w 18 (.indexAddr aB 16 17),[20,21,22,23],[18],[0,1],false,[]⟩,⟨w 19 (.load aB 18),[20,21,22,23],[19],[0,1,2],false,[]⟩,⟨m 20 1,[16,17,18,19,21],[20],[],false,[]⟩,⟨m 21 5,[16,17,18,19,20],[21],[],false,[]⟩,⟨w 22 (.indexAddr aB 20 21),[16,17,18,19],[22],[4,5],false,[]⟩,⟨w 23 (.load aB 22),[16,17,18,19],[23],[4,5,6],false,[]⟩,⟨w 24 (.nn true aB 19 23),[],[24],[0,1,2,3,4,5,6,7],false,[]⟩])) (.out [0,1,4,12,13] (.cond (.t 24) (.seq (.out [4] (.aa [] [w 4 (.ab (.c .bool false))])) .ret) .skip)))))) (.out [0,1,12,13] (.aa [0,1,12,13] [w 25 (.bin .add 13 (.c U2 1)),m 13 25])))))
def Ej:AC:=.out [4] (.loop [0,1,12,13] Ei)
def MD:AC:=.out [4] (.block 0 Ej)
def ME:AC:=(.seq MC MD)
def MF:AC:=(.seq (.out [4] (.aa [] [w 4 (.ab (.c .bool true))])) .ret)
def zW:AC:=(.seq ME MF)
def zX:AC:=(.seq (.out [0,1] (.aa [0,1] [w 4 (.ab (.c .bool false))])) (.seq (.seq (.out [0,1,10] (.aa [0,1] [m 6 0,w 7 (.aZ 6),m 8 1,w 9 (.aZ 8),w 10 (.bin .neq 7 9)])) (.out [0,1,4] (.cond (.t 10) (.seq (.out [4] (.aa [] [w 4 (.ab (.c .bool false))])) .ret) .skip))) zW))
def Eh:AC:=zX
def d125:FD:={nargs:=2,body:=Eh,res:=[.t 4]}
def MB:AC:=(.seq (.out [1,2] (.aa [0,1] [w 2 (.box aD 0),w 3 (.ab (.c .bool false))])) (.seq (.out [3] (.aa [1,2] [w 4 (.fieldAddr aD [.l] 2),w 5 (.load .str 4),w 6 (.fieldAddr aD [.l] 1),w 7 (.load .str 6),w 8 (.bin .eql 5 7),m 9 8,⟨some 10,.fieldAddr aD [.r,.r,.r,.l] 2,some (9,true)⟩,⟨some 11,.load U2 10,some (9,true)⟩,⟨some 12,.fieldAddr aD [.r,.r,.r,.l] 1,some (9,true)⟩,⟨some 13,.load U2 12,some (9,true)⟩,⟨some 14,.bin .eql 11 13,some (9,true)⟩,w 15 (.pick 9 14 (.c .bool false)),m 16 15,⟨some 17,.fieldAddr aD [.r,.l] 2,some (16,true)⟩,⟨some 18,.load bB 17,some (16,true)⟩,⟨some 19,.fieldAddr aD [.r,.l] 1,some (16,true)⟩,⟨some 20,.load bB 19,some (16,true)⟩,⟨some 21,.call 125 [18,20],some (16,true)⟩,w 22 (.pick 16 21 (.c .bool false)),w 3 (.ab 22)])) .ret))
def Eg:AC:=MB
def d124:FD:={nargs:=2,body:=Eg,res:=[.t 3]}
def M7:AC:=.out [0,1] (.aa [0,1] [w 4 (.ab (.c U2 0))])
def M8:AC:=.out [0,1,7,8] (.aa [0,1] [m 6 0,w 7 (.aZ 6),w 8 (.mv (.c U2 0))])
def EN:AC:=(.seq (.out [0,1,7,8,9] (.aa [0,1,7,8] [w 9 (.bin .lss 8 7)])) (.seq (.out [0,1,7,8] (.cond (.t 9) .skip (.exit 0))) (.seq (.out [0,1,4,7,8] (.block 1 (.seq (.out [0,1,5,7,8] (.aa [0,1,7,8] [m 10 8,w 5 (.ab 10)])) (.seq (.out [0,1,5,7,8,16] (.aa [0,1,5,7,8] [m 11 1,m 12 0,m 13 5,w 14 (.indexAddr aD 12 13),w 15 (.load aD 14),w 16 (.nP 11 [15])])) (.out [0,1,4,7,8] (.cond (.t 16) (.seq (.out [4] (.aa [5] [m 17 5,w 4 (.ab 17)])) .ret) .skip)))))) (.out [0,1,7,8] (.aa [0,1,7,8] [w 18 (.bin .add 8 (.c U2 1)),m 8 18])))))
def EO:AC:=.out [4] (.loop [0,1,7,8] EN)
def M9:AC:=.out [4] (.block 0 EO)
def Na:AC:=(.seq M8 M9)
def Nb:AC:=(.seq (.out [4] (.aa [] [w 4 (.ab (.c U2 (-1)))])) .ret)
def Nc:AC:=(.seq Na Nb)
def EP:AC:=(.seq M7 Nc)
def EM:AC:=EP
def d144:FD:={nargs:=2,body:=EM,res:=[.t 4]}
def MA:AC:=(.seq (.out [0,1] (.aa [0,1] [w 4 (.ab (.c .bool false))])) (.seq (.out [4] (.aa [0,1] [m 5 0,m 6 1,w 7 (.call 144 [5,6]),w 8 (.bin .geq 7 (.c U2 0)),w 4 (.ab 8)])) .ret))
def Ef:AC:=MA
def d123:FD:={nargs:=2,body:=Ef,res:=[.t 4]}
def Qj:AC:=.out [1,24,25,26] (.aa [1] [w 23 (.fieldAddr ak [.r,.l] 1),w 24 (.load cR 23),w 25 (.aZ 24),w 26 (.mv (.c U2 0))])
def He:AC:=(.seq (.out [1,24,25,26,27] (.aa [1,24,25,26] [w 27 (.bin .lss 26 25)])) (.seq (.out [1,24,25,26] (.cond (.t 27) .skip (.exit 1))) (.seq (.out [1,2,3,24,25,26] (.block 2 (.seq (.out [1,4,5,24,25,26] (.aa [1,24,25,26] [m 28 26,w 29 (.indexAddr aD 24 26),w 30 (.load aD 29),w 5 (.alloc aD (.pair .no (.pair (.own true 40 .no) (.pair .no (.pair .no .no))))),w 4 (.ab 28),⟨none,.store aD 5 30,none⟩])) (.seq (.seq (.out [1,4,5,6,24,25,26] (.aa [1,4,5,24,25,26] [w 31 (.load aD 5),w 32 (.call 122 [31]),w 6 (.ab 32)])) (.seq (.out [1,4,5,6,24,25,26,34] (.aa [1,4,5,6,24,25,26] [m 33 6,w 34 (.bin .neq 33 (.c U2 0))])) (.out [1,2,3,4,5,24,25,26] (.cond (.t 34) (.seq (.out [2,3] (.aa [4,6] [m 35 4,m 36 6,w 2 (.ab 35),w 3 (.ab 36)])) .ret) .skip)))) (.seq (.out [1,4,7,24,25,26] (.aa [1,4,5,24,25,26] [w 37 (.fieldAddr ak [.r,.l] 1),w 38 (.load cR 37),m 39 4,w 40 (.kG aD 38 none (some 39) none),w 41 (.qz 124 LG .bool [5]),w 42 (.call 123 [40,41]),w 7 (.ab 42)])) (.seq (.out [1,4,24,25,26,43] (.aa [1,4,7,24,25,26] [m 43 7])) (.out [1,2,3,24,25,26] (.cond (.t 43) (.seq (.out [2,3] (.aa [4] [m 44 4,w 2 (.ab 44),w 3 (.ab (.c U2 5))])) .ret) .skip)))))))) (.out [1,24,25,26] (.aa [1,24,25,26] [w 45 (.bin .add 26 (.c U2 1)),m 26 45])))))
def Hf:AC:=.out [2,3] (.loop [1,24,25,26] He)
def Qk:AC:=.out [2,3] (.block 1 Hf)
def Ql:AC:=(.seq Qj Qk)
def Qm:AC:=(.seq (.out [2,3] (.aa [] [w 2 (.ab (.c U2 (-1))),w 3 (.ab (.c U2 0))])) .ret)
def Bd:AC:=(.seq Ql Qm)
def Be:AC:=(.seq (.out [1] (.aa [0] [w 1 (.box ak 0),w 2 (.ab (.c U2 0)),w 3 (.ab (.c U2 0))])) (.seq (.out [1,2,3] (.block 0 (.seq (.out [1,8] (.aa [1] [w 9 (.fieldAddr ak [.l] 1),w 10 (.load .str 9),w 11 (.call 121 [10]),w 12 (.un .not 11),w 8 (.ab 12)])) (.out [1,2,3] (.cond (.t 8) (.seq (.out [2,3] (.aa [] [w 2 (.ab (.c U2 (-1))),w 3 (.ab (.c U2 2))])) .ret) (.seq (.out [1,13] (.aa [1] [w 14 (.fieldAddr ak [.r,.l] 1),w 15 (.load cR 14),w 16 (.aZ 15),w 17 (.bin .eql 16 (.c U2 0)),w 13 (.ab 17)])) (.out [1,2,3] (.cond (.t 13) (.seq (.out [2,3] (.aa [] [w 2 (.ab (.c U2 (-1))),w 3 (.ab (.c U2 7))])) .ret) (.seq (.out [1,18] (.aa [1] [w 19 (.fieldAddr ak [.r,.l] 1),w 20 (.load cR 19),w 21 (.aZ 20),w 22 (.bin .gtr 21 (.c U2 120)),w 18 (.ab 22)])) (.out [1,2,3] (.cond (.t 18) (.seq (.out [2,3] (.aa [] [w 2 (.ab (.c U2 (-1))),w 3 (.ab (.c U2 3))])) .ret) .skip))))))))))) Bd))
def Hd:AC:=Be
def d95:FD:={nargs:=1,body:=Hd,res:=[.t 2,.t 3]}
def PE:AC:=(.seq (.out [1] (.aa [0] [w 1 (.box ak 0),w 2 (.ab (.c U2 0))])) (.seq (.out [4] (.aa [1] [w 6 (.load ak 1),w 7 (.call 95 [6]),m 5 7,w 8 (.extract 5 0),w 9 (.extract 5 1),w 3 (.ab 8),w 4 (.ab 9)])) (.seq (.out [2] (.aa [4] [m 10 4,w 2 (.ab 10)])) .ret)))
def GC:AC:=PE
def d70:FD:={nargs:=1,body:=GC,res:=[.t 2]}
def Qo:AC:=(.seq (.out [0] (.aa [0] [w 2 (.ab (.c .bool false))])) (.seq (.out [2] (.aa [0] [m 3 0,w 4 (.call 98 [3]),w 5 (.un .not 4),w 2 (.ab 5)])) .ret))
def Hh:AC:=Qo
def d97:FD:={nargs:=1,body:=Hh,res:=[.t 2]}
def MG:AC:=.out [0,1] (.aa [0,1] [w 4 (.ab (.c U2 0))])
def MH:AC:=.out [0,1,7,8] (.aa [0,1] [m 6 0,w 7 (.aZ 6),w 8 (.mv (.c U2 0))])
def El:AC:=(.seq (.out [0,1,7,8,9] (.aa [0,1,7,8] [w 9 (.bin .lss 8 7)])) (.seq (.out [0,1,7,8] (.cond (.t 9) .skip (.exit 0))) (.seq (.out [0,1,4,7,8] (.block 1 (.seq (.out [0,1,5,7,8] (.aa [0,1,7,8] [m 10 8,w 5 (.ab 10)])) (.seq (.out [0,1,5,7,8,16] (.aa [0,1,5,7,8] [m 11 1,m 12 0,m 13 5,w 14 (.indexAddr U0 12 13),w 15 (.load U0 14),w 16 (.nP 11 [15])])) (.out [0,1,4,7,8] (.cond (.t 16) (.seq (.out [4] (.aa [5] [m 17 5,w 4 (.ab 17)])) .ret) .skip)))))) (.out [0,1,7,8] (.aa [0,1,7,8] [w 18 (.bin .add 8 (.c U2 1)),m 8 18])))))
def Em:AC:=.out [4] (.loop [0,1,7,8] El)
def MI:AC:=.out [4] (.block 0 Em)
def MJ:AC:=(.seq MH MI)
def MK:AC:=(.seq (.out [4] (.aa [] [w 4 (.ab (.c U2 (-1)))])) .ret)
def ML:AC:=(.seq MJ MK)
def En:AC:=(.seq MG ML)
def Ek:AC:=En
def d126:FD:={nargs:=2,body:=Ek,res:=[.t 4]}
def Qn:AC:=(.seq (.out [0,1] (.aa [0,1] [w 4 (.ab (.c .bool false))])) (.seq (.out [4] (.aa [0,1] [m 5 0,m 6 1,w 7 (.call 126 [5,6]),w 8 (.bin .geq 7 (.c U2 0)),w 4 (.ab 8)])) .ret))
def Hg:AC:=Qn
def d96:FD:={nargs:=2,body:=Hg,res:=[.t 4]}
def Qq:AC:=.out [0,1,5,39,40,41] (.aa [0,1,5] [m 39 0,w 40 (.aZ 39),w 41 (.mv (.c U2 0))])
def Hk:AC:=(.seq (.out [0,1,5,39,40,41,42] (.aa [0,1,5,39,40,41] [w 42 (.bin .lss 41 40)])) (.seq (.out [0,1,5,39,40,41] (.cond (.t 42) .skip (.exit 1))) (.seq (.out [0,1,5,39,40,41] (.block 2 (.seq (.out [0,1,5,7,39,40,41] (.aa [0,1,5,39,40,41] [w 43 (.indexAddr .str 39 41),w 44 (.load .str 43),w 7 (.ab 44)])) (.seq (.seq (.out [0,1,5,7,39,40,41,49] (.aa [0,1,5,7,39,40,41] [m 45 7,w 46 (.bP 45),m 47 5,w 48 (.bin .sub (.c U2 9223372036854775807) 47),w 49 (.bin .gtr 46 48)])) (.out [0,1,5,7,39,40,41] (.cond (.t 49) (.out [] (.aa [0,1,5,7,39,40,41] [w 50 (.bad),⟨none,.bad,none⟩])) .skip))) (.out [0,1,5,39,40,41] (.aa [0,1,5,7,39,40,41] [m 51 5,m 52 7,w 53 (.bP 52),w 54 (.bin .add 51 53),w 5 (.ab 54)])))))) (.out [0,1,5,39,40,41] (.aa [0,1,5,39,40,41] [w 55 (.bin .add 41 (.c U2 1)),m 41 55])))))
def Hl:AC:=.out [0,1,5] (.loop [0,1,5,39,40,41] Hk)
def Qs:AC:=.out [0,1,5] (.block 1 Hl)
def Qt:AC:=(.seq Qq Qs)
def Qr:AC:=(.seq (.seq (.out [] (.aa [] [m 62 0,w 63 (.kG .str 62 (some (.c U2 1)) none none),w 64 (.aZ 63),w 65 (.mv (.c U2 0))])) (.out [] (.block 3 (.out [] (.loop [] (.seq (.out [] (.aa [] [w 66 (.bin .lss 65 64)])) (.seq (.out [] (.cond (.t 66) .skip (.exit 3))) (.seq (.out [] (.block 4 (.seq (.out [] (.aa [] [w 67 (.indexAddr .str 63 65),w 68 (.load .str 67),w 10 (.ab 68)])) (.seq (.out [] (.aa [] [m 69 1,w 70 (.iC 84 8 69)])) (.out [] (.aa [] [m 71 10,w 72 (.iC 84 8 71)])))))) (.out [] (.aa [] [w 73 (.bin .add 65 (.c U2 1)),m 65 73])))))))))) (.seq (.out [] (.aa [] [w 74 (.jI 85 8),w 4 (.ab 74)])) .ret))
def Hm:AC:=(.seq (.out [0,1,5,8] (.aa [0,1,5] [w 8 (.yH 123 5)])) (.seq (.out [] (.aa [0,1,5,8] [m 56 5,w 57 (.kT 128 8 [56])])) (.seq (.out [] (.aa [] [m 58 0,w 59 (.indexAddr .str 58 (.c U2 0)),w 60 (.load .str 59),w 61 (.iC 84 8 60)])) Qr)))
def Bf:AC:=(.seq Qt Hm)
def Bg:AC:=(.seq (.out [0,1] (.aa [0,1] [w 4 (.ab (.c .str []))])) (.seq (.seq (.out [0,1,12] (.aa [0,1] [m 11 0,w 12 (.aZ 11)])) (.out [0,1,4] (.block 0 (.seq (.out [0,1,12,13] (.aa [0,1,12] [w 14 (.bin .eql 12 (.c U2 0)),w 13 (.ab 14)])) (.out [0,1,4] (.cond (.t 13) (.seq (.out [4] (.aa [] [w 4 (.ab (.c .str []))])) .ret) (.seq (.out [0,1,15] (.aa [0,1,12] [w 16 (.bin .eql 12 (.c U2 1)),w 15 (.ab 16)])) (.out [0,1,4] (.cond (.t 15) (.seq (.out [4] (.aa [0] [m 17 0,w 18 (.indexAddr .str 17 (.c U2 0)),w 19 (.load .str 18),w 4 (.ab 19)])) .ret) .skip))))))))) (.seq (.out [0,1,5] (.aa [0,1] [w 5 (.ab (.c U2 0))])) (.seq (.seq (.out [0,1,5,22] (.aa [0,1,5] [m 20 1,w 21 (.bP 20),w 22 (.bin .gtr 21 (.c U2 0))])) (.out [0,1,5] (.cond (.t 22) (.seq (.seq (.out [0,1,5,29] (.aa [0,1,5] [m 23 1,w 24 (.bP 23),m 25 0,w 26 (.aZ 25),w 27 (.bin .sub 26 (.c U2 1)),w 28 (.bin .quo (.c U2 9223372036854775807) 27),w 29 (.bin .geq 24 28)])) (.out [0,1,5] (.cond (.t 29) (.out [] (.aa [0,1,5] [w 30 (.bad),⟨none,.bad,none⟩])) .skip))) (.out [0,1,5] (.aa [0,1,5] [m 31 5,m 32 1,w 33 (.bP 32),m 34 0,w 35 (.aZ 34),w 36 (.bin .sub 35 (.c U2 1)),w 37 (.bin .mul 33 36),w 38 (.bin .add 31 37),w 5 (.ab 38)]))) .skip))) Bf))))
def Hj:AC:=Bg
def d99:FD:={nargs:=2,body:=Hj,res:=[.t 4]}
def PF:AC:=.out [0] (.aa [0] [w 2 (.ab (.c .str [])),w 3 (.ab (.c U2 0))])
def PG:AC:=.out [0,7,8,9] (.aa [0] [m 7 0,w 8 (.aZ 7),w 9 (.mv (.c U2 0))])
def GF:AC:=(.seq (.out [0,7,8,9,10] (.aa [0,7,8,9] [w 10 (.bin .lss 9 8)])) (.seq (.out [0,7,8,9] (.cond (.t 10) .skip (.exit 0))) (.seq (.out [0,2,3,7,8,9] (.block 1 (.seq (.out [0,5,7,8,9] (.aa [0,7,8,9] [w 11 (.indexAddr .str 7 9),w 12 (.load .str 11),w 5 (.ab 12)])) (.seq (.seq (.out [0,5,7,8,9,14] (.aa [0,5,7,8,9] [m 13 5,w 14 (.bin .eql 13 (.c .str []))])) (.out [0,2,3,5,7,8,9] (.cond (.t 14) (.seq (.out [2,3] (.aa [] [w 2 (.ab (.c .str [])),w 3 (.ab (.c U2 7))])) .ret) .skip))) (.seq (.out [0,7,8,9,17] (.aa [0,5,7,8,9] [m 15 5,w 16 (.qN 15),w 17 (.call 96 [16,(.fn 97 U8 .bool)])])) (.out [0,2,3,7,8,9] (.cond (.t 17) (.seq (.out [2,3] (.aa [] [w 2 (.ab (.c .str [])),w 3 (.ab (.c U2 2))])) .ret) .skip))))))) (.out [0,7,8,9] (.aa [0,7,8,9] [w 18 (.bin .add 9 (.c U2 1)),m 9 18])))))
def GG:AC:=.out [0,2,3] (.loop [0,7,8,9] GF)
def PH:AC:=.out [0,2,3] (.block 0 GG)
def PI:AC:=(.seq PG PH)
def PJ:AC:=(.seq (.out [6] (.aa [0] [m 19 0,w 20 (.call 99 [19,(.c .str [32])]),w 6 (.ab 20)])) (.seq (.seq (.out [6,23] (.aa [6] [m 21 6,w 22 (.bP 21),w 23 (.bin .gtr 22 (.c U2 120))])) (.out [2,3,6] (.cond (.t 23) (.seq (.out [2,3] (.aa [] [w 2 (.ab (.c .str [])),w 3 (.ab (.c U2 3))])) .ret) .skip))) (.seq (.out [2,3] (.aa [6] [m 24 6,w 2 (.ab 24),w 3 (.ab (.c U2 0))])) .ret)))
def PK:AC:=(.seq PI PJ)
def GH:AC:=(.seq PF PK)
def GD:AC:=GH
def d71:FD:={nargs:=1,body:=GD,res:=[.t 2,.t 3]}
def OH:AC:=(.seq (.out [1,2] (.aa [0,1] [w 2 (.box ak 0),w 4 (.ab (.c U2 0))])) (.seq (.seq (.out [1,5] (.aa [1,2] [w 8 (.load ak 2),w 9 (.call 70 [8]),w 5 (.ab 9)])) (.seq (.out [1,5,11] (.aa [1,5] [m 10 5,w 11 (.bin .neq 10 (.c U2 0))])) (.out [1,4] (.cond (.t 11) (.seq (.out [4] (.aa [5] [m 12 5,w 4 (.ab 12)])) .ret) .skip)))) (.seq (.out [1,4] (.block 0 (.seq (.out [1,13] (.aa [1] [m 14 1,w 15 (.bin .eql 14 (.c .str [])),w 13 (.ab 15)])) (.out [1,4] (.cond (.t 13) (.seq (.out [4] (.aa [] [w 4 (.ab (.c U2 7))])) .ret) (.seq (.out [1,16] (.aa [1] [m 17 1,w 18 (.bP 17),w 19 (.bin .gtr 18 (.c U2 16)),w 16 (.ab 19)])) (.out [1,4] (.cond (.t 16) (.seq (.out [4] (.aa [] [w 4 (.ab (.c U2 3))])) .ret) .skip)))))))) (.seq (.seq (.out [1,7] (.aa [1] [m 21 1,w 22 (.buildSlice 9 .str [21]),w 23 (.call 71 [22]),m 20 23,w 24 (.extract 20 0),w 25 (.extract 20 1),w 6 (.ab 24),w 7 (.ab 25)])) (.seq (.out [33] (.aa [1,7] [m 26 7,w 27 (.bin .neq 26 (.c U2 0)),m 28 27,⟨some 29,.mv 1,some (28,false)⟩,⟨some 30,.call 72 [29],some (28,false)⟩,⟨some 31,.mv 1,some (28,false)⟩,⟨some 32,.bin .neq 30 31,some (28,false)⟩,w 33 (.pick 28 (.c .bool true) 32)])) (.out [4] (.cond (.t 33) (.seq (.out [4] (.aa [] [w 4 (.ab (.c U2 2))])) .ret) .skip)))) (.seq (.out [4] (.aa [] [w 4 (.ab (.c U2 0))])) .ret)))))
def FV:AC:=OH
def d40:FD:={nargs:=2,body:=FV,res:=[.t 4]}
def PQ:AC:=(.seq (.out [0,1] (.aa [0,1] [w 4 (.ab (.nil 40 aB))])) (.seq (.seq (.out [0,1,6] (.aa [0,1] [m 5 1,w 6 (.bin .lss 5 (.c U2 0))])) (.out [0,1,4] (.cond (.t 6) (.seq (.out [4] (.aa [] [w 4 (.ab (.nil 40 aB))])) .ret) .skip))) (.seq (.out [4] (.aa [0,1] [m 7 0,w 8 (.jE 7),w 9 (.fieldAddr bC [.l] 8),w 10 (.fieldAddr ak [.r,.l] 9),w 11 (.load cR 10),m 12 1,w 13 (.indexAddr aD 11 12),w 14 (.fieldAddr aD [.r,.l] 13),w 15 (.load bB 14),w 4 (.ab 15)])) .ret)))
def GL:AC:=PQ
def d73:FD:={nargs:=2,body:=GL,res:=[.p 4]}
def PY:AC:=(.seq (.out [1] (.aa [0] [w 1 (.box aB 0),w 2 (.ab (.c .bool false))])) (.seq (.out [2] (.aa [1] [w 3 (.fieldAddr aB [.l] 1),w 4 (.load U2 3),w 5 (.bin .eql 4 (.c U2 1)),m 6 5,⟨some 7,.fieldAddr aB [.l] 1,some (6,false)⟩,⟨some 8,.load U2 7,some (6,false)⟩,⟨some 9,.bin .eql 8 (.c U2 2),some (6,false)⟩,w 10 (.pick 6 (.c .bool true) 9),w 2 (.ab 10)])) .ret))
def GS:AC:=PY
def d87:FD:={nargs:=1,body:=GS,res:=[.t 2]}
def Pe:AC:=.out [1,2,3,4] (.aa [0,1,2,3] [w 4 (.box ak 0),w 8 (.ab (.c .bool false))])
def Pf:AC:=(.seq (.out [1,2,3,4,18] (.aa [1,2,3,4] [m 10 1,w 11 (.bin .lss 10 (.c U2 0)),m 12 11,⟨some 13,.mv 1,some (12,false)⟩,⟨some 14,.fieldAddr ak [.r,.l] 4,some (12,false)⟩,⟨some 15,.load cR 14,some (12,false)⟩,⟨some 16,.aZ 15,some (12,false)⟩,⟨some 17,.bin .geq 13 16,some (12,false)⟩,w 18 (.pick 12 (.c .bool true) 17)])) (.out [1,2,3,4,8] (.cond (.t 18) (.seq (.out [8] (.aa [] [w 8 (.ab (.c .bool false))])) .ret) .skip)))
def Pg:AC:=.out [1,2,4,9] (.aa [1,2,3,4] [m 19 3,w 20 (.aZ 19),w 21 (.bin .gtr 20 (.c U2 0)),m 22 21,⟨some 23,.mv 3,some (22,true)⟩,⟨some 24,.indexAddr aB 23 (.c U2 0),some (22,true)⟩,⟨some 25,.load aB 24,some (22,true)⟩,⟨some 26,.call 87 [25],some (22,true)⟩,w 27 (.pick 22 26 (.c .bool false)),w 9 (.ab 27)])
def Ph:AC:=(.seq (.seq (.out [2,9,33] (.aa [1,2,4,9] [w 28 (.fieldAddr ak [.r,.l] 4),w 29 (.load cR 28),m 30 1,w 31 (.indexAddr aD 29 30),w 32 (.fieldAddr aD [.r,.r,.r,.l] 31),w 33 (.load U2 32)])) (.out [8] (.block 0 (.seq (.out [2,9,33,34] (.aa [2,9,33] [w 35 (.bin .eql 33 (.c U2 0)),w 34 (.ab 35)])) (.out [8] (.cond (.t 34) (.seq (.out [8] (.aa [] [w 8 (.ab (.c .bool true))])) .ret) (.seq (.out [2,9,33,36] (.aa [2,9,33] [w 37 (.bin .eql 33 (.c U2 1)),w 36 (.ab 37)])) (.out [8] (.cond (.t 36) (.seq (.out [8] (.aa [9] [m 38 9,w 8 (.ab 38)])) .ret) (.seq (.out [2,9,33,39] (.aa [2,9,33] [w 40 (.bin .eql 33 (.c U2 2)),w 39 (.ab 40)])) (.out [8] (.cond (.t 39) (.seq (.out [8] (.aa [2,9] [m 41 9,m 42 41,⟨some 43,.mv 2,some (42,true)⟩,⟨some 44,.aZ 43,some (42,true)⟩,⟨some 45,.bin .eql 44 (.c U2 0),some (42,true)⟩,w 46 (.pick 42 45 (.c .bool false)),w 8 (.ab 46)])) .ret) (.seq (.out [2,9,33,47] (.aa [2,9,33] [w 48 (.bin .eql 33 (.c U2 3)),w 47 (.ab 48)])) (.out [8] (.cond (.t 47) (.seq (.out [8] (.aa [2,9] [m 49 9,m 50 49,⟨some 51,.mv 2,some (50,true)⟩,⟨some 52,.aZ 51,some (50,true)⟩,⟨some 53,.bin .gtr 52 (.c U2 0),some (50,true)⟩,w 54 (.pick 50 53 (.c .bool false)),m 55 54,⟨some 56,.mv 2,some (55,true)⟩,⟨some 57,.mv 2,some (55,true)⟩,⟨some 58,.aZ 57,some (55,true)⟩,⟨some 59,.bin .sub 58 (.c U2 1),some (55,true)⟩,⟨some 60,.indexAddr aB 56 59,some (55,true)⟩,⟨some 61,.load aB 60,some (55,true)⟩,⟨some 62,.call 87 [61],some (55,true)⟩,w 63 (.pick 55 62 (.c .bool false)),w 8 (.ab 63)])) .ret) (.seq (.out [9,64] (.aa [9,33] [w 65 (.bin .eql 33 (.c U2 4)),w 64 (.ab 65)])) (.out [8] (.cond (.t 64) (.seq (.out [8] (.aa [9] [m 66 9,w 67 (.un .not 66),w 8 (.ab 67)])) .ret) .skip)))))))))))))))))) (.seq (.out [8] (.aa [] [w 8 (.ab (.c .bool false))])) .ret))
def Pj:AC:=(.seq Pg Ph)
def Pk:AC:=(.seq Pf Pj)
def Gs:AC:=(.seq Pe Pk)
def Gq:AC:=Gs
def d60:FD:={nargs:=4,body:=Gq,res:=[.t 8]}
def PW:AC:=(.seq (.out [0,1] (.aa [0,1] [w 4 (.ab (.c .bool false))])) (.seq (.out [4] (.aa [0,1] [m 5 0,w 6 (.bP 5),m 7 1,w 8 (.bP 7),w 9 (.bin .geq 6 8),m 10 9,⟨some 11,.mv 0,some (10,true)⟩,⟨some 12,.mv 1,some (10,true)⟩,⟨some 13,.bP 12,some (10,true)⟩,⟨some 14,.jK 11 none (some 13),some (10,true)⟩,⟨some 15,.mv 1,some (10,true)⟩,⟨some 16,.bin .eql 14 15,some (10,true)⟩,w 17 (.pick 10 16 (.c .bool false)),w 4 (.ab 17)])) .ret))
def GQ:AC:=PW
def d83:FD:={nargs:=2,body:=GQ,res:=[.t 4]}
def O7:AC:=(.seq (.out [0,1] (.aa [0,1] [w 4 (.ab (.c .bool false))])) (.seq (.out [4] (.aa [0,1] [m 5 0,m 6 1,w 7 (.call 83 [5,6]),w 4 (.ab 7)])) .ret))
def Gi:AC:=O7
def d54:FD:={nargs:=2,body:=Gi,res:=[.t 4]}
def PR:AC:=.out [0,3,5,12,13,14] (.aa [0,3,5] [m 8 0,w 9 (.jE 8),w 10 (.fieldAddr bC [.l] 9),w 11 (.fieldAddr ak [.r,.l] 10),w 12 (.load cR 11),w 13 (.aZ 12),w 14 (.mv (.c U2 0))])
def GN:AC:=(.seq (.out [0,3,5,12,13,14,15] (.aa [0,3,5,12,13,14] [w 15 (.bin .lss 14 13)])) (.seq (.out [0,3,5,12,13,14] (.cond (.t 15) .skip (.exit 0))) (.seq (.out [0,3,5,12,13,14] (.block 1 (.seq (.out [0,3,5,6,7,12,13,14] (.aa [0,3,5,12,13,14] [m 16 14,w 17 (.indexAddr aD 12 14),w 18 (.load aD 17),w 7 (.alloc aD (.pair .no (.pair (.own true 40 .no) (.pair .no (.pair .no .no))))),w 6 (.ab 16),⟨none,.store aD 7 18,none⟩])) (.seq (.out [0,3,5,6,7,12,13,14,48] (.draw [0,3,5,6,7,12,13,14] [⟨m 19 0,[23,24,26,27],[19],[],false,[]⟩,⟨w 20 (.jE 19),[23,24,26,27],[20],[0],false,[]⟩,⟨w 21 (.fieldAddr bC [.r,.l] 20),[23,24,26,27],[21],[0,1],false,[]⟩,⟨w 22 (.load .str 21),[23,24,26,27],[22],[0,1,2],false,[]⟩,⟨w 23 (.fieldAddr a6 [.r,.r,.l] 3),[19,20,21,22,26,27],[23],[],false,[]⟩,⟨w 24 (.load U2 23),[19,20,21,22,26,27],[24],[4],false,[]⟩,⟨w 25 (.jK 22 (some 24) none),[26,27],[25],[0,1,2,3,4,5],false,[]⟩,⟨w 26 (.fieldAddr aD [.l] 7),[19,20,21,22,23,24,25],[26],[],false,[]⟩,⟨w 27 (.load .str 26),[19,20,21,22,23,24,25],[27],[7],false,[]⟩,⟨w 28 (.call 54 [25,27]),[],[28],[0,1,2,3,4,5,6,7,8],false,[]⟩,⟨m 29 28,[],[29],[0,1,2,3,4,5,6,7,8,9],false,[]⟩,⟨⟨some 30,.fieldAddr a6 [.r,.l] 3,some (29,true)⟩,[],[30],[0,1,2,3,4,5,6,7,8,9,10],false,[]⟩,⟨⟨some 31,.load U2 30,some (29,true)⟩,[],[31],[0,1,2,3,4,5,6,7,8,9,10,11],false,[]⟩,⟨⟨some 32,.bin .lss 31 (.c U2 0),some (29,true)⟩,[],[32],[0,1,2,3,4,5,6,7,8,9,10,11,12],false,[]⟩,⟨⟨some 33,.mv 32,some (29,true)⟩,[],[33],[0,1,2,3,4,5,6,7,8,9,10,11,12,13],false,[]⟩,⟨⟨some 34,.mv 0,some (33,false)⟩,[38,39,40,41,42,43,44,45],[34],[0,1,2,3,4,5,6,7,8,9,10,11,12,13,14],false,[]⟩,⟨⟨some 35,.jE 34,some (33,false)⟩,[38,39,40,41,42,43,44,45],[35],[0,1,2,3,4,5,6,7,8,9,10,11,12,13,14,15],false,[]⟩,⟨⟨some 36,.fieldAddr bC [.l] 35,some (33,false)⟩,[38,39,40,41,42,43,44,45],[36],[0,1,2,3,4,5,6,7,8,9,10,11,12,13,14,15,16],false,[]⟩,⟨⟨some 37,.load ak 36,some (33,false)⟩,[38,39,40,41,42,43,44,45],[37],[0,1,2,3,4,5,6,7,8,9,10,11,12,13,14,15,16,17],false,[]⟩,⟨⟨some 38,.fieldAddr a6 [.r,.l] 3,some (33,false)⟩,[34,35,36,37,40,41,42,43,44,45],[38],[0,1,2,3,4,5,6,7,8,9,10,11,12,13,14],false,[]⟩,⟨⟨some 39,.load U2 38,some (33,false)⟩,[34,35,36,37,40,41,42,43,44,45],[39],[0,1,2,3,4,5,6,7,8,9,10,11,12,13,14,19],false,[]⟩,⟨⟨some 40,.mv 0,some (33,false)⟩,[34,35,36,37,38,39,41,42,44,45],[40],[0,1,2,3,4,5,6,7,8,9,10,11,12,13,14],false,[]⟩,⟨⟨some 41,.fieldAddr a6 [.l] 3,some (33,false)⟩,[34,35,36,37,38,39,40,44,45],[41],[0,1,2,3,4,5,6,7,8,9,10,11,12,13,14],false,[]⟩,⟨⟨some 42,.load U2 41,some (33,false)⟩,[34,35,36,37,38,39,40,44,45],[42],[0,1,2,3,4,5,6,7,8,9,10,11,12,13,14,22],false,[]⟩,⟨⟨some 43,.call 73 [40,42],some (33,false)⟩,[34,35,36,37,38,39,44,45],[43],[0,1,2,3,4,5,6,7,8,9,10,11,12,13,14,21,22,23],false,[]⟩,⟨⟨some 44,.fieldAddr aD [.r,.l] 7,some (33,false)⟩,[34,35,36,37,38,39,40,41,42,43],[44],[0,1,2,3,4,5,6,7,8,9,10,11,12,13,14],false,[]⟩,⟨⟨some 45,.load bB 44,some (33,false)⟩,[34,35,36,37,38,39,40,41,42,43],[45],[0,1,2,3,4,5,6,7,8,9,10,11,12,13,14,25],false,[]⟩,⟨⟨some 46,.call 60 [37,39,43,45],some (33,false)⟩,[],[46],[0,1,2,3,4,5,6,7,8,9,10,11,12,13,14,15,16,17,18,19,20,21,22,23,24,25,26],false,[]⟩,⟨⟨some 47,.pick 33 (.c .bool true) 46,some (29,true)⟩,[],[47],[0,1,2,3,4,5,6,7,8,9,10,11,12,13,14,15,16,17,18,19,20,21,22,23,24,25,26,27],false,[]⟩,⟨w 48 (.pick 29 47 (.c .bool false)),[],[48],[0,1,2,3,4,5,6,7,8,9,10,11,12,13,14,15,16,17,18,19,20,21,22,23,24,25,26,27,28],false,[]⟩])) (.out [0,3,5,12,13,14] (.cond (.t 48) (.out [0,3,5,12,13,14] (.aa [0,3,5,6,7,12,13,14] [m 49 5,w 50 (.fieldAddr a6 [.r,.l] 3),w 51 (.load U2 50),m 52 6,w 53 (.fieldAddr a6 [.r,.r,.l] 3),w 54 (.load U2 53),w 55 (.fieldAddr aD [.l] 7),w 56 (.load .str 55),w 57 (.bP 56),w 58 (.bin .add 54 57),w 59 (.build a6 [([.l],51),([.r,.l],52),([.r,.r,.l],58)]),w 60 (.buildSlice 73 a6 [59]),w 61 (.append 73 a6 5864062014805 49 60),w 5 (.ab 61)])) .skip)))))) (.out [0,3,5,12,13,14] (.aa [0,3,5,12,13,14] [w 62 (.bin .add 14 (.c U2 1)),m 14 62])))))
def GO:AC:=.out [5] (.loop [0,3,5,12,13,14] GN)
def PS:AC:=.out [5] (.block 0 GO)
def PT:AC:=(.seq PR PS)
def PU:AC:=(.seq (.out [4,5] (.aa [5] [m 63 5,w 4 (.ab 63)])) .ret)
def A2:AC:=(.seq PT PU)
def A3:AC:=(.seq (.out [0,3] (.aa [0,1] [w 3 (.box a6 1),w 4 (.ab (.nil 73 a6))])) (.seq (.out [0,3,5] (.aa [0,3] [w 5 (.ab (.nil 73 a6))])) A2))
def GM:AC:=A3
def d74:FD:={nargs:=2,body:=GM,res:=[.t 4]}
def OI:AC:=.out [0,3,7,47,48,49] (.aa [0,3,7] [m 45 0,w 46 (.load a6 3),w 47 (.call 74 [45,46]),w 48 (.aZ 47),w 49 (.mv (.c U2 0))])
def FX:AC:=(.seq (.out [0,3,7,47,48,49,50] (.aa [0,3,7,47,48,49] [w 50 (.bin .lss 49 48)])) (.seq (.out [0,3,7,47,48,49] (.cond (.t 50) .skip (.exit 0))) (.seq (.out [0,3,7,47,48,49] (.block 1 (.seq (.out [0,3,7,9,47,48,49] (.aa [0,3,7,47,48,49] [w 51 (.indexAddr a6 47 49),w 52 (.load a6 51),w 9 (.alloc a6 .no),⟨none,.store a6 9 52,none⟩])) (.out [0,3,7,47,48,49] (.aa [0,3,7,9,47,48,49] [m 53 7,m 54 0,w 55 (.load a6 9),w 56 (.kT 41 54 [55]),w 57 (.bin .add 53 56),w 58 (.mm false 57 (.c U2 201)),w 7 (.ab 58)]))))) (.out [0,3,7,47,48,49] (.aa [0,3,7,47,48,49] [w 59 (.bin .add 49 (.c U2 1)),m 49 59])))))
def FY:AC:=.out [0,3,7] (.loop [0,3,7,47,48,49] FX)
def OJ:AC:=.out [0,3,7] (.block 0 FY)
def OK:AC:=(.seq OI OJ)
def OL:AC:=(.seq (.out [0,7] (.draw [0,3,7] [⟨m 60 0,[64,65],[60],[],false,[]⟩,⟨w 61 (.jE 60),[64,65],[61],[0],false,[]⟩,⟨w 62 (.fieldAddr bC [.r,.r,.l] 61),[64,65],[62],[0,1],false,[]⟩,⟨w 63 (.load Dw 62),[64,65],[63],[0,1,2],false,[]⟩,⟨w 64 (.load a6 3),[60,61,62,63,65],[64],[],false,[]⟩,⟨m 65 7,[60,61,62,63,64],[65],[],false,[]⟩,⟨⟨none,.CL a6 U2 63 64 65,none⟩,[],[0,60,61,62,63],[0,1,2,3,4,5],true,[]⟩])) (.seq (.out [0,4] (.aa [0,7] [m 66 7,w 4 (.ab 66)])) .ret))
def AG:AC:=(.seq OK OL)
def AH:AC:=(.seq (.out [0,3] (.aa [0,1] [w 3 (.box a6 1),w 4 (.ab (.c U2 0))])) (.seq (.seq (.out [0,3,17] (.draw [0,3] [⟨w 10 (.fieldAddr a6 [.r,.r,.l] 3),[12,13,14,15,16],[10],[],false,[]⟩,⟨w 11 (.load U2 10),[12,13,14,15,16],[11],[0],false,[]⟩,⟨m 12 0,[10,11],[12],[],false,[]⟩,⟨w 13 (.jE 12),[10,11],[13],[2],false,[]⟩,⟨w 14 (.fieldAddr bC [.r,.l] 13),[10,11],[14],[2,3],false,[]⟩,⟨w 15 (.load .str 14),[10,11],[15],[2,3,4],false,[]⟩,⟨w 16 (.bP 15),[10,11],[16],[2,3,4,5],false,[]⟩,⟨w 17 (.bin .eql 11 16),[],[17],[0,1,2,3,4,5,6],false,[]⟩])) (.out [0,3,4] (.cond (.t 17) (.seq (.seq (.out [0,33] (.draw [0,3] [⟨w 18 (.fieldAddr a6 [.r,.l] 3),[],[18],[],false,[]⟩,⟨w 19 (.load U2 18),[],[19],[0],false,[]⟩,⟨w 20 (.bin .geq 19 (.c U2 0)),[],[20],[0,1],false,[]⟩,⟨m 21 20,[],[21],[0,1,2],false,[]⟩,⟨⟨some 22,.mv 0,some (21,true)⟩,[26,27,28,29,30,31],[22],[0,1,2,3],false,[]⟩,⟨⟨some 23,.jE 22,some (21,true)⟩,[26,27,28,29,30,31],[23],[0,1,2,3,4],false,[]⟩,⟨⟨some 24,.fieldAddr bC [.l] 23,some (21,true)⟩,[26,27,28,29,30,31],[24],[0,1,2,3,4,5],false,[]⟩,⟨⟨some 25,.load ak 24,some (21,true)⟩,[26,27,28,29,30,31],[25],[0,1,2,3,4,5,6],false,[]⟩,⟨⟨some 26,.fieldAddr a6 [.r,.l] 3,some (21,true)⟩,[22,23,24,25,28,29,30,31],[26],[0,1,2,3],false,[]⟩,⟨⟨some 27,.load U2 26,some (21,true)⟩,[22,23,24,25,28,29,30,31],[27],[0,1,2,3,8],false,[]⟩,⟨⟨some 28,.mv 0,some (21,true)⟩,[22,23,24,25,26,27,29,30],[28],[0,1,2,3],false,[]⟩,⟨⟨some 29,.fieldAddr a6 [.l] 3,some (21,true)⟩,[22,23,24,25,26,27,28],[29],[0,1,2,3],false,[]⟩,⟨⟨some 30,.load U2 29,some (21,true)⟩,[22,23,24,25,26,27,28],[30],[0,1,2,3,11],false,[]⟩,⟨⟨some 31,.call 73 [28,30],some (21,true)⟩,[22,23,24,25,26,27],[31],[0,1,2,3,10,11,12],false,[]⟩,⟨⟨some 32,.call 60 [25,27,31,(.nil 40 aB)],some (21,true)⟩,[],[32],[0,1,2,3,4,5,6,7,8,9,10,11,12,13],false,[]⟩,⟨w 33 (.pick 21 32 (.c .bool false)),[],[33],[0,1,2,3,4,5,6,7,8,9,10,11,12,13,14],false,[]⟩])) (.out [0,4] (.cond (.t 33) (.seq (.out [0,4] (.aa [0] [w 4 (.ab (.c U2 1))])) .ret) .skip))) (.seq (.out [0,4] (.aa [0] [w 4 (.ab (.c U2 0))])) .ret)) .skip))) (.seq (.seq (.out [0,3,5,6] (.draw [0,3] [⟨m 35 0,[39],[35],[],false,[]⟩,⟨w 36 (.jE 35),[39],[36],[0],false,[]⟩,⟨w 37 (.fieldAddr bC [.r,.r,.l] 36),[39],[37],[0,1],false,[]⟩,⟨w 38 (.load Dw 37),[39],[38],[0,1,2],false,[]⟩,⟨w 39 (.load a6 3),[35,36,37,38],[39],[],false,[]⟩,⟨w 40 (.CJ a6 U2 38 39),[],[40],[0,1,2,3,4],true,[]⟩,⟨m 34 40,[],[34],[0,1,2,3,4,5],true,[]⟩,⟨w 41 (.extract 34 0),[42],[41],[0,1,2,3,4,5,6],false,[]⟩,⟨w 42 (.extract 34 1),[5,41],[42],[0,1,2,3,4,5,6],false,[]⟩,⟨w 5 (.ab 41),[42],[5],[0,1,2,3,4,5,6,7],false,[]⟩,⟨w 6 (.ab 42),[],[6],[0,1,2,3,4,5,6,7,8,9],false,[]⟩])) (.seq (.out [0,3,5,43] (.aa [0,3,5,6] [m 43 6])) (.out [0,3,4] (.cond (.t 43) (.seq (.out [0,4] (.aa [0,5] [m 44 5,w 4 (.ab 44)])) .ret) .skip)))) (.seq (.out [0,3,7] (.aa [0,3] [w 7 (.ab (.c U2 0))])) AG))))
def FW:AC:=AH
def d41:FD:={nargs:=2,body:=FW,res:=[.t 4],lend:=true}
def OM:AC:=.out [0,5,21,22,23] (.aa [0,3,5] [m 19 0,w 20 (.load a6 3),w 21 (.call 74 [19,20]),w 22 (.aZ 21),w 23 (.mv (.c U2 0))])
def F0:AC:=(.seq (.out [0,5,7,21,22,23,33,34,35,36] (.aa [0,5,7,21,22,23,33,34,35] [w 36 (.bin .lss 35 34)])) (.seq (.out [0,5,7,21,22,23,33,34,35] (.cond (.t 36) .skip (.exit 2))) (.seq (.out [0,5,7,21,22,23,33,34,35] (.block 3 (.seq (.out [0,5,7,9,21,22,23,33,34,35] (.aa [0,5,7,21,22,23,33,34,35] [w 37 (.indexAddr U5 33 35),w 38 (.load U5 37),w 9 (.ab 38)])) (.out [0,5,7,21,22,23,33,34,35] (.aa [0,5,7,9,21,22,23,33,34,35] [m 39 5,w 40 (.fieldAddr a6 [.r,.l] 7),w 41 (.load U2 40),w 42 (.buildSlice 3 U2 [41]),m 43 9,w 44 (.append 3 U2 17592186044416 42 43),w 45 (.buildSlice 27 U5 [44]),w 46 (.append 27 U5 5864062014805 39 45),w 5 (.ab 46)]))))) (.out [0,5,7,21,22,23,33,34,35] (.aa [0,5,7,21,22,23,33,34,35] [w 47 (.bin .add 35 (.c U2 1)),m 35 47])))))
def F1:AC:=.out [0,5,21,22,23] (.loop [0,5,7,21,22,23,33,34,35] F0)
def AL:AC:=.out [0,5,21,22,23] (.block 2 F1)
def F2:AC:=(.seq (.out [0,5,7,21,22,23] (.aa [0,5,21,22,23] [w 25 (.indexAddr a6 21 23),w 26 (.load a6 25),w 7 (.alloc a6 .no),⟨none,.store a6 7 26,none⟩])) (.seq (.seq (.out [0,5,7,21,22,23,30] (.aa [0,5,7,21,22,23] [m 27 0,w 28 (.load a6 7),w 29 (.kT 41 27 [28]),w 30 (.bin .eql 29 (.c U2 0))])) (.out [0,5,7,21,22,23] (.cond (.t 30) (.exit 1) .skip))) (.seq (.out [0,5,7,21,22,23,33,34,35] (.aa [0,5,7,21,22,23] [m 31 0,w 32 (.load a6 7),w 33 (.kT 42 31 [32]),w 34 (.aZ 33),w 35 (.mv (.c U2 0))])) AL)))
def F3:AC:=.out [0,5,21,22,23] (.block 1 F2)
def OQ:AC:=.out [0,5,21,22,23] (.aa [0,5,21,22,23] [w 48 (.bin .add 23 (.c U2 1)),m 23 48])
def AM:AC:=(.seq F3 OQ)
def ur:AC:=(.seq (.out [0,5,21,22,23,24] (.aa [0,5,21,22,23] [w 24 (.bin .lss 23 22)])) (.seq (.out [0,5,21,22,23] (.cond (.t 24) .skip (.exit 0))) AM))
def F4:AC:=.out [0,5] (.loop [0,5,21,22,23] ur)
def ON:AC:=.out [0,5] (.block 0 F4)
def OO:AC:=(.seq OM ON)
def OP:AC:=(.seq (.out [0,4,5] (.aa [0,5] [m 49 5,w 4 (.ab 49)])) .ret)
def AJ:AC:=(.seq OO OP)
def AK:AC:=(.seq (.out [0,3] (.aa [0,1] [w 3 (.box a6 1),w 4 (.ab (.nil 27 U5))])) (.seq (.seq (.out [0,3,17] (.draw [0,3] [⟨w 10 (.fieldAddr a6 [.r,.r,.l] 3),[12,13,14,15,16],[10],[],false,[]⟩,⟨w 11 (.load U2 10),[12,13,14,15,16],[11],[0],false,[]⟩,⟨m 12 0,[10,11],[12],[],false,[]⟩,⟨w 13 (.jE 12),[10,11],[13],[2],false,[]⟩,⟨w 14 (.fieldAddr bC [.r,.l] 13),[10,11],[14],[2,3],false,[]⟩,⟨w 15 (.load .str 14),[10,11],[15],[2,3,4],false,[]⟩,⟨w 16 (.bP 15),[10,11],[16],[2,3,4,5],false,[]⟩,⟨w 17 (.bin .eql 11 16),[],[17],[0,1,2,3,4,5,6],false,[]⟩])) (.out [0,3,4] (.cond (.t 17) (.seq (.out [0,4] (.aa [0] [w 18 (.buildSlice 27 U5 [(.nil 3 U2)]),w 4 (.ab 18)])) .ret) .skip))) (.seq (.out [0,3,5] (.aa [0,3] [w 5 (.ab (.nil 27 U5))])) AJ)))
def FZ:AC:=AK
def d42:FD:={nargs:=2,body:=FZ,res:=[.t 4],lend:=true}
def OD:AC:=.out [2,5,8,9,10] (.aa [1,2,5] [m 8 1,w 9 (.aZ 8),w 10 (.mv (.c U2 0))])
def FT:AC:=(.seq (.out [2,5,8,9,10,11] (.aa [2,5,8,9,10] [w 11 (.bin .lss 10 9)])) (.seq (.out [2,5,8,9,10] (.cond (.t 11) .skip (.exit 0))) (.seq (.out [2,5,8,9,10] (.block 1 (.seq (.out [2,5,7,8,9,10] (.aa [2,5,8,9,10] [w 12 (.indexAddr U2 8 10),w 13 (.load U2 12),w 7 (.ab 13)])) (.out [2,5,8,9,10] (.aa [2,5,7,8,9,10] [m 14 5,w 15 (.fieldAddr ak [.r,.l] 2),w 16 (.load cR 15),m 17 7,w 18 (.indexAddr aD 16 17),w 19 (.fieldAddr aD [.r,.r,.l] 18),w 20 (.load U2 19),w 21 (.bin .add 14 20),w 5 (.ab 21)]))))) (.out [2,5,8,9,10] (.aa [2,5,8,9,10] [w 22 (.bin .add 10 (.c U2 1)),m 10 22])))))
def FU:AC:=.out [5] (.loop [2,5,8,9,10] FT)
def OE:AC:=.out [5] (.block 0 FU)
def OF:AC:=(.seq OD OE)
def OG:AC:=(.seq (.out [4] (.aa [5] [m 23 5,w 4 (.ab 23)])) .ret)
def AE:AC:=(.seq OF OG)
def AF:AC:=(.seq (.out [1,2] (.aa [0,1] [w 2 (.box ak 0),w 4 (.ab (.c U2 0))])) (.seq (.out [1,2,5] (.aa [1,2] [w 5 (.ab (.c U2 0))])) AE))
def FR:AC:=AF
def d38:FD:={nargs:=2,body:=FR,res:=[.t 4]}
def PV:AC:=(.seq (.out [0] (.aa [0] [w 2 (.ab (.c .bool false))])) (.seq (.out [2] (.aa [0] [m 3 0,m 4 0,w 5 (.bin .neq 3 4),w 2 (.ab 5)])) .ret))
def GP:AC:=PV
def d77:FD:={nargs:=1,body:=GP,res:=[.t 2]}
def OW:AC:=(.seq (.out [0,1] (.aa [0,1] [w 4 (.ab (.c U2 0))])) (.seq (.out [0,1,5] (.aa [0,1] [m 7 0,w 8 (.call 77 [7]),w 5 (.ab 8)])) (.seq (.out [0,1,5,6] (.aa [0,1,5] [m 9 1,w 10 (.call 77 [9]),w 6 (.ab 10)])) (.seq (.seq (.out [0,1,6,11] (.aa [0,1,5,6] [m 11 5])) (.out [0,1,4,6] (.cond (.t 11) (.seq (.seq (.out [12] (.aa [6] [m 12 6])) (.out [4] (.cond (.t 12) (.seq (.out [4] (.aa [] [w 4 (.ab (.c U2 0))])) .ret) .skip))) (.seq (.out [4] (.aa [] [w 4 (.ab (.c U2 (-1)))])) .ret)) .skip))) (.seq (.seq (.out [0,1,13] (.aa [0,1,6] [m 13 6])) (.out [0,1,4] (.cond (.t 13) (.seq (.out [4] (.aa [] [w 4 (.ab (.c U2 1))])) .ret) .skip))) (.seq (.seq (.out [0,1,16] (.aa [0,1] [m 14 0,m 15 1,w 16 (.bin .lss 14 15)])) (.out [0,1,4] (.cond (.t 16) (.seq (.out [4] (.aa [] [w 4 (.ab (.c U2 (-1)))])) .ret) .skip))) (.seq (.seq (.out [19] (.aa [0,1] [m 17 0,m 18 1,w 19 (.bin .gtr 17 18)])) (.out [4] (.cond (.t 19) (.seq (.out [4] (.aa [] [w 4 (.ab (.c U2 1))])) .ret) .skip))) (.seq (.out [4] (.aa [] [w 4 (.ab (.c U2 0))])) .ret))))))))
def F9:AC:=OW
def d46:FD:={nargs:=2,body:=F9,res:=[.t 4]}
def OX:AC:=.out [0,1] (.aa [0,1] [w 4 (.ab (.c U2 0))])
def OY:AC:=.out [0,1,9,10,11] (.aa [0,1] [m 9 0,w 10 (.aZ 9),w 11 (.mv (.c U2 0))])
def Gb:AC:=(.seq (.out [0,1,9,10,11,12] (.aa [0,1,9,10,11] [w 12 (.bin .lss 11 10)])) (.seq (.out [0,1,9,10,11] (.cond (.t 12) .skip (.exit 0))) (.seq (.out [0,1,4,9,10,11] (.block 1 (.seq (.out [0,1,5,6,9,10,11] (.aa [0,1,9,10,11] [m 13 11,w 14 (.indexAddr U2 9 11),w 15 (.load U2 14),w 5 (.ab 13),w 6 (.ab 15)])) (.seq (.seq (.out [0,1,5,6,9,10,11,19] (.aa [0,1,5,6,9,10,11] [m 16 5,m 17 1,w 18 (.aZ 17),w 19 (.bin .geq 16 18)])) (.out [0,1,4,5,6,9,10,11] (.cond (.t 19) (.seq (.out [4] (.aa [] [w 4 (.ab (.c U2 1))])) .ret) .skip))) (.seq (.out [0,1,6,7,9,10,11] (.aa [0,1,5,6,9,10,11] [m 20 1,m 21 5,w 22 (.indexAddr U2 20 21),w 23 (.load U2 22),w 7 (.ab 23)])) (.seq (.out [0,1,8,9,10,11] (.aa [0,1,6,7,9,10,11] [m 24 6,m 25 7,w 26 (.call 46 [24,25]),w 8 (.ab 26)])) (.seq (.out [0,1,8,9,10,11,28] (.aa [0,1,8,9,10,11] [m 27 8,w 28 (.bin .neq 27 (.c U2 0))])) (.out [0,1,4,9,10,11] (.cond (.t 28) (.seq (.out [4] (.aa [8] [m 29 8,w 4 (.ab 29)])) .ret) .skip))))))))) (.out [0,1,9,10,11] (.aa [0,1,9,10,11] [w 30 (.bin .add 11 (.c U2 1)),m 11 30])))))
def Gc:AC:=.out [0,1,4] (.loop [0,1,9,10,11] Gb)
def OZ:AC:=.out [0,1,4] (.block 0 Gc)
def O0:AC:=(.seq OY OZ)
def O1:AC:=(.seq (.seq (.out [35] (.aa [0,1] [m 31 0,w 32 (.aZ 31),m 33 1,w 34 (.aZ 33),w 35 (.bin .lss 32 34)])) (.out [4] (.cond (.t 35) (.seq (.out [4] (.aa [] [w 4 (.ab (.c U2 (-1)))])) .ret) .skip))) (.seq (.out [4] (.aa [] [w 4 (.ab (.c U2 0))])) .ret))
def O2:AC:=(.seq O0 O1)
def Ge:AC:=(.seq OX O2)
def Ga:AC:=Ge
def d47:FD:={nargs:=2,body:=Ga,res:=[.t 4]}
def OS:AC:=.out [3,6,7,8] (.aa [0,3] [m 6 0,w 7 (.aZ 6),w 8 (.mv (.c U2 0))])
def F7:AC:=(.seq (.out [3,6,7,8,9] (.aa [3,6,7,8] [w 9 (.bin .lss 8 7)])) (.seq (.out [3,6,7,8] (.cond (.t 9) .skip (.exit 0))) (.seq (.out [2,3,6,7,8] (.block 1 (.seq (.out [3,5,6,7,8] (.aa [3,6,7,8] [w 10 (.indexAddr U2 6 8),w 11 (.load U2 10),w 5 (.ab 11)])) (.seq (.out [3,5,6,7,8,14] (.aa [3,5,6,7,8] [m 12 5,m 13 3,w 14 (.bin .neq 12 13)])) (.out [2,3,6,7,8] (.cond (.t 14) (.seq (.out [2] (.aa [5] [m 15 5,w 2 (.ab 15)])) .ret) .skip)))))) (.out [3,6,7,8] (.aa [3,6,7,8] [w 16 (.bin .add 8 (.c U2 1)),m 8 16])))))
def F8:AC:=.out [2,3] (.loop [3,6,7,8] F7)
def OT:AC:=.out [2,3] (.block 0 F8)
def OU:AC:=(.seq OS OT)
def OV:AC:=(.seq (.out [2] (.aa [3] [m 17 3,w 2 (.ab 17)])) .ret)
def AN:AC:=(.seq OU OV)
def AO:AC:=(.seq (.out [0] (.aa [0] [w 2 (.ab (.c U2 0))])) (.seq (.out [0,3] (.aa [0] [w 3 (.ab (.c U2 0))])) AN))
def F6:AC:=AO
def d45:FD:={nargs:=1,body:=F6,res:=[.t 2]}
def OR:AC:=(.seq (.out [0,1,2] (.aa [0,1,2] [w 5 (.ab (.c U2 0))])) (.seq (.out [5] (.draw [0,1,2] [⟨w 6 (.load ak 2),[7,9,10,13,14],[6],[],false,[]⟩,⟨m 7 0,[6,9,10,13,14],[7],[],false,[]⟩,⟨w 8 (.call 38 [6,7]),[9,10,13,14],[8],[0,1],false,[]⟩,⟨w 9 (.load ak 2),[6,7,8,10,13,14],[9],[],false,[]⟩,⟨m 10 1,[6,7,8,9,13,14],[10],[],false,[]⟩,⟨w 11 (.call 38 [9,10]),[13,14],[11],[0,1,2,3,4],false,[]⟩,⟨w 12 (.call 46 [8,11]),[13,14],[12],[0,1,2,3,4,5],false,[]⟩,⟨m 13 0,[6,7,8,9,10,11,12,14],[13],[],false,[]⟩,⟨m 14 1,[6,7,8,9,10,11,12,13],[14],[],false,[]⟩,⟨w 15 (.call 47 [13,14]),[],[15],[0,1,2,3,4,5,6,7,8],false,[]⟩,⟨w 16 (.buildSlice 3 U2 [12,15]),[],[16],[0,1,2,3,4,5,6,7,8,9],false,[]⟩,⟨w 17 (.call 45 [16]),[],[17],[0,1,2,3,4,5,6,7,8,9,10],false,[]⟩,⟨w 5 (.ab 17),[],[5],[0,1,2,3,4,5,6,7,8,9,10,11],false,[]⟩])) .ret))
def F5:AC:=OR
def d44:FD:={nargs:=3,body:=F5,res:=[.t 5]}
def NH:AC:=(.seq (.out [1,2] (.aa [0,1] [w 2 (.box ak 0),w 4 (.ab (.nil 27 U5)),w 5 (.ab (.c U2 0))])) (.seq (.seq (.out [1,2,6] (.aa [1,2] [w 11 (.load ak 2),m 12 1,w 13 (.call 40 [11,12]),w 6 (.ab 13)])) (.seq (.out [1,2,6,15] (.aa [1,2,6] [m 14 6,w 15 (.bin .neq 14 (.c U2 0))])) (.out [1,2,4,5] (.cond (.t 15) (.seq (.out [4,5] (.aa [6] [m 16 6,w 4 (.ab (.nil 27 U5)),w 5 (.ab 16)])) .ret) .skip)))) (.seq (.out [2,7,21] (.aa [1,2] [w 17 (.load ak 2),m 18 1,w 19 (.CK a6 U2),w 20 (.zF bC [.r,.r,.l] 19 [([.l],17),([.r,.l],18)]),w 21 (.zE bC 20),w 7 (.ab 21)])) (.seq (.out [2,7,8,21] (.aa [2,7,21] [w 22 (.build a6 [([.l],(.c U2 (-1))),([.r,.l],(.c U2 (-1))),([.r,.r,.l],(.c U2 0))]),w 8 (.alloc a6 .no),⟨none,.store a6 8 22,none⟩])) (.seq (.seq (.out [2,7,8,9,21] (.aa [2,7,8,21] [m 23 7,w 24 (.load a6 8),w 25 (.kT 41 23 [24]),w 9 (.ab 25)])) (.out [2,4,5,7,8,21] (.block 0 (.seq (.out [2,7,8,9,21,26] (.aa [2,7,8,9,21] [m 27 9,w 28 (.bin .eql 27 (.c U2 0)),w 26 (.ab 28)])) (.out [2,4,5,7,8,21] (.cond (.t 26) (.seq (.out [4,5] (.aa [] [w 4 (.ab (.nil 27 U5)),w 5 (.ab (.c U2 9))])) .ret) (.seq (.out [2,7,8,21,29] (.aa [2,7,8,9,21] [m 30 9,w 31 (.bin .gtr 30 (.c U2 200)),w 29 (.ab 31)])) (.out [2,4,5,7,8,21] (.cond (.t 29) (.seq (.out [4,5] (.aa [] [w 4 (.ab (.nil 27 U5)),w 5 (.ab (.c U2 3))])) .ret) .skip))))))))) (.seq (.out [2,10] (.aa [2,7,8,21] [m 32 7,w 33 (.load a6 8),w 34 (.kT 42 32 [33]),w 10 (.ab 34)])) (.seq (.out [10] (.aa [2,10] [m 35 10,w 36 (.qz 44 zk U2 [2]),w 37 (.iV 43 35 36)])) (.seq (.out [4,5,10] (.aa [10] [m 38 10,w 4 (.ab 38),w 5 (.ab (.c U2 0))])) .ret))))))))
def E8:AC:=NH
def d16:FD:={nargs:=2,body:=E8,res:=[.t 4,.t 5]}
def MZ:AC:=(.seq (.out [1,2] (.aa [0,1] [w 2 (.box ak 0),w 4 (.ab (.nil 3 U2)),w 5 (.ab (.c U2 0)),w 6 (.ab (.c U2 0))])) (.seq (.out [2,7,8] (.aa [1,2] [w 10 (.load ak 2),m 11 1,w 12 (.call 16 [10,11]),m 9 12,w 13 (.extract 9 0),w 14 (.extract 9 1),w 7 (.ab 13),w 8 (.ab 14)])) (.seq (.seq (.out [2,7,8,16] (.aa [2,7,8] [m 15 8,w 16 (.bin .neq 15 (.c U2 0))])) (.out [2,4,5,6,7] (.cond (.t 16) (.seq (.out [4,5,6] (.aa [8] [m 17 8,w 4 (.ab (.nil 3 U2)),w 5 (.ab (.c U2 0)),w 6 (.ab 17)])) .ret) .skip))) (.seq (.out [4,5,6] (.draw [2,7] [⟨m 18 7,[21,22,23,24,25],[18],[],false,[]⟩,⟨w 19 (.indexAddr U5 18 (.c U2 0)),[21,22,23,24,25],[19],[0],false,[]⟩,⟨w 20 (.load U5 19),[21,22,23,24,25],[20],[0,1],false,[]⟩,⟨w 21 (.load ak 2),[18,19,20,22,23,24],[21],[],false,[]⟩,⟨m 22 7,[18,19,20,21],[22],[],false,[]⟩,⟨w 23 (.indexAddr U5 22 (.c U2 0)),[18,19,20,21],[23],[4],false,[]⟩,⟨w 24 (.load U5 23),[18,19,20,21],[24],[4,5],false,[]⟩,⟨w 25 (.call 38 [21,24]),[18,19,20],[25],[3,4,5,6],false,[]⟩,⟨w 4 (.ab 20),[],[4],[0,1,2,3,4,5,6,7],true,[]⟩,⟨w 5 (.ab 25),[],[5],[0,1,2,3,4,5,6,7,8],false,[]⟩,⟨w 6 (.ab (.c U2 0)),[],[6],[0,1,2,3,4,5,6,7,8,9],false,[]⟩])) .ret))))
def Ep:AC:=MZ
def d13:FD:={nargs:=2,body:=Ep,res:=[.p 4,.t 5,.t 6]}
def O9:AC:=.out [2,6,9,10,11] (.aa [1,2,6] [m 9 1,w 10 (.aZ 9),w 11 (.mv (.c U2 0))])
def Gm:AC:=(.seq (.out [2,6,9,10,11,12] (.aa [2,6,9,10,11] [w 12 (.bin .lss 11 10)])) (.seq (.out [2,6,9,10,11] (.cond (.t 12) .skip (.exit 0))) (.seq (.out [2,4,5,6,9,10,11] (.block 1 (.seq (.out [2,6,8,9,10,11] (.aa [2,6,9,10,11] [w 13 (.indexAddr U2 9 11),w 14 (.load U2 13),w 8 (.ab 14)])) (.seq (.seq (.out [2,6,8,9,10,11,23] (.aa [2,6,8,9,10,11] [m 15 8,w 16 (.bin .lss 15 (.c U2 0)),m 17 16,⟨some 18,.mv 8,some (17,false)⟩,⟨some 19,.fieldAddr ak [.r,.l] 2,some (17,false)⟩,⟨some 20,.load cR 19,some (17,false)⟩,⟨some 21,.aZ 20,some (17,false)⟩,⟨some 22,.bin .geq 18 21,some (17,false)⟩,w 23 (.pick 17 (.c .bool true) 22)])) (.out [2,4,5,6,8,9,10,11] (.cond (.t 23) (.seq (.out [4,5] (.aa [] [w 4 (.ab (.c .str [])),w 5 (.ab (.c .bool false))])) .ret) .skip))) (.out [2,6,9,10,11] (.aa [2,6,8,9,10,11] [w 24 (.fieldAddr ak [.r,.l] 2),w 25 (.load cR 24),m 26 8,w 27 (.indexAddr aD 25 26),w 28 (.fieldAddr aD [.l] 27),w 29 (.load .str 28),w 30 (.iC 84 6 29)])))))) (.out [2,6,9,10,11] (.aa [2,6,9,10,11] [w 31 (.bin .add 11 (.c U2 1)),m 11 31])))))
def Gn:AC:=.out [4,5,6] (.loop [2,6,9,10,11] Gm)
def Pa:AC:=.out [4,5,6] (.block 0 Gn)
def Pb:AC:=(.seq O9 Pa)
def Pc:AC:=(.seq (.out [4,5] (.aa [6] [w 32 (.jI 85 6),w 4 (.ab 32),w 5 (.ab (.c .bool true))])) .ret)
def AR:AC:=(.seq Pb Pc)
def AS:AC:=(.seq (.out [1,2] (.aa [0,1] [w 2 (.box ak 0),w 4 (.ab (.c .str [])),w 5 (.ab (.c .bool false))])) (.seq (.out [1,2,6] (.aa [1,2] [w 6 (.yH 123 5)])) AR))
def Gk:AC:=AS
def d57:FD:={nargs:=2,body:=Gk,res:=[.t 4,.t 5]}
def O8:AC:=(.seq (.out [1,2] (.aa [0,1] [w 2 (.box ak 0),w 4 (.ab (.c U2 0))])) (.seq (.seq (.out [1,2,5] (.aa [1,2] [w 8 (.load ak 2),w 9 (.call 70 [8]),w 5 (.ab 9)])) (.seq (.out [1,2,5,11] (.aa [1,2,5] [m 10 5,w 11 (.bin .neq 10 (.c U2 0))])) (.out [1,2,4] (.cond (.t 11) (.seq (.out [4] (.aa [5] [m 12 5,w 4 (.ab 12)])) .ret) .skip)))) (.seq (.seq (.out [1,2,15] (.aa [1,2] [m 13 1,w 14 (.aZ 13),w 15 (.bin .gtr 14 (.c U2 16))])) (.out [1,2,4] (.cond (.t 15) (.seq (.out [4] (.aa [] [w 4 (.ab (.c U2 3))])) .ret) .skip))) (.seq (.seq (.out [7] (.aa [1,2] [w 17 (.load ak 2),m 18 1,w 19 (.call 57 [17,18]),m 16 19,w 20 (.extract 16 0),w 21 (.extract 16 1),w 6 (.ab 20),w 7 (.ab 21)])) (.seq (.out [23] (.aa [7] [m 22 7,w 23 (.un .not 22)])) (.out [4] (.cond (.t 23) (.seq (.out [4] (.aa [] [w 4 (.ab (.c U2 6))])) .ret) .skip)))) (.seq (.out [4] (.aa [] [w 4 (.ab (.c U2 0))])) .ret)))))
def Gj:AC:=O8
def d55:FD:={nargs:=2,body:=Gj,res:=[.t 4]}
def NV:AC:=.out [2,7,8,17,18,19] (.aa [1,2,7,8] [m 17 1,w 18 (.aZ 17),w 19 (.mv (.c U2 0))])
def NW:AC:=.out [2,7,8,10,17,18,19] (.aa [2,7,8,17,18,19] [w 21 (.indexAddr U2 17 19),w 22 (.load U2 21),w 10 (.ab 22)])
def N2:AC:=.out [2,7,8,10,17,18,19,29,30] (.aa [2,7,8,10,17,18,19] [w 23 (.fieldAddr ak [.r,.l] 2),w 24 (.load cR 23),m 25 10,w 26 (.indexAddr aD 24 25),w 27 (.fieldAddr aD [.r,.l] 26),w 28 (.load bB 27),w 29 (.aZ 28),w 30 (.mv (.c U2 0))])
def Fu:AC:=(.seq (.out [2,7,8,10,17,18,19,29,30,31] (.aa [2,7,8,10,17,18,19,29,30] [w 31 (.bin .lss 30 29)])) (.seq (.out [2,7,8,10,17,18,19,29,30] (.cond (.t 31) .skip (.exit 2))) (.seq (.out [2,7,8,10,17,18,19,29,30] (.block 3 (.out [2,7,8,10,17,18,19,29,30] (.aa [2,7,8,10,17,18,19,29,30] [m 32 7,m 33 8,w 34 (.buildSlice 3 U2 [33]),w 35 (.append 3 U2 17592186044416 32 34),w 7 (.ab 35)])))) (.out [2,7,8,10,17,18,19,29,30] (.aa [2,7,8,10,17,18,19,29,30] [w 36 (.bin .add 30 (.c U2 1)),m 30 36])))))
def Fv:AC:=.out [2,7,8,10,17,18,19] (.loop [2,7,8,10,17,18,19,29,30] Fu)
def N3:AC:=.out [2,7,8,10,17,18,19] (.block 2 Fv)
def N4:AC:=(.seq N2 N3)
def N5:AC:=.out [2,7,8,17,18,19] (.aa [2,7,8,10,17,18,19] [m 37 8,w 38 (.fieldAddr ak [.r,.l] 2),w 39 (.load cR 38),m 40 10,w 41 (.indexAddr aD 39 40),w 42 (.fieldAddr aD [.l] 41),w 43 (.load .str 42),w 44 (.bP 43),w 45 (.bin .add 37 44),w 8 (.ab 45)])
def N6:AC:=(.seq N4 N5)
def N7:AC:=(.seq NW N6)
def NX:AC:=.out [2,7,8,17,18,19] (.block 1 N7)
def NY:AC:=.out [2,7,8,17,18,19] (.aa [2,7,8,17,18,19] [w 46 (.bin .add 19 (.c U2 1)),m 19 46])
def Au:AC:=(.seq NX NY)
def uq:AC:=(.seq (.out [2,7,8,17,18,19,20] (.aa [2,7,8,17,18,19] [w 20 (.bin .lss 19 18)])) (.seq (.out [2,7,8,17,18,19] (.cond (.t 20) .skip (.exit 0))) Au))
def Ft:AC:=.out [7] (.loop [2,7,8,17,18,19] uq)
def NZ:AC:=.out [7] (.block 0 Ft)
def N0:AC:=(.seq NV NZ)
def N1:AC:=(.seq (.out [4,5,7] (.aa [7] [m 47 7,w 4 (.ab 47),w 5 (.ab (.c U2 0))])) .ret)
def Av:AC:=(.seq N0 N1)
def Aw:AC:=(.seq (.out [1,2] (.aa [0,1] [w 2 (.box ak 0),w 4 (.ab (.nil 3 U2)),w 5 (.ab (.c U2 0))])) (.seq (.seq (.out [1,2,6] (.aa [1,2] [w 11 (.load ak 2),m 12 1,w 13 (.call 55 [11,12]),w 6 (.ab 13)])) (.seq (.out [1,2,6,15] (.aa [1,2,6] [m 14 6,w 15 (.bin .neq 14 (.c U2 0))])) (.out [1,2,4,5] (.cond (.t 15) (.seq (.out [4,5] (.aa [6] [m 16 6,w 4 (.ab (.nil 3 U2)),w 5 (.ab 16)])) .ret) .skip)))) (.seq (.out [1,2,7] (.aa [1,2] [w 7 (.ab (.nil 3 U2))])) (.seq (.out [1,2,7,8] (.aa [1,2,7] [w 8 (.ab (.c U2 0))])) Av))))
def Fs:AC:=Aw
def d24:FD:={nargs:=2,body:=Fs,res:=[.t 4,.t 5]}
def NM:AC:=.out [1,2,7,8,25,26,27] (.aa [1,2,7,8] [m 25 7,w 26 (.aZ 25),w 27 (.mv (.c U2 0))])
def Fi:AC:=(.seq (.out [1,2,7,8,9,25,26,27,36,37,38,39] (.aa [1,2,7,8,9,25,26,27,36,37,38] [w 39 (.bin .lss 38 37)])) (.seq (.out [1,2,7,8,9,25,26,27,36,37,38] (.cond (.t 39) .skip (.exit 2))) (.seq (.out [1,2,7,8,9,25,26,27,36,37,38] (.block 3 (.seq (.out [1,2,7,8,9,12,25,26,27,36,37,38] (.aa [1,2,7,8,9,25,26,27,36,37,38] [w 40 (.indexAddr aD 36 38),w 41 (.load aD 40),w 12 (.alloc aD (.pair .no (.pair (.own true 40 .no) (.pair .no (.pair .no .no))))),⟨none,.store aD 12 41,none⟩])) (.seq (.out [1,2,7,8,9,12,25,26,27,36,37,38,47] (.draw [1,2,7,8,9,12,25,26,27,36,37,38] [⟨m 42 1,[43,45,46],[42],[],false,[]⟩,⟨m 43 9,[42,45,46],[43],[],false,[]⟩,⟨w 44 (.jK 42 (some 43) none),[45,46],[44],[0,1],false,[]⟩,⟨w 45 (.fieldAddr aD [.l] 12),[42,43,44],[45],[],false,[]⟩,⟨w 46 (.load .str 45),[42,43,44],[46],[3],false,[]⟩,⟨w 47 (.call 54 [44,46]),[],[47],[0,1,2,3,4],false,[]⟩])) (.out [1,2,7,8,9,25,26,27,36,37,38] (.cond (.t 47) (.out [1,2,7,8,9,25,26,27,36,37,38] (.aa [1,2,7,8,9,12,25,26,27,36,37,38] [m 48 7,m 49 9,w 50 (.fieldAddr aD [.l] 12),w 51 (.load .str 50),w 52 (.bP 51),w 53 (.bin .add 49 52),w 54 (.indexAddr .bool 48 53),⟨none,.store .bool 54 (.c .bool true),none⟩])) .skip)))))) (.out [1,2,7,8,9,25,26,27,36,37,38] (.aa [1,2,7,8,9,25,26,27,36,37,38] [w 55 (.bin .add 38 (.c U2 1)),m 38 55])))))
def Fj:AC:=.out [1,2,7,8,25,26,27] (.loop [1,2,7,8,9,25,26,27,36,37,38] Fi)
def Ap:AC:=.out [1,2,7,8,25,26,27] (.block 2 Fj)
def Fk:AC:=(.seq (.out [1,2,7,8,9,10,25,26,27] (.aa [1,2,7,8,25,26,27] [m 29 27,w 30 (.indexAddr .bool 25 27),w 31 (.load .bool 30),w 9 (.ab 29),w 10 (.ab 31)])) (.seq (.seq (.out [1,2,7,8,9,25,26,27,33] (.aa [1,2,7,8,9,10,25,26,27] [m 32 10,w 33 (.un .not 32)])) (.out [1,2,7,8,9,25,26,27] (.cond (.t 33) (.exit 1) .skip))) (.seq (.out [1,2,7,8,9,25,26,27] (.aa [1,2,7,9,25,26,27] [m 34 9,w 8 (.ab 34)])) (.seq (.out [1,2,7,8,9,25,26,27,36,37,38] (.aa [1,2,7,8,9,25,26,27] [w 35 (.fieldAddr ak [.r,.l] 2),w 36 (.load cR 35),w 37 (.aZ 36),w 38 (.mv (.c U2 0))])) Ap))))
def Fl:AC:=.out [1,2,7,8,25,26,27] (.block 1 Fk)
def NQ:AC:=.out [1,2,7,8,25,26,27] (.aa [1,2,7,8,25,26,27] [w 56 (.bin .add 27 (.c U2 1)),m 27 56])
def Aq:AC:=(.seq Fl NQ)
def uk:AC:=(.seq (.out [1,2,7,8,25,26,27,28] (.aa [1,2,7,8,25,26,27] [w 28 (.bin .lss 27 26)])) (.seq (.out [1,2,7,8,25,26,27] (.cond (.t 28) .skip (.exit 0))) Aq))
def Fm:AC:=.out [8] (.loop [1,2,7,8,25,26,27] uk)
def NN:AC:=.out [8] (.block 0 Fm)
def NO:AC:=(.seq NM NN)
def NP:AC:=(.seq (.out [4,5] (.aa [8] [m 57 8,w 4 (.ab 57),w 5 (.ab (.c U2 0))])) .ret)
def Am:AC:=(.seq NO NP)
def Ao:AC:=(.seq (.out [1,2] (.aa [0,1] [w 2 (.box ak 0),w 4 (.ab (.c U2 0)),w 5 (.ab (.c U2 0))])) (.seq (.seq (.out [1,2,6] (.aa [1,2] [w 13 (.load ak 2),m 14 1,w 15 (.call 40 [13,14]),w 6 (.ab 15)])) (.seq (.out [1,2,6,17] (.aa [1,2,6] [m 16 6,w 17 (.bin .neq 16 (.c U2 0))])) (.out [1,2,4,5] (.cond (.t 17) (.seq (.out [4,5] (.aa [6] [m 18 6,w 4 (.ab (.c U2 0)),w 5 (.ab 18)])) .ret) .skip)))) (.seq (.out [1,2,7] (.aa [1,2] [m 19 1,w 20 (.bP 19),w 21 (.bin .add 20 (.c U2 1)),w 22 (.mkSlice 4 .bool 140737488355328 21 21),w 7 (.ab 22)])) (.seq (.out [1,2,7] (.aa [1,2,7] [m 23 7,w 24 (.indexAddr .bool 23 (.c U2 0)),⟨none,.store .bool 24 (.c .bool true),none⟩])) (.seq (.out [1,2,7,8] (.aa [1,2,7] [w 8 (.ab (.c U2 0))])) Am)))))
def Fh:AC:=Ao
def d20:FD:={nargs:=2,body:=Fh,res:=[.t 4,.t 5]}
def O3:AC:=.out [0,1,5] (.aa [0,1] [w 5 (.ab (.c U2 0))])
def Gg:AC:=(.seq (.seq (.out [0,1,5,14] (.aa [0,1,5] [m 11 5,m 12 0,w 13 (.aZ 12),w 14 (.bin .lss 11 13)])) (.out [0,1,5] (.cond (.t 14) .skip (.exit 0)))) (.seq (.out [0,1,4,5] (.block 1 (.seq (.out [0,1,5,25] (.draw [0,1,5] [⟨m 17 0,[18,21,22,23,24],[17],[],false,[]⟩,⟨m 18 5,[17,21,22,23,24],[18],[],false,[]⟩,⟨w 19 (.indexAddr U2 17 18),[21,22,23,24],[19],[0,1],false,[]⟩,⟨w 20 (.load U2 19),[21,22,23,24],[20],[0,1,2],false,[]⟩,⟨m 21 1,[17,18,19,20,22],[21],[],false,[]⟩,⟨m 22 5,[17,18,19,20,21],[22],[],false,[]⟩,⟨w 23 (.indexAddr U2 21 22),[17,18,19,20],[23],[4,5],false,[]⟩,⟨w 24 (.load U2 23),[17,18,19,20],[24],[4,5,6],false,[]⟩,⟨w 25 (.bin .neq 20 24),[],[25],[0,1,2,3,4,5,6,7],false,[]⟩])) (.out [0,1,4,5] (.cond (.t 25) (.seq (.out [4] (.aa [] [w 4 (.ab (.c .bool false))])) .ret) .skip))))) (.out [0,1,5] (.aa [0,1,5] [m 15 5,w 16 (.bin .add 15 (.c U2 1)),w 5 (.ab 16)]))))
def Gh:AC:=.out [4] (.loop [0,1,5] Gg)
def O4:AC:=.out [4] (.block 0 Gh)
def O5:AC:=(.seq O3 O4)
def O6:AC:=(.seq (.out [4] (.aa [] [w 4 (.ab (.c .bool true))])) .ret)
def AP:AC:=(.seq O5 O6)
def AQ:AC:=(.seq (.out [0,1] (.aa [0,1] [w 4 (.ab (.c .bool false))])) (.seq (.seq (.out [0,1,10] (.aa [0,1] [m 6 0,w 7 (.aZ 6),m 8 1,w 9 (.aZ 8),w 10 (.bin .neq 7 9)])) (.out [0,1,4] (.cond (.t 10) (.seq (.out [4] (.aa [] [w 4 (.ab (.c .bool false))])) .ret) .skip))) AP))
def Gf:AC:=AQ
def d53:FD:={nargs:=2,body:=Gf,res:=[.t 4]}
def NI:AC:=.out [0,1,5] (.aa [0,1] [w 5 (.ab (.c U2 0))])
def Ff:AC:=(.seq (.seq (.out [0,1,5,14] (.aa [0,1,5] [m 11 5,m 12 0,w 13 (.aZ 12),w 14 (.bin .lss 11 13)])) (.out [0,1,5] (.cond (.t 14) .skip (.exit 0)))) (.seq (.out [0,1,4,5] (.block 1 (.seq (.out [0,1,5,26] (.draw [0,1,5] [⟨m 17 0,[18,21,22,23,24],[17],[],false,[]⟩,⟨m 18 5,[17,21,22,23,24],[18],[],false,[]⟩,⟨w 19 (.indexAddr U5 17 18),[21,22,23,24],[19],[0,1],false,[]⟩,⟨w 20 (.load U5 19),[21,22,23,24],[20],[0,1,2],false,[]⟩,⟨m 21 1,[17,18,19,20,22],[21],[],false,[]⟩,⟨m 22 5,[17,18,19,20,21],[22],[],false,[]⟩,⟨w 23 (.indexAddr U5 21 22),[17,18,19,20],[23],[4,5],false,[]⟩,⟨w 24 (.load U5 23),[17,18,19,20],[24],[4,5,6],false,[]⟩,⟨w 25 (.call 53 [20,24]),[],[25],[0,1,2,3,4,5,6,7],false,[]⟩,⟨w 26 (.un .not 25),[],[26],[0,1,2,3,4,5,6,7,8],false,[]⟩])) (.out [0,1,4,5] (.cond (.t 26) (.seq (.out [4] (.aa [] [w 4 (.ab (.c .bool false))])) .ret) .skip))))) (.out [0,1,5] (.aa [0,1,5] [m 15 5,w 16 (.bin .add 15 (.c U2 1)),w 5 (.ab 16)]))))
def Fg:AC:=.out [4] (.loop [0,1,5] Ff)
def NJ:AC:=.out [4] (.block 0 Fg)
def NK:AC:=(.seq NI NJ)
def NL:AC:=(.seq (.out [4] (.aa [] [w 4 (.ab (.c .bool true))])) .ret)
def Ak:AC:=(.seq NK NL)
def Al:AC:=(.seq (.out [0,1] (.aa [0,1] [w 4 (.ab (.c .bool false))])) (.seq (.seq (.out [0,1,10] (.aa [0,1] [m 6 0,w 7 (.aZ 6),m 8 1,w 9 (.aZ 8),w 10 (.bin .neq 7 9)])) (.out [0,1,4] (.cond (.t 10) (.seq (.out [4] (.aa [] [w 4 (.ab (.c .bool false))])) .ret) .skip))) Ak))
def Fe:AC:=Al
def d19:FD:={nargs:=2,body:=Fe,res:=[.t 4]}
def Nw:AC:=.out [0,1,12,13] (.aa [0,1] [m 11 0,w 12 (.aZ 11),w 13 (.mv (.c U2 0))])
def E6:AC:=(.seq (.out [0,1,12,13,14] (.aa [0,1,12,13] [w 14 (.bin .lss 13 12)])) (.seq (.out [0,1,12,13] (.cond (.t 14) .skip (.exit 0))) (.seq (.out [0,1,4,12,13] (.block 1 (.seq (.out [0,1,5,12,13] (.aa [0,1,12,13] [m 15 13,w 5 (.ab 15)])) (.seq (.out [0,1,12,13,24] (.draw [0,1,5,12,13] [⟨m 16 0,[17,20,21,22,23],[16],[],false,[]⟩,⟨m 17 5,[16,20,21,22,23],[17],[],false,[]⟩,⟨w 18 (.indexAddr U2 16 17),[20,21,22,23],[18],[0,1],false,[]⟩,⟨w 19 (.load U2 18),[20,21,22,23],[19],[0,1,2],false,[]⟩,⟨m 20 1,[16,17,18,19,21],[20],[],false,[]⟩,⟨m 21 5,[16,17,18,19,20],[21],[],false,[]⟩,⟨w 22 (.indexAddr U2 20 21),[16,17,18,19],[22],[4,5],false,[]⟩,⟨w 23 (.load U2 22),[16,17,18,19],[23],[4,5,6],false,[]⟩,⟨w 24 (.bin .neq 19 23),[],[24],[0,1,2,3,4,5,6,7],false,[]⟩])) (.out [0,1,4,12,13] (.cond (.t 24) (.seq (.out [4] (.aa [] [w 4 (.ab (.c .bool false))])) .ret) .skip)))))) (.out [0,1,12,13] (.aa [0,1,12,13] [w 25 (.bin .add 13 (.c U2 1)),m 13 25])))))
def E7:AC:=.out [4] (.loop [0,1,12,13] E6)
def Nx:AC:=.out [4] (.block 0 E7)
def Ny:AC:=(.seq Nw Nx)
def Nz:AC:=(.seq (.out [4] (.aa [] [w 4 (.ab (.c .bool true))])) .ret)
def Ai:AC:=(.seq Ny Nz)
def Aj:AC:=(.seq (.out [0,1] (.aa [0,1] [w 4 (.ab (.c .bool false))])) (.seq (.seq (.out [0,1,10] (.aa [0,1] [m 6 0,w 7 (.aZ 6),m 8 1,w 9 (.aZ 8),w 10 (.bin .neq 7 9)])) (.out [0,1,4] (.cond (.t 10) (.seq (.out [4] (.aa [] [w 4 (.ab (.c .bool false))])) .ret) .skip))) Ai))
def ET:AC:=Aj
def d15:FD:={nargs:=2,body:=ET,res:=[.t 4]}
def Mt:AC:=(.seq (.out [] (.aa [] [w 0 (.ab (.c .bool false))])) (.seq (.out [1] (.aa [] [w 13 (.call 37 []),w 1 (.alloc ak (.pair .no (.pair (.own true 43 .no) .no))),⟨none,.store ak 1 13,none⟩])) (.seq (.out [1,2,3] (.aa [1] [w 15 (.load ak 1),w 16 (.call 16 [15,(.c .str [97,114,109,97])]),m 14 16,w 17 (.extract 14 0),w 18 (.extract 14 1),w 2 (.ab 17),w 3 (.ab 18)])) (.seq (.out [1,2,3,4,5] (.aa [1,2,3] [w 20 (.load ak 1),w 21 (.call 16 [20,(.c .str [116,114,111,105,97,101])]),m 19 21,w 22 (.extract 19 0),w 23 (.extract 19 1),w 4 (.ab 22),w 5 (.ab 23)])) (.seq (.out [1,2,3,4,5,6,7,8] (.aa [1,2,3,4,5] [w 25 (.load ak 1),w 26 (.call 13 [25,(.c .str [105,97,109])]),m 24 26,w 27 (.extract 24 0),w 28 (.extract 24 1),w 29 (.extract 24 2),w 6 (.ab 27),w 7 (.ab 28),w 8 (.ab 29)])) (.seq (.out [1,2,3,4,5,6,7,8,9,10] (.aa [1,2,3,4,5,6,7,8] [w 31 (.load ak 1),w 32 (.buildSlice 3 U2 [(.c U2 38),(.c U2 40),(.c U2 3),(.c U2 23),(.c U2 18)]),w 33 (.call 24 [31,32]),m 30 33,w 34 (.extract 30 0),w 35 (.extract 30 1),w 9 (.ab 34),w 10 (.ab 35)])) (.seq (.out [2,3,4,5,6,7,8,9,10,11,12] (.aa [1,2,3,4,5,6,7,8,9,10] [w 37 (.load ak 1),w 38 (.call 20 [37,(.c .str [97,114,109,113])]),m 36 38,w 39 (.extract 36 0),w 40 (.extract 36 1),w 11 (.ab 39),w 12 (.ab 40)])) (.seq (.seq (.out [2,4,6,9,66] (.aa [2,3,4,5,6,7,8,9,10,11,12] [m 41 3,w 42 (.bin .neq 41 (.c U2 0)),m 43 42,⟨some 44,.mv 5,some (43,false)⟩,⟨some 45,.bin .neq 44 (.c U2 0),some (43,false)⟩,w 46 (.pick 43 (.c .bool true) 45),m 47 46,⟨some 48,.mv 8,some (47,false)⟩,⟨some 49,.bin .neq 48 (.c U2 0),some (47,false)⟩,w 50 (.pick 47 (.c .bool true) 49),m 51 50,⟨some 52,.mv 10,some (51,false)⟩,⟨some 53,.bin .neq 52 (.c U2 0),some (51,false)⟩,w 54 (.pick 51 (.c .bool true) 53),m 55 54,⟨some 56,.mv 12,some (55,false)⟩,⟨some 57,.bin .neq 56 (.c U2 0),some (55,false)⟩,w 58 (.pick 55 (.c .bool true) 57),m 59 58,⟨some 60,.mv 11,some (59,false)⟩,⟨some 61,.bin .neq 60 (.c U2 3),some (59,false)⟩,w 62 (.pick 59 (.c .bool true) 61),m 63 62,⟨some 64,.mv 7,some (63,false)⟩,⟨some 65,.bin .neq 64 (.c U2 1),some (63,false)⟩,w 66 (.pick 63 (.c .bool true) 65)])) (.out [0,2,4,6,9] (.cond (.t 66) (.seq (.out [0] (.aa [] [w 0 (.ab (.c .bool false))])) .ret) .skip))) (.seq (.out [0] (.aa [2,4,6,9] [m 67 2,w 68 (.buildSlice 3 U2 [(.c U2 0),(.c U2 40),(.c U2 41),(.c U2 0)]),w 69 (.buildSlice 27 U5 [68]),w 70 (.call 19 [67,69]),m 71 70,⟨some 72,.mv 4,some (71,true)⟩,⟨some 73,.buildSlice 3 U2 [(.c U2 38),(.c U2 40),(.c U2 3),(.c U2 23),(.c U2 18)],some (71,true)⟩,⟨some 74,.buildSlice 3 U2 [(.c U2 38),(.c U2 40),(.c U2 3),(.c U2 2),(.c U2 18)],some (71,true)⟩,⟨some 75,.buildSlice 3 U2 [(.c U2 38),(.c U2 40),(.c U2 3),(.c U2 23),(.c U2 0),(.c U2 1)],some (71,true)⟩,⟨some 76,.buildSlice 3 U2 [(.c U2 38),(.c U2 40),(.c U2 3),(.c U2 2),(.c U2 0),(.c U2 1)],some (71,true)⟩,⟨some 77,.buildSlice 27 U5 [73,74,75,76],some (71,true)⟩,⟨some 78,.call 19 [72,77],some (71,true)⟩,w 79 (.pick 71 78 (.c .bool false)),m 80 79,⟨some 81,.mv 6,some (80,true)⟩,⟨some 82,.buildSlice 3 U2 [(.c U2 22),(.c U2 0),(.c U2 41)],some (80,true)⟩,⟨some 83,.call 15 [81,82],some (80,true)⟩,w 84 (.pick 80 83 (.c .bool false)),m 85 84,⟨some 86,.mv 9,some (85,true)⟩,⟨some 87,.buildSlice 3 U2 [(.c U2 0),(.c U2 1),(.c U2 2),(.c U2 3),(.c U2 3),(.c U2 4)],some (85,true)⟩,⟨some 88,.call 15 [86,87],some (85,true)⟩,w 89 (.pick 85 88 (.c .bool false)),w 0 (.ab 89)])) .ret)))))))))
def DQ:AC:=Mt
def d11:FD:={nargs:=0,body:=DQ,res:=[.t 0]}
def Pl:AC:=(.seq (.out [0] (.aa [] [w 0 (.alloc ak (.pair .no (.pair (.own true 43 .no) .no)))])) (.seq (.out [0,1] (.aa [0] [w 5 (.call 69 [(.c .str [111,114,116,104,111,103,114,97,112,104,121,32,103,114,101,101,107,10,97,32,97,47,118,51,32,49,32,97,110,121,119,104,101,114,101,10,105,32,105,47,118,51,32,49,32,97,110,121,119,104,101,114,101,10,117,32,117,47,118,51,32,49,32,97,110,121,119,104,101,114,101,10,97,95,32,97,95,47,118,50,32,49,32,97,110,121,119,104,101,114,101,10,105,95,32,105,95,47,118,50,32,49,32,97,110,121,119,104,101,114,101,10,117,95,32,117,95,47,118,50,32,49,32,97,110,121,119,104,101,114,101,10,97,94,32,97,94,47,118,49,32,49,32,97,110,121,119,104,101,114,101,10,105,94,32,105,94,47,118,49,32,49,32,97,110,121,119,104,101,114,101,10,117,94,32,117,94,47,118,49,32,49,32,97,110,121,119,104,101,114,101,10,101,32,101,47,118,49,32,49,32,97,110,121,119,104,101,114,101,10,111,32,111,47,118,49,32,49,32,97,110,121,119,104,101,114,101,10,101,95,32,101,95,47,118,50,32,49,32,97,110,121,119,104,101,114,101,10,111,95,32,111,95,47,118,50,32,49,32,97,110,121,119,104,101,114,101,10,97,105,32,97,105,47,100,50,32,49,32,97,110,121,119,104,101,114,101,10,97,117,32,97,117,47,100,50,32,49,32,97,110,121,119,104,101,114,101,10,101,105,32,101,105,47,100,50,32,49,32,97,110,121,119,104,101,114,101,10,101,117,32,101,117,47,100,50,32,49,32,97,110,121,119,104,101,114,101,10,111,105,32,111,105,47,100,50,32,49,32,97,110,121,119,104,101,114,101,10,111,117,32,111,117,47,100,50,32,49,32,97,110,121,119,104,101,114,101,10,117,105,32,117,105,47,100,50,32,49,32,97,110,121,119,104,101,114,101,10,112,104,32,112,104,47,109,32,48,32,97,110,121,119,104,101,114,101,10,116,104,32,116,104,47,109,32,48,32,97,110,121,119,104,101,114,101,10,107,104,32,107,104,47,109,32,48,32,97,110,121,119,104,101,114,101,10,112,32,112,47,109,32,48,32,97,110,121,119,104,101,114,101,10,116,32,116,47,109,32,48,32,97,110,121,119,104,101,114,101,10,107,32,107,47,109,32,48,32,97,110,121,119,104,101,114,101,10,98,32,98,47,109,32,48,32,97,110,121,119,104,101,114,101,10,100,32,100,47,109,32,48,32,97,110,121,119,104,101,114,101,10,103,32,103,47,109,32,48,32,97,110,121,119,104,101,114,101,10,114,104,32,114,104,47,108,32,48,32,97,110,121,119,104,101,114,101,10,108,32,108,47,108,32,48,32,97,110,121,119,104,101,114,101,10,114,32,114,47,108,32,48,32,97,110,121,119,104,101,114,101,10,109,32,109,47,110,32,48,32,97,110,121,119,104,101,114,101,10,110,32,110,47,110,32,48,32,97,110,121,119,104,101,114,101,10,115,32,115,47,115,32,48,32,97,110,121,119,104,101,114,101,10,112,115,32,112,115,47,120,32,48,32,97,110,121,119,104,101,114,101,10,107,115,32,107,115,47,120,32,48,32,97,110,121,119,104,101,114,101,10,120,32,120,47,120,32,48,32,97,110,121,119,104,101,114,101,10,122,32,122,47,120,32,48,32,97,110,121,119,104,101,114,101,10,104,32,104,47,98,32,48,32,115,116,97,114,116,10])]),m 4 5,w 6 (.extract 4 0),w 7 (.extract 4 1),w 8 (.extract 4 2),w 1 (.alloc ak (.pair .no (.pair (.own true 43 .no) .no))),⟨none,.store ak 1 6,none⟩,w 2 (.ab 7),w 3 (.ab 8)])) (.seq (.out [0] (.aa [0,1] [w 9 (.load ak 1),⟨none,.store ak 0 9,none⟩])) .ret)))
def Gt:AC:=Pl
def d64:FD:={nargs:=0,body:=Gt,res:=[.cell 0 ak]}
def Ou:AC:=(.seq (.out [1] (.aa [0] [w 1 (.box ak 0),w 2 (.ab (.c U2 0))])) (.seq (.out [4] (.aa [1] [w 6 (.load ak 1),w 7 (.call 67 [6]),m 5 7,w 8 (.extract 5 0),w 9 (.extract 5 1),w 3 (.ab 8),w 4 (.ab 9)])) (.seq (.out [2] (.aa [4] [m 10 4,w 2 (.ab 10)])) .ret)))
def FL:AC:=Ou
def d35:FD:={nargs:=1,body:=FL,res:=[.t 2]}
def Oi:AC:=.out [1,2,3,4] (.aa [1,2,3] [w 4 (.ab (.c U2 0))])
def FH:AC:=(.seq (.seq (.out [1,2,3,4,24] (.aa [1,2,3,4] [m 16 4,w 17 (.fieldAddr fi [.r,.l] 1),w 18 (.load U4 17),w 19 (.aZ 18),w 20 (.bin .lss 16 19),m 21 20,⟨some 22,.mv 4,some (21,true)⟩,⟨some 23,.bin .lss 22 (.c U2 20),some (21,true)⟩,w 24 (.pick 21 23 (.c .bool false))])) (.out [1,2,3,4] (.cond (.t 24) .skip (.exit 0)))) (.seq (.out [1,2,3,4] (.block 1 (.seq (.out [1,2,3,4,5] (.draw [1,2,3,4] [⟨w 27 (.fieldAddr fi [.r,.l] 1),[29,33,34,35],[27],[],false,[]⟩,⟨w 28 (.load U4 27),[29,33,34,35],[28],[0],false,[]⟩,⟨m 29 4,[27,28,33,34,35],[29],[],false,[]⟩,⟨w 30 (.indexAddr U0 28 29),[33,34,35],[30],[0,1,2],false,[]⟩,⟨w 31 (.load U0 30),[33,34,35],[31],[0,1,2,3],false,[]⟩,⟨w 32 (.kM .i64 31),[33,34,35],[32],[0,1,2,3,4],false,[]⟩,⟨w 33 (.fieldAddr ak [.r,.l] 3),[27,28,29,30,31,32],[33],[],false,[]⟩,⟨w 34 (.load cR 33),[27,28,29,30,31,32],[34],[6],false,[]⟩,⟨w 35 (.aZ 34),[27,28,29,30,31,32],[35],[6,7],false,[]⟩,⟨w 36 (.bin .rem 32 35),[],[36],[0,1,2,3,4,5,6,7,8],false,[]⟩,⟨w 5 (.ab 36),[],[5],[0,1,2,3,4,5,6,7,8,9],false,[]⟩])) (.seq (.seq (.out [1,2,3,4,5,6] (.aa [1,2,3,4,5] [w 37 (.fieldAddr ak [.r,.l] 3),w 38 (.load cR 37),m 39 5,w 40 (.indexAddr aD 38 39),w 41 (.fieldAddr aD [.l] 40),w 42 (.load .str 41),w 6 (.ab 42)])) (.seq (.out [1,2,3,4,5,62] (.aa [1,2,3,4,5,6] [m 43 6,w 44 (.bin .eql 43 (.c .str [97])),m 45 44,⟨some 46,.mv 6,some (45,false)⟩,⟨some 47,.bin .eql 46 (.c .str [101]),some (45,false)⟩,w 48 (.pick 45 (.c .bool true) 47),m 49 48,⟨some 50,.mv 6,some (49,false)⟩,⟨some 51,.bin .eql 50 (.c .str [114]),some (49,false)⟩,w 52 (.pick 49 (.c .bool true) 51),m 53 52,⟨some 54,.mv 6,some (53,false)⟩,⟨some 55,.bin .eql 54 (.c .str [116]),some (53,false)⟩,w 56 (.pick 53 (.c .bool true) 55),m 57 56,⟨some 58,.fieldAddr ak [.r,.l] 3,some (57,false)⟩,⟨some 59,.load cR 58,some (57,false)⟩,⟨some 60,.aZ 59,some (57,false)⟩,⟨some 61,.bin .lss 60 (.c U2 8),some (57,false)⟩,w 62 (.pick 57 (.c .bool true) 61)])) (.out [1,2,3,4,5] (.cond (.t 62) (.exit 1) .skip)))) (.out [1,2,3,4] (.draw [1,2,3,4,5] [⟨w 63 (.buildSlice 43 aD []),[64,65,66,67,69,70,71,72,73],[63],[],false,[63]⟩,⟨w 64 (.fieldAddr ak [.r,.l] 3),[63,66,69,70,71,72,73],[64],[],false,[63]⟩,⟨w 65 (.load cR 64),[63,66,69,70,71,72,73],[65],[1],false,[63]⟩,⟨m 66 5,[63,64,65,69,70,71,72,73],[66],[],false,[63]⟩,⟨w 67 (.kG aD 65 none (some 66) none),[63,69,70,71,72,73],[67],[1,2,3],false,[63]⟩,⟨w 68 (.append 43 aD 2513169434916 63 67),[69,70,71,72,73],[63,67,68],[0,1,2,3,4],false,[63]⟩,⟨w 69 (.fieldAddr ak [.r,.l] 3),[63,64,65,66,67,68,71,72],[69],[],false,[63]⟩,⟨w 70 (.load cR 69),[63,64,65,66,67,68,71,72],[70],[6],false,[63]⟩,⟨m 71 5,[63,64,65,66,67,68,69,70],[71],[],false,[63]⟩,⟨w 72 (.bin .add 71 (.c U2 1)),[63,64,65,66,67,68,69,70],[72],[8],false,[63]⟩,⟨w 73 (.kG aD 70 (some 72) none none),[63,64,65,66,67,68],[73],[6,7,8,9],false,[63]⟩,⟨w 74 (.append 43 aD 2513169434916 68 73),[],[74],[0,1,2,3,4,5,6,7,8,9,10],true,[63]⟩,⟨w 75 (.fieldAddr ak [.r,.l] 3),[],[75],[0,1,2,3,4,5,6,7,8,9,10,11],false,[63]⟩,⟨⟨none,.C4 cR 75 74,none⟩,[],[3,75],[0,1,2,3,4,5,6,7,8,9,10,11,12],true,[63]⟩])))))) (.out [1,2,3,4] (.aa [1,2,3,4] [m 25 4,w 26 (.bin .add 25 (.c U2 1)),w 4 (.ab 26)]))))
def FI:AC:=.out [1,2,3] (.loop [1,2,3,4] FH)
def Om:AC:=.out [1,2,3] (.block 0 FI)
def On:AC:=(.seq Oi Om)
def Oo:AC:=.out [1,2,3,7] (.aa [1,2,3] [w 7 (.ab (.c U2 0))])
def FJ:AC:=(.seq (.seq (.out [1,2,3,7,84] (.aa [1,2,3,7] [m 76 7,w 77 (.fieldAddr fi [.r,.r,.l] 1),w 78 (.load U4 77),w 79 (.aZ 78),w 80 (.bin .lss 76 79),m 81 80,⟨some 82,.mv 7,some (81,true)⟩,⟨some 83,.bin .lss 82 (.c U2 6),some (81,true)⟩,w 84 (.pick 81 83 (.c .bool false))])) (.out [1,2,3,7] (.cond (.t 84) .skip (.exit 2)))) (.seq (.out [1,2,3,7] (.block 3 (.seq (.out [1,2,3,7,8] (.draw [1,2,3,7] [⟨w 87 (.fieldAddr ak [.r,.l] 3),[8,89,90,91,92,93,94,95,96,97,98],[87],[],false,[]⟩,⟨w 88 (.load cR 87),[8,89,90,91,92,93,94,95,96,97,98],[88],[0],false,[]⟩,⟨w 89 (.fieldAddr fi [.r,.r,.l] 1),[8,87,88,91,95,96,97],[89],[],false,[]⟩,⟨w 90 (.load U4 89),[8,87,88,91,95,96,97],[90],[2],false,[]⟩,⟨m 91 7,[8,87,88,89,90,95,96,97],[91],[],false,[]⟩,⟨w 92 (.indexAddr U0 90 91),[8,87,88,95,96,97],[92],[2,3,4],false,[]⟩,⟨w 93 (.load U0 92),[8,87,88,95,96,97],[93],[2,3,4,5],false,[]⟩,⟨w 94 (.kM .i64 93),[8,87,88,95,96,97],[94],[2,3,4,5,6],false,[]⟩,⟨w 95 (.fieldAddr ak [.r,.l] 3),[8,87,88,89,90,91,92,93,94],[95],[],false,[]⟩,⟨w 96 (.load cR 95),[8,87,88,89,90,91,92,93,94],[96],[8],false,[]⟩,⟨w 97 (.aZ 96),[8,87,88,89,90,91,92,93,94],[97],[8,9],false,[]⟩,⟨w 98 (.bin .rem 94 97),[8,87,88],[98],[2,3,4,5,6,7,8,9,10],false,[]⟩,⟨w 99 (.indexAddr aD 88 98),[8],[99],[0,1,2,3,4,5,6,7,8,9,10,11],false,[]⟩,⟨w 100 (.load aD 99),[8],[100],[0,1,2,3,4,5,6,7,8,9,10,11,12],false,[]⟩,⟨w 8 (.alloc aD (.pair .no (.pair (.own true 40 .no) (.pair .no (.pair .no .no))))),[87,88,89,90,91,92,93,94,95,96,97,98,99,100],[8],[],false,[]⟩,⟨⟨none,.store aD 8 100,none⟩,[],[8],[0,1,2,3,4,5,6,7,8,9,10,11,12,13,14],true,[]⟩])) (.seq (.out [1,2,3,7,8] (.aa [1,2,3,7,8] [w 101 (.fieldAddr fi [.r,.r,.l] 1),w 102 (.load U4 101),m 103 7,w 104 (.indexAddr U0 102 103),w 105 (.load U0 104),w 106 (.bin .quo 105 (.c U0 16)),w 107 (.kM .i64 106),w 108 (.bin .rem 107 (.c U2 5)),w 109 (.fieldAddr aD [.r,.r,.r,.l] 8),⟨none,.store U2 109 108,none⟩])) (.seq (.out [1,2,3,7,8] (.aa [1,2,3,7,8] [w 110 (.fieldAddr fi [.r,.r,.l] 1),w 111 (.load U4 110),m 112 7,w 113 (.indexAddr U0 111 112),w 114 (.load U0 113),w 115 (.kM .i64 114),w 116 (.bin .rem 115 (.c U2 5)),w 117 (.fieldAddr aD [.r,.r,.l] 8),⟨none,.store U2 117 116,none⟩])) (.seq (.out [1,2,3,7,9] (.draw [1,2,3,7,8] [⟨w 118 (.fieldAddr ak [.l] 3),[9,120,121,122,123,124,125,126],[118],[],false,[120,123]⟩,⟨w 119 (.load .str 118),[9,120,121,122,123,124,125,126],[119],[0],false,[120,123]⟩,⟨w 120 (.buildSlice 43 aD []),[9,118,119,121,122,124,125],[120],[],false,[120,123]⟩,⟨w 121 (.fieldAddr ak [.r,.l] 3),[9,118,119,120,124,125],[121],[],false,[120,123]⟩,⟨w 122 (.load cR 121),[9,118,119,120,124,125],[122],[3],false,[120,123]⟩,⟨w 123 (.append 43 aD 2513169434916 120 122),[9,118,119,124,125],[120,123],[2,3,4],false,[120,123]⟩,⟨w 124 (.load aD 8),[9,118,119,120,121,122,123],[124],[],false,[120,123]⟩,⟨w 125 (.buildSlice 43 aD [124]),[9,118,119,120,121,122,123],[125],[6],false,[120,123]⟩,⟨w 126 (.append 43 aD 2513169434916 123 125),[9,118,119],[123,125,126],[2,3,4,5,6,7],false,[120,123]⟩,⟨w 127 (.build ak [([.l],119),([.r,.l],126)]),[9],[126,127],[0,1,2,3,4,5,6,7,8],false,[120,123]⟩,⟨w 9 (.alloc ak (.pair .no (.pair (.own true 43 .no) .no))),[118,119,120,121,122,123,124,125,126,127],[9],[],false,[120,123]⟩,⟨⟨none,.store ak 9 127,none⟩,[],[9],[0,1,2,3,4,5,6,7,8,9,10],true,[120,123]⟩])) (.seq (.out [1,2,3,7,9,130] (.aa [1,2,3,7,9] [w 128 (.load ak 9),w 129 (.call 35 [128]),w 130 (.bin .eql 129 (.c U2 0))])) (.out [1,2,3,7] (.cond (.t 130) (.out [1,2,3,7] (.aa [1,2,3,7,9] [w 131 (.load ak 9),⟨none,.store ak 3 131,none⟩])) .skip))))))))) (.out [1,2,3,7] (.aa [1,2,3,7] [m 85 7,w 86 (.bin .add 85 (.c U2 1)),w 7 (.ab 86)]))))
def FK:AC:=.out [2,3] (.loop [1,2,3,7] FJ)
def Oq:AC:=.out [2,3] (.block 2 FK)
def Ot:AC:=(.seq Oo Oq)
def Oj:AC:=(.seq (.out [2] (.aa [2,3] [w 132 (.load ak 3),⟨none,.store ak 2 132,none⟩])) .ret)
def Ol:AC:=(.seq Ot Oj)
def AB:AC:=(.seq On Ol)
def AD:AC:=(.seq (.out [1,2] (.aa [0] [w 1 (.box fi 0),w 2 (.alloc ak (.pair .no (.pair (.own true 43 .no) .no)))])) (.seq (.out [1,2,3] (.aa [1,2] [w 10 (.call 37 []),w 3 (.alloc ak (.pair .no (.pair (.own true 43 .no) .no))),⟨none,.store ak 3 10,none⟩])) (.seq (.seq (.out [1,2,3,14] (.aa [1,2,3] [w 11 (.fieldAddr fi [.l] 1),w 12 (.load U0 11),w 13 (.bin .rem 12 (.c U0 2)),w 14 (.bin .eql 13 (.c U0 1))])) (.out [1,2,3] (.cond (.t 14) (.out [1,2,3] (.aa [1,2,3] [w 15 (.call 64 []),⟨none,.store ak 3 15,none⟩])) .skip))) AB)))
def FG:AC:=AD
def d32:FD:={nargs:=1,body:=FG,res:=[.cell 2 ak]}
def N8:AC:=(.seq (.out [1,2] (.aa [0,1] [w 2 (.box ak 0),w 4 (.ab (.c .str [])),w 5 (.ab (.c U2 0))])) (.seq (.seq (.out [1,2,6] (.aa [1,2] [w 9 (.load ak 2),m 10 1,w 11 (.call 55 [9,10]),w 6 (.ab 11)])) (.seq (.out [1,2,6,13] (.aa [1,2,6] [m 12 6,w 13 (.bin .neq 12 (.c U2 0))])) (.out [1,2,4,5] (.cond (.t 13) (.seq (.out [4,5] (.aa [6] [m 14 6,w 4 (.ab (.c .str [])),w 5 (.ab 14)])) .ret) .skip)))) (.seq (.out [7] (.aa [1,2] [w 16 (.load ak 2),m 17 1,w 18 (.call 57 [16,17]),m 15 18,w 19 (.extract 15 0),w 20 (.extract 15 1),w 7 (.ab 19),w 8 (.ab 20)])) (.seq (.out [4,5] (.aa [7] [m 21 7,w 4 (.ab 21),w 5 (.ab (.c U2 0))])) .ret))))
def Fx:AC:=N8
def d26:FD:={nargs:=2,body:=Fx,res:=[.t 4,.t 5]}
def NR:AC:=.out [2,7,16,17,18] (.aa [1,2,7] [m 16 1,w 17 (.aZ 16),w 18 (.mv (.c U2 0))])
def Fp:AC:=(.seq (.out [2,7,16,17,18,19] (.aa [2,7,16,17,18] [w 19 (.bin .lss 18 17)])) (.seq (.out [2,7,16,17,18] (.cond (.t 19) .skip (.exit 0))) (.seq (.out [2,7,16,17,18] (.block 1 (.seq (.out [2,7,9,16,17,18] (.aa [2,7,16,17,18] [w 20 (.indexAddr U2 16 18),w 21 (.load U2 20),w 9 (.ab 21)])) (.out [2,7,16,17,18] (.aa [2,7,9,16,17,18] [m 22 7,w 23 (.fieldAddr ak [.r,.l] 2),w 24 (.load cR 23),m 25 9,w 26 (.indexAddr aD 24 25),w 27 (.fieldAddr aD [.r,.l] 26),w 28 (.load bB 27),w 29 (.append 40 aB 4398046511104 22 28),w 7 (.ab 29)]))))) (.out [2,7,16,17,18] (.aa [2,7,16,17,18] [w 30 (.bin .add 18 (.c U2 1)),m 18 30])))))
def Fq:AC:=.out [7] (.loop [2,7,16,17,18] Fp)
def NS:AC:=.out [7] (.block 0 Fq)
def NT:AC:=(.seq NR NS)
def NU:AC:=(.seq (.out [4,5,7] (.aa [7] [m 31 7,w 4 (.ab 31),w 5 (.ab (.c U2 0))])) .ret)
def Ar:AC:=(.seq NT NU)
def As:AC:=(.seq (.out [1,2] (.aa [0,1] [w 2 (.box ak 0),w 4 (.ab (.nil 40 aB)),w 5 (.ab (.c U2 0))])) (.seq (.seq (.out [1,2,6] (.aa [1,2] [w 10 (.load ak 2),m 11 1,w 12 (.call 55 [10,11]),w 6 (.ab 12)])) (.seq (.out [1,2,6,14] (.aa [1,2,6] [m 13 6,w 14 (.bin .neq 13 (.c U2 0))])) (.out [1,2,4,5] (.cond (.t 14) (.seq (.out [4,5] (.aa [6] [m 15 6,w 4 (.ab (.nil 40 aB)),w 5 (.ab 15)])) .ret) .skip)))) (.seq (.out [1,2,7] (.aa [1,2] [w 7 (.ab (.nil 40 aB))])) Ar)))
def Fo:AC:=As
def d22:FD:={nargs:=2,body:=Fo,res:=[.t 4,.t 5]}
def Oe:AC:=.out [2,3,34,35,36] (.aa [2,3] [m 34 2,w 35 (.aZ 34),w 36 (.mv (.c U2 0))])
def FE:AC:=(.seq (.out [2,3,34,35,36,37] (.aa [2,3,34,35,36] [w 37 (.bin .lss 36 35)])) (.seq (.out [2,3,34,35,36] (.cond (.t 37) .skip (.exit 1))) (.seq (.out [2,3,6,7,34,35,36] (.block 2 (.seq (.out [2,3,11,12,34,35,36] (.aa [2,3,34,35,36] [m 38 36,w 39 (.indexAddr U2 34 36),w 40 (.load U2 39),w 11 (.ab 38),w 12 (.ab 40)])) (.seq (.out [2,3,11,12,13,14,34,35,36] (.aa [2,3,11,12,34,35,36] [w 13 (.ab (.nil 40 aB)),w 14 (.ab (.nil 40 aB))])) (.seq (.seq (.out [2,3,11,12,13,14,34,35,36,42] (.aa [2,3,11,12,13,14,34,35,36] [m 41 11,w 42 (.bin .gtr 41 (.c U2 0))])) (.out [2,3,11,12,13,14,34,35,36] (.cond (.t 42) (.out [2,3,11,12,13,14,34,35,36] (.draw [2,3,11,12,14,34,35,36] [⟨w 43 (.fieldAddr ak [.r,.l] 3),[45,46,47,48,49],[43],[],false,[]⟩,⟨w 44 (.load cR 43),[45,46,47,48,49],[44],[0],false,[]⟩,⟨m 45 2,[43,44,46,47],[45],[],false,[]⟩,⟨m 46 11,[43,44,45],[46],[],false,[]⟩,⟨w 47 (.bin .sub 46 (.c U2 1)),[43,44,45],[47],[3],false,[]⟩,⟨w 48 (.indexAddr U2 45 47),[43,44],[48],[2,3,4],false,[]⟩,⟨w 49 (.load U2 48),[43,44],[49],[2,3,4,5],false,[]⟩,⟨w 50 (.indexAddr aD 44 49),[],[50],[0,1,2,3,4,5,6],false,[]⟩,⟨w 51 (.fieldAddr aD [.r,.l] 50),[],[51],[0,1,2,3,4,5,6,7],false,[]⟩,⟨w 52 (.load bB 51),[],[52],[0,1,2,3,4,5,6,7,8],false,[]⟩,⟨w 13 (.ab 52),[],[13],[0,1,2,3,4,5,6,7,8,9],true,[]⟩])) .skip))) (.seq (.seq (.out [2,3,11,12,13,14,34,35,36,57] (.aa [2,3,11,12,13,14,34,35,36] [m 53 11,w 54 (.bin .add 53 (.c U2 1)),m 55 2,w 56 (.aZ 55),w 57 (.bin .lss 54 56)])) (.out [2,3,12,13,14,34,35,36] (.cond (.t 57) (.out [2,3,12,13,14,34,35,36] (.draw [2,3,11,12,13,34,35,36] [⟨w 58 (.fieldAddr ak [.r,.l] 3),[60,61,62,63,64],[58],[],false,[]⟩,⟨w 59 (.load cR 58),[60,61,62,63,64],[59],[0],false,[]⟩,⟨m 60 2,[58,59,61,62],[60],[],false,[]⟩,⟨m 61 11,[58,59,60],[61],[],false,[]⟩,⟨w 62 (.bin .add 61 (.c U2 1)),[58,59,60],[62],[3],false,[]⟩,⟨w 63 (.indexAddr U2 60 62),[58,59],[63],[2,3,4],false,[]⟩,⟨w 64 (.load U2 63),[58,59],[64],[2,3,4,5],false,[]⟩,⟨w 65 (.indexAddr aD 59 64),[],[65],[0,1,2,3,4,5,6],false,[]⟩,⟨w 66 (.fieldAddr aD [.r,.l] 65),[],[66],[0,1,2,3,4,5,6,7],false,[]⟩,⟨w 67 (.load bB 66),[],[67],[0,1,2,3,4,5,6,7,8],false,[]⟩,⟨w 14 (.ab 67),[],[14],[0,1,2,3,4,5,6,7,8,9],true,[]⟩])) .skip))) (.seq (.out [2,3,34,35,36,73] (.aa [2,3,12,13,14,34,35,36] [w 68 (.load ak 3),m 69 12,m 70 13,m 71 14,w 72 (.call 60 [68,69,70,71]),w 73 (.un .not 72)])) (.out [2,3,6,7,34,35,36] (.cond (.t 73) (.seq (.out [6,7] (.aa [] [w 6 (.ab (.c U2 0)),w 7 (.ab (.c U2 19))])) .ret) .skip))))))))) (.out [2,3,34,35,36] (.aa [2,3,34,35,36] [w 74 (.bin .add 36 (.c U2 1)),m 36 74])))))
def FF:AC:=.out [2,3,6,7] (.loop [2,3,34,35,36] FE)
def Of:AC:=.out [2,3,6,7] (.block 1 FF)
def Og:AC:=(.seq Oe Of)
def Oh:AC:=(.seq (.out [6,7] (.aa [2,3] [w 75 (.load ak 3),m 76 2,w 77 (.call 38 [75,76]),w 6 (.ab 77),w 7 (.ab (.c U2 0))])) .ret)
def Az:AC:=(.seq Og Oh)
def AA:AC:=(.seq (.out [1,2,3] (.aa [0,1,2] [w 3 (.box ak 0),w 6 (.ab (.c U2 0)),w 7 (.ab (.c U2 0))])) (.seq (.seq (.out [1,2,3,8] (.aa [1,2,3] [w 15 (.load ak 3),m 16 1,w 17 (.call 40 [15,16]),w 8 (.ab 17)])) (.seq (.out [1,2,3,8,19] (.aa [1,2,3,8] [m 18 8,w 19 (.bin .neq 18 (.c U2 0))])) (.out [1,2,3,6,7] (.cond (.t 19) (.seq (.out [6,7] (.aa [8] [m 20 8,w 6 (.ab (.c U2 0)),w 7 (.ab 20)])) .ret) .skip)))) (.seq (.out [1,2,3,9,10] (.aa [1,2,3] [w 22 (.load ak 3),m 23 2,w 24 (.call 57 [22,23]),m 21 24,w 25 (.extract 21 0),w 26 (.extract 21 1),w 9 (.ab 25),w 10 (.ab 26)])) (.seq (.out [2,3,6,7] (.block 0 (.seq (.out [1,2,3,9,27] (.aa [1,2,3,9,10] [m 28 10,w 29 (.un .not 28),w 27 (.ab 29)])) (.out [2,3,6,7] (.cond (.t 27) (.seq (.out [6,7] (.aa [] [w 6 (.ab (.c U2 0)),w 7 (.ab (.c U2 6))])) .ret) (.seq (.out [2,3,30] (.aa [1,2,3,9] [m 31 9,m 32 1,w 33 (.bin .neq 31 32),w 30 (.ab 33)])) (.out [2,3,6,7] (.cond (.t 30) (.seq (.out [6,7] (.aa [] [w 6 (.ab (.c U2 0)),w 7 (.ab (.c U2 1))])) .ret) .skip)))))))) Az))))
def FC:AC:=AA
def d29:FD:={nargs:=3,body:=FC,res:=[.t 6,.t 7]}
def Ps:AC:=(.seq (.out [0,1] (.aa [0,1] [w 4 (.ab (.c .bool false))])) (.seq (.out [4] (.aa [0,1] [m 5 0,w 6 (.call 77 [5]),m 7 6,⟨some 8,.mv 1,some (7,true)⟩,⟨some 9,.call 77 [8],some (7,true)⟩,⟨some 10,.un .not 9,some (7,true)⟩,w 11 (.pick 7 10 (.c .bool false)),m 12 11,⟨some 13,.mv 0,some (12,false)⟩,⟨some 14,.mv 1,some (12,false)⟩,⟨some 15,.bin .lss 13 14,some (12,false)⟩,w 16 (.pick 12 (.c .bool true) 15),w 4 (.ab 16)])) .ret))
def Gz:AC:=Ps
def d68:FD:={nargs:=2,body:=Gz,res:=[.t 4]}
def Ov:AC:=.out [0] (.aa [0] [w 2 (.ab (.c .bool false))])
def Ow:AC:=.out [0,3] (.aa [0] [m 4 0,w 5 (.aZ 4),w 6 (.bin .sub 5 (.c U2 1)),w 3 (.ab 6)])
def FN:AC:=(.seq (.seq (.out [0,3,8] (.aa [0,3] [m 7 3,w 8 (.bin .gtr 7 (.c U2 0))])) (.out [0,3] (.cond (.t 8) .skip (.exit 0)))) (.seq (.out [0,2,3] (.block 1 (.seq (.out [0,3,20] (.draw [0,3] [⟨m 11 0,[12,15,16,17,18,19],[11],[],false,[]⟩,⟨m 12 3,[11,15,16,17,18,19],[12],[],false,[]⟩,⟨w 13 (.indexAddr U2 11 12),[15,16,17,18,19],[13],[0,1],false,[]⟩,⟨w 14 (.load U2 13),[15,16,17,18,19],[14],[0,1,2],false,[]⟩,⟨m 15 0,[11,12,13,14,16,17],[15],[],false,[]⟩,⟨m 16 3,[11,12,13,14,15],[16],[],false,[]⟩,⟨w 17 (.bin .sub 16 (.c U2 1)),[11,12,13,14,15],[17],[5],false,[]⟩,⟨w 18 (.indexAddr U2 15 17),[11,12,13,14],[18],[4,5,6],false,[]⟩,⟨w 19 (.load U2 18),[11,12,13,14],[19],[4,5,6,7],false,[]⟩,⟨w 20 (.call 68 [14,19]),[],[20],[0,1,2,3,4,5,6,7,8],false,[]⟩])) (.out [0,2,3] (.cond (.t 20) (.seq (.out [2] (.aa [] [w 2 (.ab (.c .bool false))])) .ret) .skip))))) (.out [0,3] (.aa [0,3] [m 9 3,w 10 (.bin .sub 9 (.c U2 1)),w 3 (.ab 10)]))))
def FO:AC:=.out [2] (.loop [0,3] FN)
def Ox:AC:=.out [2] (.block 0 FO)
def Oy:AC:=(.seq Ow Ox)
def Oz:AC:=(.seq (.out [2] (.aa [] [w 2 (.ab (.c .bool true))])) .ret)
def OA:AC:=(.seq Oy Oz)
def FP:AC:=(.seq Ov OA)
def FM:AC:=FP
def d36:FD:={nargs:=1,body:=FM,res:=[.t 2]}
def L2:AC:=.out [1,5,6,8,52,53,54] (.aa [1,5,6,8] [m 52 6,w 53 (.aZ 52),w 54 (.mv (.c U2 0))])
def DO:AC:=(.seq (.out [1,5,6,8,52,53,54,55] (.aa [1,5,6,8,52,53,54] [w 55 (.bin .lss 54 53)])) (.seq (.out [1,5,6,8,52,53,54] (.cond (.t 55) .skip (.exit 0))) (.seq (.out [1,4,5,6,8,52,53,54] (.block 1 (.seq (.out [1,5,6,8,10,52,53,54] (.aa [1,5,6,8,52,53,54] [w 56 (.indexAddr U5 52 54),w 57 (.load U5 56),w 10 (.ab 57)])) (.seq (.out [1,5,6,8,10,11,12,52,53,54] (.aa [1,5,6,8,10,52,53,54] [w 59 (.load ak 5),m 60 10,w 61 (.call 26 [59,60]),m 58 61,w 62 (.extract 58 0),w 63 (.extract 58 1),w 11 (.ab 62),w 12 (.ab 63)])) (.seq (.out [1,5,6,8,10,11,12,13,14,52,53,54] (.aa [1,5,6,8,10,11,12,52,53,54] [w 65 (.load ak 5),m 66 10,w 67 (.call 22 [65,66]),m 64 67,w 68 (.extract 64 0),w 69 (.extract 64 1),w 13 (.ab 68),w 14 (.ab 69)])) (.seq (.out [1,5,6,8,10,11,12,13,14,15,16,52,53,54] (.aa [1,5,6,8,10,11,12,13,14,52,53,54] [w 71 (.load ak 5),m 72 10,w 73 (.call 24 [71,72]),m 70 73,w 74 (.extract 70 0),w 75 (.extract 70 1),w 15 (.ab 74),w 16 (.ab 75)])) (.seq (.out [1,5,6,8,11,12,13,14,15,16,17,18,52,53,54] (.aa [1,5,6,8,10,11,12,13,14,15,16,52,53,54] [w 77 (.load ak 5),m 78 1,m 79 10,w 80 (.call 29 [77,78,79]),m 76 80,w 81 (.extract 76 0),w 82 (.extract 76 1),w 17 (.ab 81),w 18 (.ab 82)])) (.seq (.seq (.out [1,5,6,17,52,53,54,118] (.aa [1,5,6,8,11,12,13,14,15,16,17,18,52,53,54] [m 83 12,w 84 (.bin .neq 83 (.c U2 0)),m 85 84,⟨some 86,.mv 14,some (85,false)⟩,⟨some 87,.bin .neq 86 (.c U2 0),some (85,false)⟩,w 88 (.pick 85 (.c .bool true) 87),m 89 88,⟨some 90,.mv 16,some (89,false)⟩,⟨some 91,.bin .neq 90 (.c U2 0),some (89,false)⟩,w 92 (.pick 89 (.c .bool true) 91),m 93 92,⟨some 94,.mv 18,some (93,false)⟩,⟨some 95,.bin .neq 94 (.c U2 0),some (93,false)⟩,w 96 (.pick 93 (.c .bool true) 95),m 97 96,⟨some 98,.mv 11,some (97,false)⟩,⟨some 99,.mv 1,some (97,false)⟩,⟨some 100,.bin .neq 98 99,some (97,false)⟩,w 101 (.pick 97 (.c .bool true) 100),m 102 101,⟨some 103,.mv 13,some (102,false)⟩,⟨some 104,.aZ 103,some (102,false)⟩,⟨some 105,.mv 15,some (102,false)⟩,⟨some 106,.aZ 105,some (102,false)⟩,⟨some 107,.bin .neq 104 106,some (102,false)⟩,w 108 (.pick 102 (.c .bool true) 107),m 109 108,⟨some 110,.mv 15,some (109,false)⟩,⟨some 111,.call 36 [110],some (109,false)⟩,⟨some 112,.un .not 111,some (109,false)⟩,w 113 (.pick 109 (.c .bool true) 112),m 114 113,⟨some 115,.mv 17,some (114,false)⟩,⟨some 116,.mv 8,some (114,false)⟩,⟨some 117,.bin .lss 115 116,some (114,false)⟩,w 118 (.pick 114 (.c .bool true) 117)])) (.out [1,4,5,6,17,52,53,54] (.cond (.t 118) (.seq (.out [4] (.aa [] [w 4 (.ab (.c .bool false))])) .ret) .skip))) (.out [1,5,6,8,52,53,54] (.aa [1,5,6,17,52,53,54] [m 119 17,w 8 (.ab 119)])))))))))) (.out [1,5,6,8,52,53,54] (.aa [1,5,6,8,52,53,54] [w 120 (.bin .add 54 (.c U2 1)),m 54 120])))))
def DP:AC:=.out [4] (.loop [1,5,6,8,52,53,54] DO)
def L3:AC:=.out [4] (.block 0 DP)
def L4:AC:=(.seq L2 L3)
def L5:AC:=(.seq (.out [4] (.aa [] [w 4 (.ab (.c .bool true))])) .ret)
def zG:AC:=(.seq L4 L5)
def zH:AC:=(.seq (.out [1,2] (.aa [0,1] [w 2 (.box fi 0),w 4 (.ab (.c .bool false))])) (.seq (.seq (.out [1,2,37] (.aa [1,2] [w 19 (.call 11 []),w 20 (.un .not 19),m 21 20,⟨some 22,.fieldAddr fi [.r,.l] 2,some (21,false)⟩,⟨some 23,.load U4 22,some (21,false)⟩,⟨some 24,.aZ 23,some (21,false)⟩,⟨some 25,.bin .gtr 24 (.c U2 20),some (21,false)⟩,w 26 (.pick 21 (.c .bool true) 25),m 27 26,⟨some 28,.fieldAddr fi [.r,.r,.l] 2,some (27,false)⟩,⟨some 29,.load U4 28,some (27,false)⟩,⟨some 30,.aZ 29,some (27,false)⟩,⟨some 31,.bin .gtr 30 (.c U2 20),some (27,false)⟩,w 32 (.pick 27 (.c .bool true) 31),m 33 32,⟨some 34,.mv 1,some (33,false)⟩,⟨some 35,.bP 34,some (33,false)⟩,⟨some 36,.bin .gtr 35 (.c U2 40),some (33,false)⟩,w 37 (.pick 33 (.c .bool true) 36)])) (.out [1,2,4] (.cond (.t 37) (.seq (.out [4] (.aa [] [w 38 (.call 11 []),w 4 (.ab 38)])) .ret) .skip))) (.seq (.out [1,5] (.aa [1,2] [w 39 (.load fi 2),w 40 (.call 32 [39]),w 5 (.alloc ak (.pair .no (.pair (.own true 43 .no) .no))),⟨none,.store ak 5 40,none⟩])) (.seq (.out [1,5,6,7] (.aa [1,5] [w 42 (.load ak 5),m 43 1,w 44 (.call 16 [42,43]),m 41 44,w 45 (.extract 41 0),w 46 (.extract 41 1),w 6 (.ab 45),w 7 (.ab 46)])) (.seq (.seq (.out [1,5,6,48] (.aa [1,5,6,7] [m 47 7,w 48 (.bin .neq 47 (.c U2 0))])) (.out [1,4,5,6] (.cond (.t 48) (.seq (.out [4] (.aa [6] [m 49 6,w 50 (.aZ 49),w 51 (.bin .eql 50 (.c U2 0)),w 4 (.ab 51)])) .ret) .skip))) (.seq (.out [1,5,6,8] (.aa [1,5,6] [w 8 (.ab (.c U2 0))])) zG))))))
def DN:AC:=zH
def d10:FD:={nargs:=2,body:=DN,res:=[.t 4]}
def table:Table:=fun f=>match f with
 | 10=>some d10
 | 11=>some d11
 | 13=>some d13
 | 15=>some d15
 | 16=>some d16
 | 19=>some d19
 | 20=>some d20
 | 22=>some d22
 | 24=>some d24
 | 26=>some d26
 | 28=>some d28
 | 29=>some d29
 | 32=>some d32
 | 35=>some d35
 | 36=>some d36
 | 37=>some d37
 | 38=>some d38
 | 40=>some d40
 | 44=>some d44
 | 45=>some d45
 | 46=>some d46
 | 47=>some d47
 | 53=>some d53
 | 54=>some d54
 | 55=>some d55
 | 57=>some d57
 | 59=>some d59
 | 60=>some d60
 | 64=>some d64
 | 67=>some d67
 | 68=>some d68
 | 69=>some d69
 | 70=>some d70
 | 71=>some d71
 | 72=>some d72
 | 73=>some d73
 | 74=>some d74
 | 77=>some d77
 | 83=>some d83
 | 86=>some d86
 | 87=>some d87
 | 90=>some d90
 | 91=>some d91
 | 92=>some d92
 | 93=>some d93
 | 94=>some d94
 | 95=>some d95
 | 96=>some d96
 | 97=>some d97
 | 98=>some d98
 | 99=>some d99
 | 111=>some d111
 | 114=>some d114
 | 115=>some d115
 | 116=>some d116
 | 117=>some d117
 | 118=>some d118
 | 119=>some d119
 | 120=>some d120
 | 121=>some d121
 | 122=>some d122
 | 123=>some d123
 | 124=>some d124
 | 125=>some d125
 | 126=>some d126
 | 127=>some d127
 | 135=>some d135
 | 136=>some d136
 | 137=>some d137
 | 138=>some d138
 | 139=>some d139
 | 140=>some d140
 | 141=>some d141
 | 142=>some d142
 | 143=>some d143
 | 144=>some d144
 | 148=>some d148
 | 149=>some d149
 | 150=>some d150
 | 151=>some d151
 | 152=>some d152
 | 153=>some d153
 | 154=>some d154
 | 155=>some d155
 | 158=>some d158
 | 159=>some d159
 | 160=>some d160
 | _=>none
end Go.Fw.L19
