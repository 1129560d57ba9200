/- Own work. -/
import Derived.Test.YtooiookccchmeaaGreatFwB1
set_option linter.unusedVariables false
set_option linter.unusedSimpArgs false
namespace Go.Fw.L19
open Go Go.Fw
abbrev U0:Ty:=(.int .u8)
abbrev U1:Ty:=(.sl .str)
abbrev V0:Type:=(List Int)
abbrev U2:Ty:=(.int .i64)
abbrev U3:Ty:=(.int .i32)
abbrev V1:Type:=(Int×Int)
abbrev V2:Type:=(List Bool)
abbrev V3:Type:=(List UInt8)
abbrev V4:Type:=(Int×Unit)
abbrev V5:Type:=(Int×Bool)
abbrev V6:Type:=(V3)
abbrev U4:Ty:=(.sl U0)
abbrev U5:Ty:=(.sl U2)
abbrev V7:Type:=(List V0)
abbrev U6:Ty:=(.pair .str .unit)
abbrev V8:Type:=(V0×Int)
abbrev V9:Type:=(V0×Unit)
abbrev BT:Type:=(V7)
abbrev aD:Type:=(List V3)
abbrev sL:Type:=(Int×V4)
abbrev xw:Type:=(V3×Int)
abbrev TA:Type:=(V3×Unit)
abbrev ft:Type:=(aD)
abbrev xx:Type:=(V3×Bool)
abbrev U7:Ty:=(.sl U5)
abbrev U8:Ty:=(.pair U0 .unit)
abbrev pP:Type:=(V0×Int×Int)
abbrev U9:Ty:=(.pair U2 .unit)
abbrev Jx:Ty:=(.pair U3 .unit)
abbrev mL:Type:=(V7×Int)
abbrev fU:Type:=(List sL)
abbrev a6:Type:=(Int×sL)
abbrev bR:Type:=(V4→Option Bool)
abbrev TB:Type:=(Int×TA)
abbrev Tt:Ty:=(.pair U5 .unit)
abbrev bS:Type:=(List a6)
abbrev xy:Type:=(fU×Int)
abbrev xp:Ty:=(.fn U8 .bool)
abbrev TC:Type:=(a6×Int)
abbrev lZ:Ty:=(.fn Jx .bool)
abbrev aN:Type:=(Int×TB)
abbrev mM:Type:=(bS)
abbrev Tu:Ty:=(.pair U2 U6)
abbrev aB:Type:=(List aN)
abbrev dK:Ty:=(.pair U2 U9)
abbrev nQ:Type:=(aN×Bool)
abbrev kC:Type:=(aB)
abbrev xz:Type:=((V0×V9)→Option Int)
abbrev TD:Type:=((List TC)×Unit)
abbrev sM:Type:=(aB×Int)
abbrev xr:Ty:=(.pair U5 Tt)
abbrev aA:Ty:=(.pair U2 Tu)
abbrev bD:Ty:=(.sl aA)
abbrev aX:Ty:=(.pair U2 dK)
abbrev TE:Type:=(aB×sL)
abbrev TF:Type:=(V3×TD)
abbrev BS:Ty:=(.map aX U2)
abbrev aT:Type:=(V3×TE)
abbrev cb:Type:=(List aT)
abbrev mN:Type:=(aT×Bool)
abbrev Tv:Ty:=(.pair BS .unit)
abbrev TG:Type:=(cb×Unit)
abbrev Tw:Ty:=(.pair .str Tv)
abbrev eN:Type:=((aT×Unit)→Option Bool)
abbrev Tx:Ty:=(.pair bD dK)
abbrev ag:Type:=(V3×TG)
abbrev sN:Type:=(ag)
abbrev aG:Ty:=(.pair .str Tx)
abbrev xA:Type:=(ag×Int×Int)
abbrev dT:Ty:=(.sl aG)
abbrev Jy:Ty:=(.pair aG .unit)
abbrev Tz:Ty:=(.pair dT .unit)
abbrev xu:Ty:=(.fn Jy .bool)
abbrev az:Ty:=(.pair .str Tz)
abbrev aI:Type:=(ag×TF)
abbrev gz:Type:=(aI×Int)
abbrev jG:Type:=(aI×V7)
abbrev bB:Ty:=(.pair az Tw)
instance (n:Nat):OfNat Od n:=⟨.t n⟩
abbrev w (d:Nat) (o:pE):AI:={dst:=some d,op:=o}
abbrev m (d:Nat) (k:Nat):AI:={dst:=some d,op:=.mv (.t k)}
def Nn:AC:=.out [0,3,4,5] (.aa [0,3,4] [w 5 (.ab (.c U2 0))])
def ES:AC:=(.seq (.seq (.out [0,3,4,5,9] (.aa [0,3,4,5] [m 6 5,m 7 0,w 8 (.bO 7),w 9 (.bin .leq 6 8)])) (.out [0,3,4,5] (.cond (.t 9) .skip (.exit 0)))) (.seq (.out [0,3,4,5] (.block 1 (.seq (.seq (.out [0,3,4,5,20] (.aa [0,3,4,5] [m 12 5,m 13 0,w 14 (.bO 13),w 15 (.bin .eql 12 14),m 16 15,⟨some 17,.mv 4,some (16,true)⟩,⟨some 18,.mv 5,some (16,true)⟩,⟨some 19,.bin .eql 17 18,some (16,true)⟩,w 20 (.pick 16 19 (.c .bool false))])) (.out [0,3,4,5] (.cond (.t 20) (.exit 0) .skip))) (.seq (.out [0,3,4,5,30] (.aa [0,3,4,5] [m 21 5,m 22 0,w 23 (.bO 22),w 24 (.bin .eql 21 23),m 25 24,⟨some 26,.mv 0,some (25,false)⟩,⟨some 27,.mv 5,some (25,false)⟩,⟨some 28,.dE 26 27,some (25,false)⟩,⟨some 29,.bin .eql 28 (.c U0 10),some (25,false)⟩,w 30 (.pick 25 (.c .bool true) 29)])) (.out [0,3,4,5] (.cond (.t 30) (.seq (.out [0,3,5] (.aa [0,3,4,5] [m 31 3,m 32 0,m 33 4,m 34 5,w 35 (.iI 32 (some 33) (some 34)),w 36 (.buildSlice 9 .str [35]),w 37 (.append 9 .str 8796093022208 31 36),w 3 (.ab 37)])) (.out [0,3,4,5] (.aa [0,3,5] [m 38 5,w 39 (.bin .add 38 (.c U2 1)),w 4 (.ab 39)]))) .skip)))))) (.out [0,3,4,5] (.aa [0,3,4,5] [m 10 5,w 11 (.bin .add 10 (.c U2 1)),w 5 (.ab 11)]))))
def ET:AC:=.out [3] (.loop [0,3,4,5] ES)
def No:AC:=.out [3] (.block 0 ET)
def Np:AC:=(.seq Nn No)
def Nq:AC:=(.seq (.out [2,3] (.aa [3] [m 40 3,w 2 (.ab 40)])) .ret)
def zi:AC:=(.seq Np Nq)
def zj:AC:=(.seq (.out [0] (.aa [0] [w 2 (.ab (.nil 9 .str))])) (.seq (.out [0,3] (.aa [0] [w 3 (.ab (.nil 9 .str))])) (.seq (.out [0,3,4] (.aa [0,3] [w 4 (.ab (.c U2 0))])) zi)))
def ER:AC:=zj
def d92:FD:={nargs:=1,body:=ER,res:=[.t 2]}
def Nr:AC:=.out [0,3,4,5] (.aa [0,3,4] [w 5 (.ab (.c U2 0))])
def EV:AC:=(.seq (.seq (.out [0,3,4,5,9] (.aa [0,3,4,5] [m 6 5,m 7 0,w 8 (.bO 7),w 9 (.bin .leq 6 8)])) (.out [0,3,4,5] (.cond (.t 9) .skip (.exit 0)))) (.seq (.out [0,2,3,4,5] (.block 1 (.seq (.out [0,3,4,5,21] (.aa [0,3,4,5] [m 12 5,m 13 0,w 14 (.bO 13),w 15 (.bin .eql 12 14),m 16 15,⟨some 17,.mv 0,some (16,false)⟩,⟨some 18,.mv 5,some (16,false)⟩,⟨some 19,.dE 17 18,some (16,false)⟩,⟨some 20,.bin .eql 19 (.c U0 32),some (16,false)⟩,w 21 (.pick 16 (.c .bool true) 20)])) (.out [0,2,3,4,5] (.cond (.t 21) (.seq (.seq (.out [0,3,4,5,24] (.aa [0,3,4,5] [m 22 5,m 23 4,w 24 (.bin .eql 22 23)])) (.out [0,2,3,4,5] (.cond (.t 24) (.seq (.out [2] (.aa [] [w 2 (.ab (.nil 9 .str))])) .ret) .skip))) (.seq (.out [0,3,5] (.aa [0,3,4,5] [m 25 3,m 26 0,m 27 4,m 28 5,w 29 (.iI 26 (some 27) (some 28)),w 30 (.buildSlice 9 .str [29]),w 31 (.append 9 .str 8796093022208 25 30),w 3 (.ab 31)])) (.out [0,3,4,5] (.aa [0,3,5] [m 32 5,w 33 (.bin .add 32 (.c U2 1)),w 4 (.ab 33)])))) .skip))))) (.out [0,3,4,5] (.aa [0,3,4,5] [m 10 5,w 11 (.bin .add 10 (.c U2 1)),w 5 (.ab 11)]))))
def EW:AC:=.out [2,3] (.loop [0,3,4,5] EV)
def Ns:AC:=.out [2,3] (.block 0 EW)
def Nt:AC:=(.seq Nr Ns)
def Nu:AC:=(.seq (.out [2,3] (.aa [3] [m 34 3,w 2 (.ab 34)])) .ret)
def zk:AC:=(.seq Nt Nu)
def zl:AC:=(.seq (.out [0] (.aa [0] [w 2 (.ab (.nil 9 .str))])) (.seq (.out [0,3] (.aa [0] [w 3 (.ab (.nil 9 .str))])) (.seq (.out [0,3,4] (.aa [0,3] [w 4 (.ab (.c U2 0))])) zk)))
def EU:AC:=zl
def d93:FD:={nargs:=1,body:=EU,res:=[.t 2]}
def KC:AC:=.out [0,3,4] (.aa [0,3] [w 4 (.ab (.c U2 0))])
def CQ:AC:=(.seq (.seq (.out [0,3,4,9] (.aa [0,3,4] [m 6 4,m 7 0,w 8 (.bO 7),w 9 (.bin .lss 6 8)])) (.out [0,3,4] (.cond (.t 9) .skip (.exit 0)))) (.seq (.out [0,3,4] (.block 1 (.seq (.out [0,3,4,15] (.aa [0,3,4] [m 12 0,m 13 4,w 14 (.dE 12 13),w 15 (.bin .eql 14 (.c U0 32))])) (.out [0,3,4] (.cond (.t 15) (.out [0,3,4] (.aa [0,3,4] [m 16 3,w 17 (.buildSlice 9 .str [(.c .str [])]),w 18 (.append 9 .str 8796093022208 16 17),w 3 (.ab 18)])) (.out [0,3,4] (.draw [0,3,4] [⟨m 19 3,[20,21,22,23,24,25,26,27,28,29,30,31,32,33,34],[19],[],false,[]⟩,⟨m 20 3,[19,23,24,25,26,27,28,29,30,31,32,33,34],[20],[],false,[]⟩,⟨w 21 (.ba 20),[19,23,24,25,26,27,28,29,30,31,32,33,34],[21],[1],false,[]⟩,⟨w 22 (.bin .sub 21 (.c U2 1)),[19,23,24,25,26,27,28,29,30,31,32,33,34],[22],[1,2],false,[]⟩,⟨m 23 3,[19,20,21,22,24,25,26,29,30,31,32,33],[23],[],false,[]⟩,⟨m 24 3,[19,20,21,22,23,29,30,31,32,33],[24],[],false,[]⟩,⟨w 25 (.ba 24),[19,20,21,22,23,29,30,31,32,33],[25],[5],false,[]⟩,⟨w 26 (.bin .sub 25 (.c U2 1)),[19,20,21,22,23,29,30,31,32,33],[26],[5,6],false,[]⟩,⟨w 27 (.indexAddr .str 23 26),[19,20,21,22,29,30,31,32,33],[27],[4,5,6,7],false,[]⟩,⟨w 28 (.load .str 27),[19,20,21,22,29,30,31,32,33],[28],[4,5,6,7,8],false,[]⟩,⟨m 29 0,[19,20,21,22,23,24,25,26,27,28,30,31,32],[29],[],false,[]⟩,⟨m 30 4,[19,20,21,22,23,24,25,26,27,28,29,31,32],[30],[],false,[]⟩,⟨m 31 4,[19,20,21,22,23,24,25,26,27,28,29,30],[31],[],false,[]⟩,⟨w 32 (.bin .add 31 (.c U2 1)),[19,20,21,22,23,24,25,26,27,28,29,30],[32],[12],false,[]⟩,⟨w 33 (.iI 29 (some 30) (some 32)),[19,20,21,22,23,24,25,26,27,28],[33],[10,11,12,13],false,[]⟩,⟨w 34 (.bin .add 28 33),[19,20,21,22],[34],[4,5,6,7,8,9,10,11,12,13,14],false,[]⟩,⟨w 35 (.indexAddr .str 19 22),[],[35],[0,1,2,3,4,5,6,7,8,9,10,11,12,13,14,15],false,[]⟩,⟨⟨none,.store .str 35 34,none⟩,[],[3,19,35],[0,1,2,3,4,5,6,7,8,9,10,11,12,13,14,15,16],true,[]⟩]))))))) (.out [0,3,4] (.aa [0,3,4] [m 10 4,w 11 (.bin .add 10 (.c U2 1)),w 4 (.ab 11)]))))
def CR:AC:=.out [3] (.loop [0,3,4] CQ)
def KD:AC:=.out [3] (.block 0 CR)
def KF:AC:=(.seq KC KD)
def KG:AC:=(.seq (.out [2,3] (.aa [3] [m 36 3,w 2 (.ab 36)])) .ret)
def yd:AC:=(.seq KF KG)
def ye:AC:=(.seq (.out [0] (.aa [0] [w 2 (.ab (.nil 9 .str))])) (.seq (.out [0,3] (.aa [0] [w 5 (.buildSlice 9 .str [(.c .str [])]),w 3 (.ab 5)])) yd))
def CP:AC:=ye
def d138:FD:={nargs:=1,body:=CP,res:=[.t 2]}
def KZ:AC:=(.seq (.out [] (.aa [] [w 0 (.ab (.c .str []))])) (.seq (.out [0] (.aa [] [w 0 (.ab (.c .str [32,118,100,109,108,110,115,120,103,98]))])) .ret))
def Da:AC:=KZ
def d148:FD:={nargs:=0,body:=Da,res:=[.t 0]}
def JW:AC:=(.seq (.out [1] (.aa [0] [w 1 (.box aA 0),w 2 (.ab (.c .bool false))])) (.seq (.out [2] (.aa [1] [w 3 (.fieldAddr aA [.l] 1),w 4 (.load U2 3),w 5 (.bin .eql 4 (.c U2 1)),m 6 5,⟨some 7,.fieldAddr aA [.l] 1,some (6,false)⟩,⟨some 8,.load U2 7,some (6,false)⟩,⟨some 9,.bin .eql 8 (.c U2 2),some (6,false)⟩,w 10 (.pick 6 (.c .bool true) 9),w 2 (.ab 10)])) .ret))
def Cf:AC:=JW
def d114:FD:={nargs:=1,body:=Cf,res:=[.t 2]}
def KB:AC:=(.seq (.out [0] (.aa [0] [w 2 (.ab (.c .bool false))])) (.seq (.out [2] (.aa [0] [m 3 0,w 4 (.bin .geq 3 (.c U0 97)),m 5 4,⟨some 6,.mv 0,some (5,true)⟩,⟨some 7,.bin .leq 6 (.c U0 122),some (5,true)⟩,w 8 (.pick 5 7 (.c .bool false)),m 9 8,⟨some 10,.mv 0,some (9,false)⟩,⟨some 11,.bin .geq 10 (.c U0 48),some (9,false)⟩,⟨some 12,.mv 11,some (9,false)⟩,⟨some 13,.mv 0,some (12,true)⟩,⟨some 14,.bin .leq 13 (.c U0 57),some (12,true)⟩,⟨some 15,.pick 12 14 (.c .bool false),some (9,false)⟩,w 16 (.pick 9 (.c .bool true) 15),m 17 16,⟨some 18,.mv 0,some (17,false)⟩,⟨some 19,.bin .eql 18 (.c U0 95),some (17,false)⟩,w 20 (.pick 17 (.c .bool true) 19),m 21 20,⟨some 22,.mv 0,some (21,false)⟩,⟨some 23,.bin .eql 22 (.c U0 94),some (21,false)⟩,w 24 (.pick 21 (.c .bool true) 23),m 25 24,⟨some 26,.mv 0,some (25,false)⟩,⟨some 27,.bin .eql 26 (.c U0 39),some (25,false)⟩,w 28 (.pick 25 (.c .bool true) 27),w 2 (.ab 28)])) .ret))
def CO:AC:=KB
def d137:FD:={nargs:=1,body:=CO,res:=[.t 2]}
def J3:AC:=.out [1,4] (.aa [1] [w 4 (.ab (.c U2 0))])
def Co:AC:=(.seq (.seq (.out [1,4,46] (.aa [1,4] [m 42 4,w 43 (.fieldAddr aA [.r,.r,.l] 1),w 44 (.load .str 43),w 45 (.bO 44),w 46 (.bin .lss 42 45)])) (.out [1,4] (.cond (.t 46) .skip (.exit 0)))) (.seq (.out [1,2,4] (.block 1 (.seq (.out [1,4,54] (.aa [1,4] [w 49 (.fieldAddr aA [.r,.r,.l] 1),w 50 (.load .str 49),m 51 4,w 52 (.dE 50 51),w 53 (.call 137 [52]),w 54 (.un .not 53)])) (.out [1,2,4] (.cond (.t 54) (.seq (.out [2] (.aa [] [w 2 (.ab (.c U2 2))])) .ret) .skip))))) (.out [1,4] (.aa [1,4] [m 47 4,w 48 (.bin .add 47 (.c U2 1)),w 4 (.ab 48)]))))
def Cp:AC:=.out [2] (.loop [1,4] Co)
def J4:AC:=.out [2] (.block 0 Cp)
def J5:AC:=(.seq J3 J4)
def J6:AC:=(.seq (.out [2] (.aa [] [w 2 (.ab (.c U2 0))])) .ret)
def xT:AC:=(.seq J5 J6)
def sZ:AC:=(.seq (.seq (.out [1,34] (.aa [1,3] [m 33 3,w 34 (.un .not 33)])) (.out [1,2] (.cond (.t 34) (.seq (.out [2] (.aa [] [w 2 (.ab (.c U2 6))])) .ret) .skip))) (.seq (.seq (.out [1,37] (.aa [1] [w 35 (.fieldAddr aA [.r,.r,.l] 1),w 36 (.load .str 35),w 37 (.bin .eql 36 (.c .str []))])) (.out [1,2] (.cond (.t 37) (.seq (.out [2] (.aa [] [w 2 (.ab (.c U2 7))])) .ret) .skip))) (.seq (.seq (.out [1,41] (.aa [1] [w 38 (.fieldAddr aA [.r,.r,.l] 1),w 39 (.load .str 38),w 40 (.bO 39),w 41 (.bin .gtr 40 (.c U2 8))])) (.out [1,2] (.cond (.t 41) (.seq (.out [2] (.aa [] [w 2 (.ab (.c U2 3))])) .ret) .skip))) xT)))
def xU:AC:=(.seq (.out [1] (.aa [0] [w 1 (.box aA 0),w 2 (.ab (.c U2 0))])) (.seq (.seq (.out [1,12] (.aa [1] [w 5 (.fieldAddr aA [.l] 1),w 6 (.load U2 5),w 7 (.bin .lss 6 (.c U2 1)),m 8 7,⟨some 9,.fieldAddr aA [.l] 1,some (8,false)⟩,⟨some 10,.load U2 9,some (8,false)⟩,⟨some 11,.bin .gtr 10 (.c U2 9),some (8,false)⟩,w 12 (.pick 8 (.c .bool true) 11)])) (.out [1,2] (.cond (.t 12) (.seq (.out [2] (.aa [] [w 2 (.ab (.c U2 1))])) .ret) .skip))) (.seq (.out [1,3] (.aa [1] [w 13 (.fieldAddr aA [.r,.l] 1),w 14 (.load U2 13),w 15 (.bin .eql 14 (.c U2 0)),w 3 (.ab 15)])) (.seq (.seq (.out [1,3,18] (.aa [1,3] [w 16 (.fieldAddr aA [.l] 1),w 17 (.load U2 16),w 18 (.bin .eql 17 (.c U2 1))])) (.out [1,3] (.cond (.t 18) (.out [1,3] (.aa [1] [w 19 (.fieldAddr aA [.r,.l] 1),w 20 (.load U2 19),w 21 (.bin .geq 20 (.c U2 1)),m 22 21,⟨some 23,.fieldAddr aA [.r,.l] 1,some (22,true)⟩,⟨some 24,.load U2 23,some (22,true)⟩,⟨some 25,.bin .leq 24 (.c U2 3),some (22,true)⟩,w 26 (.pick 22 25 (.c .bool false)),w 3 (.ab 26)])) .skip))) (.seq (.seq (.out [1,3,29] (.aa [1,3] [w 27 (.fieldAddr aA [.l] 1),w 28 (.load U2 27),w 29 (.bin .eql 28 (.c U2 2))])) (.out [1,3] (.cond (.t 29) (.out [1,3] (.aa [1] [w 30 (.fieldAddr aA [.r,.l] 1),w 31 (.load U2 30),w 32 (.bin .eql 31 (.c U2 2)),w 3 (.ab 32)])) .skip))) sZ)))))
def Cn:AC:=xU
def d117:FD:={nargs:=1,body:=Cn,res:=[.t 2]}
def CT:AC:=(.seq (.seq (.out [0,2,4,17] (.aa [0,2,4] [m 8 4,m 9 0,w 10 (.bO 9),w 11 (.bin .lss 8 10),m 12 11,⟨some 13,.mv 0,some (12,true)⟩,⟨some 14,.mv 4,some (12,true)⟩,⟨some 15,.dE 13 14,some (12,true)⟩,⟨some 16,.bin .neq 15 (.c U0 47),some (12,true)⟩,w 17 (.pick 12 16 (.c .bool false))])) (.out [0,2,4] (.cond (.t 17) .skip (.exit 0)))) (.out [0,2,4] (.block 1 (.out [0,2,4] (.aa [0,2,4] [m 18 4,w 19 (.bin .add 18 (.c U2 1)),w 4 (.ab 19)])))))
def CU:AC:=.out [0,2,4] (.loop [0,2,4] CT)
def KH:AC:=.out [0,2,4] (.block 0 CU)
def KI:AC:=.out [2,5,6,7] (.aa [2,5,6] [w 7 (.ab (.c U2 1))])
def CW:AC:=(.seq (.seq (.out [2,5,6,7,38] (.aa [2,5,6,7] [m 35 7,w 36 (.call 148 []),w 37 (.bO 36),w 38 (.bin .lss 35 37)])) (.out [2,5,6,7] (.cond (.t 38) .skip (.exit 2)))) (.seq (.out [2,5,6,7] (.block 3 (.seq (.out [2,5,6,7,46] (.draw [2,5,6,7] [⟨w 41 (.call 148 []),[42,44,45],[41],[],false,[]⟩,⟨m 42 7,[41,44,45],[42],[],false,[]⟩,⟨w 43 (.dE 41 42),[44,45],[43],[0,1],false,[]⟩,⟨m 44 5,[41,42,43],[44],[],false,[]⟩,⟨w 45 (.dE 44 (.c U2 0)),[41,42,43],[45],[3],false,[]⟩,⟨w 46 (.bin .eql 43 45),[],[46],[0,1,2,3,4],false,[]⟩])) (.out [2,5,6,7] (.cond (.t 46) (.out [2,5,6,7] (.aa [2,5,6,7] [m 47 7,w 48 (.fieldAddr aA [.l] 6),⟨none,.store U2 48 47,none⟩])) .skip))))) (.out [2,5,6,7] (.aa [2,5,6,7] [m 39 7,w 40 (.bin .add 39 (.c U2 1)),w 7 (.ab 40)]))))
def CX:AC:=.out [2,5,6] (.loop [2,5,6,7] CW)
def KJ:AC:=.out [2,5,6] (.block 2 CX)
def KK:AC:=(.seq KI KJ)
def KL:AC:=(.seq (.out [2,5,6] (.aa [2,5,6] [m 49 5,w 50 (.iI 49 (some (.c U2 1)) none),w 5 (.ab 50)])) (.seq (.seq (.out [2,5,6,67] (.aa [2,5,6] [w 51 (.load aA 6),w 52 (.call 114 [51]),m 53 52,⟨some 54,.mv 5,some (53,true)⟩,⟨some 55,.bO 54,some (53,true)⟩,⟨some 56,.bin .eql 55 (.c U2 1),some (53,true)⟩,w 57 (.pick 53 56 (.c .bool false)),m 58 57,⟨some 59,.mv 5,some (58,true)⟩,⟨some 60,.dE 59 (.c U2 0),some (58,true)⟩,⟨some 61,.bin .geq 60 (.c U0 49),some (58,true)⟩,w 62 (.pick 58 61 (.c .bool false)),m 63 62,⟨some 64,.mv 5,some (63,true)⟩,⟨some 65,.dE 64 (.c U2 0),some (63,true)⟩,⟨some 66,.bin .leq 65 (.c U0 51),some (63,true)⟩,w 67 (.pick 63 66 (.c .bool false))])) (.out [2,5,6] (.cond (.t 67) (.seq (.out [2,6] (.aa [2,5,6] [m 68 5,w 69 (.dE 68 (.c U2 0)),w 70 (.mc .i64 69),w 71 (.bin .sub 70 (.c U2 48)),w 72 (.fieldAddr aA [.r,.l] 6),⟨none,.store U2 72 71,none⟩])) (.out [2,5,6] (.aa [2,6] [w 5 (.ab (.c .str []))]))) .skip))) (.seq (.out [2,3] (.draw [2,5,6] [⟨w 73 (.load aA 6),[74,75,76,77,78,79,80],[73],[],false,[]⟩,⟨m 74 5,[73],[74],[],false,[]⟩,⟨w 75 (.bin .eql 74 (.c .str [])),[73],[75],[1],false,[]⟩,⟨m 76 75,[73],[76],[1,2],false,[]⟩,⟨⟨some 77,.load aA 6,some (76,true)⟩,[73],[77],[1,2,3],false,[]⟩,⟨⟨some 78,.call 117 [77],some (76,true)⟩,[73],[78],[1,2,3,4],false,[]⟩,⟨⟨some 79,.bin .eql 78 (.c U2 0),some (76,true)⟩,[2,73],[79],[1,2,3,4,5],false,[]⟩,⟨w 80 (.pick 76 79 (.c .bool false)),[2,73],[80],[1,2,3,4,5,6],false,[]⟩,⟨⟨none,.store aA 2 73,none⟩,[79,80],[2],[0,1,2,3,4,5],false,[]⟩,⟨w 3 (.ab 80),[],[3],[0,1,2,3,4,5,6,7,8],false,[]⟩])) .ret)))
def yh:AC:=(.seq KK KL)
def CV:AC:=(.seq (.out [0,2,4,5] (.aa [0,2,4] [w 5 (.ab (.c .str []))])) (.seq (.seq (.out [0,2,4,5,23] (.aa [0,2,4,5] [m 20 4,m 21 0,w 22 (.bO 21),w 23 (.bin .lss 20 22)])) (.out [0,2,4,5] (.cond (.t 23) (.out [0,2,4,5] (.aa [0,2,4] [m 24 0,m 25 4,w 26 (.bin .add 25 (.c U2 1)),w 27 (.iI 24 (some 26) none),w 5 (.ab 27)])) .skip))) (.seq (.seq (.out [0,2,4,5,29] (.aa [0,2,4,5] [m 28 5,w 29 (.bin .eql 28 (.c .str []))])) (.out [0,2,3,4,5] (.cond (.t 29) (.seq (.out [2,3] (.aa [2] [w 30 (.build aA []),⟨none,.store aA 2 30,none⟩,w 3 (.ab (.c .bool false))])) .ret) .skip))) (.seq (.out [2,5,6] (.aa [0,2,4,5] [m 31 0,m 32 4,w 33 (.iI 31 none (some 32)),w 34 (.build aA [([.r,.r,.l],33)]),w 6 (.alloc aA .no),⟨none,.store aA 6 34,none⟩])) yh))))
def yf:AC:=(.seq KH CV)
def yg:AC:=(.seq (.out [0,2] (.aa [0] [w 2 (.alloc aA .no),w 3 (.ab (.c .bool false))])) (.seq (.out [0,2,4] (.aa [0,2] [w 4 (.ab (.c U2 0))])) yf))
def CS:AC:=yg
def d139:FD:={nargs:=1,body:=CS,res:=[.cell 2 aA,.t 3]}
def J7:AC:=.out [4,5,6] (.aa [4,5] [w 6 (.ab (.c U2 0))])
def Cr:AC:=(.seq (.seq (.out [4,5,6,19] (.aa [4,5,6] [m 16 6,m 17 5,w 18 (.ba 17),w 19 (.bin .lss 16 18)])) (.out [4,5,6] (.cond (.t 19) .skip (.exit 0)))) (.seq (.out [2,3,4,5,6] (.block 1 (.seq (.out [4,5,6,7,8] (.aa [4,5,6] [m 23 5,m 24 6,w 25 (.indexAddr .str 23 24),w 26 (.load .str 25),w 27 (.call 139 [26]),m 22 27,w 28 (.extract 22 0),w 29 (.extract 22 1),w 7 (.alloc aA .no),⟨none,.store aA 7 28,none⟩,w 8 (.ab 29)])) (.seq (.seq (.out [4,5,6,7,31] (.aa [4,5,6,7,8] [m 30 8,w 31 (.un .not 30)])) (.out [2,3,4,5,6,7] (.cond (.t 31) (.seq (.out [2,3] (.aa [] [w 2 (.ab (.nil 40 aA)),w 3 (.ab (.c U2 2))])) .ret) .skip))) (.out [4,5,6] (.aa [4,5,6,7] [m 32 4,w 33 (.load aA 7),w 34 (.buildSlice 40 aA [33]),w 35 (.append 40 aA 4398046511104 32 34),w 4 (.ab 35)])))))) (.out [4,5,6] (.aa [4,5,6] [m 20 6,w 21 (.bin .add 20 (.c U2 1)),w 6 (.ab 21)]))))
def Cs:AC:=.out [2,3,4] (.loop [4,5,6] Cr)
def J8:AC:=.out [2,3,4] (.block 0 Cs)
def J9:AC:=(.seq J7 J8)
def Ka:AC:=(.seq (.seq (.out [4,38] (.aa [4] [m 36 4,w 37 (.ba 36),w 38 (.bin .gtr 37 (.c U2 200))])) (.out [2,3,4] (.cond (.t 38) (.seq (.out [2,3] (.aa [] [w 2 (.ab (.nil 40 aA)),w 3 (.ab (.c U2 2))])) .ret) .skip))) (.seq (.out [2,3,4] (.aa [4] [m 39 4,w 2 (.ab 39),w 3 (.ab (.c U2 0))])) .ret))
def xV:AC:=(.seq J9 Ka)
def xW:AC:=(.seq (.out [0] (.aa [0] [w 2 (.ab (.nil 40 aA)),w 3 (.ab (.c U2 0))])) (.seq (.seq (.out [0,11] (.aa [0] [m 9 0,w 10 (.bO 9),w 11 (.bin .gtr 10 (.c U2 4000))])) (.out [0,2,3] (.cond (.t 11) (.seq (.out [2,3] (.aa [] [w 2 (.ab (.nil 40 aA)),w 3 (.ab (.c U2 3))])) .ret) .skip))) (.seq (.seq (.out [0,13] (.aa [0] [m 12 0,w 13 (.bin .eql 12 (.c .str []))])) (.out [0,2,3] (.cond (.t 13) (.seq (.out [2,3] (.aa [] [w 2 (.ab (.nil 40 aA)),w 3 (.ab (.c U2 0))])) .ret) .skip))) (.seq (.out [0,4] (.aa [0] [w 4 (.ab (.nil 40 aA))])) (.seq (.out [4,5] (.aa [0,4] [m 14 0,w 15 (.call 138 [14]),w 5 (.ab 15)])) xV)))))
def Cq:AC:=xW
def d118:FD:={nargs:=1,body:=Cq,res:=[.t 2,.t 3]}
def KA:AC:=(.seq (.out [0] (.aa [0] [w 2 (.ab (.c .bool false))])) (.seq (.out [2] (.aa [0] [m 3 0,w 4 (.bin .geq 3 (.c U0 48)),m 5 4,⟨some 6,.mv 0,some (5,true)⟩,⟨some 7,.bin .leq 6 (.c U0 57),some (5,true)⟩,w 8 (.pick 5 7 (.c .bool false)),w 2 (.ab 8)])) .ret))
def CN:AC:=KA
def d136:FD:={nargs:=1,body:=CN,res:=[.t 2]}
def CZ:AC:=(.seq (.seq (.out [0,3,13] (.aa [0,3] [m 4 3,m 5 0,w 6 (.bO 5),w 7 (.bin .lss 4 6),m 8 7,⟨some 9,.mv 0,some (8,true)⟩,⟨some 10,.mv 3,some (8,true)⟩,⟨some 11,.dE 9 10,some (8,true)⟩,⟨some 12,.call 136 [11],some (8,true)⟩,w 13 (.pick 8 12 (.c .bool false))])) (.out [0,3] (.cond (.t 13) .skip (.exit 0)))) (.out [0,3] (.block 1 (.out [0,3] (.aa [0,3] [m 14 3,w 15 (.bin .add 14 (.c U2 1)),w 3 (.ab 15)])))))
def C0:AC:=.out [3] (.loop [0,3] CZ)
def KN:AC:=.out [3] (.block 0 C0)
def KO:AC:=(.seq (.out [2] (.aa [3] [m 16 3,w 2 (.ab 16)])) .ret)
def yi:AC:=(.seq KN KO)
def yj:AC:=(.seq (.out [0] (.aa [0] [w 2 (.ab (.c U2 0))])) (.seq (.out [0,3] (.aa [0] [w 3 (.ab (.c U2 0))])) yi))
def CY:AC:=yj
def d140:FD:={nargs:=1,body:=CY,res:=[.t 2]}
def Kb:AC:=.out [0,4,5] (.aa [0,4] [w 5 (.ab (.c U2 0))])
def Cu:AC:=(.seq (.seq (.out [0,4,5,33] (.aa [0,4,5] [m 30 5,m 31 0,w 32 (.bO 31),w 33 (.bin .lss 30 32)])) (.out [0,4,5] (.cond (.t 33) .skip (.exit 0)))) (.seq (.out [0,4,5] (.block 1 (.out [0,4,5] (.aa [0,4,5] [m 36 4,w 37 (.bin .mul (.c U2 10) 36),m 38 0,m 39 5,w 40 (.dE 38 39),w 41 (.bin .sub 40 (.c U0 48)),w 42 (.mc .i64 41),w 43 (.bin .add 37 42),w 4 (.ab 43)])))) (.out [0,4,5] (.aa [0,4,5] [m 34 5,w 35 (.bin .add 34 (.c U2 1)),w 5 (.ab 35)]))))
def Cv:AC:=.out [4] (.loop [0,4,5] Cu)
def Kc:AC:=.out [4] (.block 0 Cv)
def Kd:AC:=(.seq Kb Kc)
def Ke:AC:=(.seq (.out [2,3] (.aa [4] [m 44 4,w 2 (.ab 44),w 3 (.ab (.c .bool true))])) .ret)
def xX:AC:=(.seq Kd Ke)
def xY:AC:=(.seq (.out [0] (.aa [0] [w 2 (.ab (.c U2 0)),w 3 (.ab (.c .bool false))])) (.seq (.seq (.out [0,29] (.aa [0] [m 6 0,w 7 (.bin .eql 6 (.c .str [])),m 8 7,⟨some 9,.mv 0,some (8,false)⟩,⟨some 10,.bO 9,some (8,false)⟩,⟨some 11,.bin .gtr 10 (.c U2 6),some (8,false)⟩,w 12 (.pick 8 (.c .bool true) 11),m 13 12,⟨some 14,.mv 0,some (13,false)⟩,⟨some 15,.call 140 [14],some (13,false)⟩,⟨some 16,.mv 0,some (13,false)⟩,⟨some 17,.bO 16,some (13,false)⟩,⟨some 18,.bin .neq 15 17,some (13,false)⟩,w 19 (.pick 13 (.c .bool true) 18),m 20 19,⟨some 21,.mv 0,some (20,false)⟩,⟨some 22,.dE 21 (.c U2 0),some (20,false)⟩,⟨some 23,.bin .eql 22 (.c U0 48),some (20,false)⟩,⟨some 24,.mv 23,some (20,false)⟩,⟨some 25,.mv 0,some (24,true)⟩,⟨some 26,.bO 25,some (24,true)⟩,⟨some 27,.bin .gtr 26 (.c U2 1),some (24,true)⟩,⟨some 28,.pick 24 27 (.c .bool false),some (20,false)⟩,w 29 (.pick 20 (.c .bool true) 28)])) (.out [0,2,3] (.cond (.t 29) (.seq (.out [2,3] (.aa [] [w 2 (.ab (.c U2 0)),w 3 (.ab (.c .bool false))])) .ret) .skip))) (.seq (.out [0,4] (.aa [0] [w 4 (.ab (.c U2 0))])) xX)))
def Ct:AC:=xY
def d119:FD:={nargs:=1,body:=Ct,res:=[.t 2,.t 3]}
def Kg:AC:=(.seq (.out [0] (.aa [0] [w 2 (.ab (.c .str []))])) (.seq (.out [2] (.aa [0] [w 3 (.buildSlice 9 .str [(.c .str [97,110,121,119,104,101,114,101]),(.c .str [98,101,102,111,114,101]),(.c .str [115,116,97,114,116]),(.c .str [98,101,116,119,101,101,110]),(.c .str [110,111,116])]),m 4 0,w 5 (.indexAddr .str 3 4),w 6 (.load .str 5),w 2 (.ab 6)])) .ret))
def Cw:AC:=Kg
def d120:FD:={nargs:=1,body:=Cw,res:=[.t 2]}
def Nv:AC:=.out [2,4,5,6] (.aa [2,4,5] [w 6 (.ab (.c U2 2))])
def EY:AC:=(.seq (.seq (.out [2,4,5,6,25] (.aa [2,4,5,6] [m 21 6,m 22 4,w 23 (.ba 22),w 24 (.bin .sub 23 (.c U2 2)),w 25 (.bin .lss 21 24)])) (.out [2,4,5,6] (.cond (.t 25) .skip (.exit 0)))) (.seq (.out [2,4,5,6] (.block 1 (.out [2,4,5,6] (.aa [2,4,5,6] [m 28 5,w 29 (.bin .add 28 (.c .str [32])),m 30 4,m 31 6,w 32 (.indexAddr .str 30 31),w 33 (.load .str 32),w 34 (.bin .add 29 33),w 5 (.ab 34)])))) (.out [2,4,5,6] (.aa [2,4,5,6] [m 26 6,w 27 (.bin .add 26 (.c U2 1)),w 6 (.ab 27)]))))
def E0:AC:=.out [2,4,5] (.loop [2,4,5,6] EY)
def Nx:AC:=.out [2,4,5] (.block 0 E0)
def Ny:AC:=(.seq Nv Nx)
def Nz:AC:=.out [2,4,7,9,11] (.aa [2,4,7,9] [w 11 (.ab (.c U2 0))])
def E1:AC:=(.seq (.seq (.out [2,4,7,9,11,58] (.aa [2,4,7,9,11] [m 57 11,w 58 (.bin .leq 57 (.c U2 4))])) (.out [2,4,7,9,11] (.cond (.t 58) .skip (.exit 2)))) (.seq (.out [2,3,4,7,9,11] (.block 3 (.seq (.out [2,4,7,9,11,69] (.draw [2,4,7,9,11] [⟨m 61 4,[62,63,64,67,68],[61],[],false,[]⟩,⟨m 62 4,[61,67,68],[62],[],false,[]⟩,⟨w 63 (.ba 62),[61,67,68],[63],[1],false,[]⟩,⟨w 64 (.bin .sub 63 (.c U2 1)),[61,67,68],[64],[1,2],false,[]⟩,⟨w 65 (.indexAddr .str 61 64),[67,68],[65],[0,1,2,3],false,[]⟩,⟨w 66 (.load .str 65),[67,68],[66],[0,1,2,3,4],false,[]⟩,⟨m 67 11,[61,62,63,64,65,66],[67],[],false,[]⟩,⟨w 68 (.call 120 [67]),[61,62,63,64,65,66],[68],[6],false,[]⟩,⟨w 69 (.bin .eql 66 68),[],[69],[0,1,2,3,4,5,6,7],false,[]⟩])) (.out [2,3,4,7,9,11] (.cond (.t 69) (.seq (.out [2,3] (.aa [2,4,7,9,11] [m 70 4,w 71 (.indexAddr .str 70 (.c U2 0)),w 72 (.load .str 71),m 73 7,m 74 9,m 75 11,w 76 (.build aG [([.l],72),([.r,.l],73),([.r,.r,.l],74),([.r,.r,.r,.l],75)]),⟨none,.store aG 2 76,none⟩,w 3 (.ab (.c .bool true))])) .ret) .skip))))) (.out [2,4,7,9,11] (.aa [2,4,7,9,11] [m 59 11,w 60 (.bin .add 59 (.c U2 1)),w 11 (.ab 60)]))))
def E2:AC:=.out [2,3] (.loop [2,4,7,9,11] E1)
def NA:AC:=.out [2,3] (.block 2 E2)
def NB:AC:=(.seq Nz NA)
def Nw:AC:=(.seq (.out [2,3] (.aa [2] [w 77 (.jH aG (.pair .no (.pair (.own true 40 .no) (.pair .no (.pair .no .no)))) []),⟨none,.store aG 2 77,none⟩,w 3 (.ab (.c .bool false))])) .ret)
def zn:AC:=(.seq NB Nw)
def EZ:AC:=(.seq (.out [2,4,7,8] (.aa [2,4,5] [m 36 5,w 37 (.call 118 [36]),m 35 37,w 38 (.extract 35 0),w 39 (.extract 35 1),w 7 (.ab 38),w 8 (.ab 39)])) (.seq (.out [2,4,7,8,9,10] (.aa [2,4,7,8] [m 41 4,m 42 4,w 43 (.ba 42),w 44 (.bin .sub 43 (.c U2 2)),w 45 (.indexAddr .str 41 44),w 46 (.load .str 45),w 47 (.call 119 [46]),m 40 47,w 48 (.extract 40 0),w 49 (.extract 40 1),w 9 (.ab 48),w 10 (.ab 49)])) (.seq (.seq (.out [2,4,7,9,55] (.aa [2,4,7,8,9,10] [m 50 8,w 51 (.bin .neq 50 (.c U2 0)),m 52 51,⟨some 53,.mv 10,some (52,false)⟩,⟨some 54,.un .not 53,some (52,false)⟩,w 55 (.pick 52 (.c .bool true) 54)])) (.out [2,3,4,7,9] (.cond (.t 55) (.seq (.out [2,3] (.aa [2] [w 56 (.jH aG (.pair .no (.pair (.own true 40 .no) (.pair .no (.pair .no .no)))) []),⟨none,.store aG 2 56,none⟩,w 3 (.ab (.c .bool false))])) .ret) .skip))) zn)))
def zo:AC:=(.seq Ny EZ)
def zp:AC:=(.seq (.out [0,2] (.aa [0] [w 2 (.alloc aG (.pair .no (.pair (.own true 40 .no) (.pair .no (.pair .no .no))))),w 3 (.ab (.c .bool false))])) (.seq (.out [2,4] (.aa [0,2] [m 12 0,w 13 (.call 93 [12]),w 4 (.ab 13)])) (.seq (.seq (.out [2,4,16] (.aa [2,4] [m 14 4,w 15 (.ba 14),w 16 (.bin .lss 15 (.c U2 4))])) (.out [2,3,4] (.cond (.t 16) (.seq (.out [2,3] (.aa [2] [w 17 (.jH aG (.pair .no (.pair (.own true 40 .no) (.pair .no (.pair .no .no)))) []),⟨none,.store aG 2 17,none⟩,w 3 (.ab (.c .bool false))])) .ret) .skip))) (.seq (.out [2,4,5] (.aa [2,4] [m 18 4,w 19 (.indexAddr .str 18 (.c U2 1)),w 20 (.load .str 19),w 5 (.ab 20)])) zo))))
def EX:AC:=zp
def d94:FD:={nargs:=1,body:=EX,res:=[.cell 2 aG,.t 3]}
def Kz:AC:=(.seq (.out [0] (.aa [0] [w 2 (.ab (.c .bool false))])) (.seq (.out [2] (.aa [0] [m 3 0,w 4 (.bin .geq 3 (.c U0 97)),m 5 4,⟨some 6,.mv 0,some (5,true)⟩,⟨some 7,.bin .leq 6 (.c U0 122),some (5,true)⟩,w 8 (.pick 5 7 (.c .bool false)),w 2 (.ab 8)])) .ret))
def CM:AC:=Kz
def d135:FD:={nargs:=1,body:=CM,res:=[.t 2]}
def Ci:AC:=(.seq (.seq (.out [0,3,15] (.aa [0,3] [m 12 3,m 13 0,w 14 (.bO 13),w 15 (.bin .lss 12 14)])) (.out [0,3] (.cond (.t 15) .skip (.exit 0)))) (.out [0,3] (.block 1 (.seq (.seq (.out [0,3,25] (.aa [0,3] [m 16 0,m 17 3,w 18 (.dE 16 17),w 19 (.call 135 [18]),m 20 19,⟨some 21,.mv 0,some (20,false)⟩,⟨some 22,.mv 3,some (20,false)⟩,⟨some 23,.dE 21 22,some (20,false)⟩,⟨some 24,.call 136 [23],some (20,false)⟩,w 25 (.pick 20 (.c .bool true) 24)])) (.out [0,3] (.cond (.t 25) (.seq (.out [0,3] (.aa [0,3] [m 26 3,w 27 (.bin .add 26 (.c U2 1)),w 3 (.ab 27)])) (.exit 1)) .skip))) (.seq (.seq (.out [0,3,54] (.aa [0,3] [m 28 0,m 29 3,w 30 (.dE 28 29),w 31 (.bin .neq 30 (.c U0 45)),m 32 31,⟨some 33,.mv 3,some (32,false)⟩,⟨some 34,.bin .add 33 (.c U2 1),some (32,false)⟩,⟨some 35,.mv 0,some (32,false)⟩,⟨some 36,.bO 35,some (32,false)⟩,⟨some 37,.bin .eql 34 36,some (32,false)⟩,w 38 (.pick 32 (.c .bool true) 37),m 39 38,⟨some 40,.mv 0,some (39,false)⟩,⟨some 41,.mv 3,some (39,false)⟩,⟨some 42,.bin .add 41 (.c U2 1),some (39,false)⟩,⟨some 43,.dE 40 42,some (39,false)⟩,⟨some 44,.call 135 [43],some (39,false)⟩,⟨some 45,.un .not 44,some (39,false)⟩,⟨some 46,.mv 45,some (39,false)⟩,⟨some 47,.mv 0,some (46,true)⟩,⟨some 48,.mv 3,some (46,true)⟩,⟨some 49,.bin .add 48 (.c U2 1),some (46,true)⟩,⟨some 50,.dE 47 49,some (46,true)⟩,⟨some 51,.call 136 [50],some (46,true)⟩,⟨some 52,.un .not 51,some (46,true)⟩,⟨some 53,.pick 46 52 (.c .bool false),some (39,false)⟩,w 54 (.pick 39 (.c .bool true) 53)])) (.out [0,3] (.cond (.t 54) (.exit 0) .skip))) (.out [0,3] (.aa [0,3] [m 55 3,w 56 (.bin .add 55 (.c U2 2)),w 3 (.ab 56)])))))))
def Cj:AC:=.out [3] (.loop [0,3] Ci)
def JX:AC:=.out [3] (.block 0 Cj)
def JY:AC:=(.seq (.out [2] (.aa [3] [m 57 3,w 2 (.ab 57)])) .ret)
def xP:AC:=(.seq JX JY)
def xQ:AC:=(.seq (.out [0] (.aa [0] [w 2 (.ab (.c U2 0))])) (.seq (.seq (.out [0,11] (.aa [0] [m 4 0,w 5 (.bin .eql 4 (.c .str [])),m 6 5,⟨some 7,.mv 0,some (6,false)⟩,⟨some 8,.dE 7 (.c U2 0),some (6,false)⟩,⟨some 9,.call 135 [8],some (6,false)⟩,⟨some 10,.un .not 9,some (6,false)⟩,w 11 (.pick 6 (.c .bool true) 10)])) (.out [0,2] (.cond (.t 11) (.seq (.out [2] (.aa [] [w 2 (.ab (.c U2 0))])) .ret) .skip))) (.seq (.out [0,3] (.aa [0] [w 3 (.ab (.c U2 1))])) xP)))
def Cg:AC:=xQ
def d115:FD:={nargs:=1,body:=Cg,res:=[.t 2]}
def Nh:AC:=(.seq (.out [0] (.aa [0] [w 2 (.ab (.c .bool false))])) (.seq (.out [2] (.aa [0] [m 3 0,w 4 (.bin .neq 3 (.c .str [])),m 5 4,⟨some 6,.mv 0,some (5,true)⟩,⟨some 7,.bO 6,some (5,true)⟩,⟨some 8,.bin .leq 7 (.c U2 20),some (5,true)⟩,w 9 (.pick 5 8 (.c .bool false)),m 10 9,⟨some 11,.mv 0,some (10,true)⟩,⟨some 12,.call 115 [11],some (10,true)⟩,⟨some 13,.mv 0,some (10,true)⟩,⟨some 14,.bO 13,some (10,true)⟩,⟨some 15,.bin .eql 12 14,some (10,true)⟩,w 16 (.pick 10 15 (.c .bool false)),w 2 (.ab 16)])) .ret))
def EM:AC:=Nh
def d90:FD:={nargs:=1,body:=EM,res:=[.t 2]}
def JS:AC:=.out [0,3] (.aa [0] [w 3 (.ab (.c U2 0))])
def Cd:AC:=(.seq (.seq (.out [0,3,11] (.aa [0,3] [m 10 3,w 11 (.bin .lss 10 (.c U2 15))])) (.out [0,3] (.cond (.t 11) .skip (.exit 0)))) (.seq (.out [0,2,3] (.block 1 (.seq (.out [0,3,17] (.aa [0,3] [m 14 3,w 15 (.dE (.c .str [32,46,44,59,58,33,63,34,45,91,93,60,62,123,125]) 14),m 16 0,w 17 (.bin .eql 15 16)])) (.out [0,2,3] (.cond (.t 17) (.seq (.out [2] (.aa [] [w 2 (.ab (.c .bool false))])) .ret) .skip))))) (.out [0,3] (.aa [0,3] [m 12 3,w 13 (.bin .add 12 (.c U2 1)),w 3 (.ab 13)]))))
def Ce:AC:=.out [2] (.loop [0,3] Cd)
def JT:AC:=.out [2] (.block 0 Ce)
def JU:AC:=(.seq JS JT)
def JV:AC:=(.seq (.out [2] (.aa [] [w 2 (.ab (.c .bool true))])) .ret)
def xN:AC:=(.seq JU JV)
def xO:AC:=(.seq (.out [0] (.aa [0] [w 2 (.ab (.c .bool false))])) (.seq (.seq (.out [0,9] (.aa [0] [m 4 0,w 5 (.bin .lss 4 (.c U0 32)),m 6 5,⟨some 7,.mv 0,some (6,false)⟩,⟨some 8,.bin .gtr 7 (.c U0 126),some (6,false)⟩,w 9 (.pick 6 (.c .bool true) 8)])) (.out [0,2] (.cond (.t 9) (.seq (.out [2] (.aa [] [w 2 (.ab (.c .bool false))])) .ret) .skip))) xN))
def Cc:AC:=xO
def d111:FD:={nargs:=1,body:=Cc,res:=[.t 2]}
def JZ:AC:=.out [0,3] (.aa [0] [w 3 (.ab (.c U2 0))])
def Cl:AC:=(.seq (.seq (.out [0,3,12] (.aa [0,3] [m 9 3,m 10 0,w 11 (.bO 10),w 12 (.bin .lss 9 11)])) (.out [0,3] (.cond (.t 12) .skip (.exit 0)))) (.seq (.out [0,2,3] (.block 1 (.seq (.out [0,3,31] (.aa [0,3] [m 15 0,m 16 3,w 17 (.dE 15 16),w 18 (.call 111 [17]),w 19 (.un .not 18),m 20 19,⟨some 21,.mv 0,some (20,false)⟩,⟨some 22,.mv 3,some (20,false)⟩,⟨some 23,.dE 21 22,some (20,false)⟩,⟨some 24,.bin .geq 23 (.c U0 65),some (20,false)⟩,⟨some 25,.mv 24,some (20,false)⟩,⟨some 26,.mv 0,some (25,true)⟩,⟨some 27,.mv 3,some (25,true)⟩,⟨some 28,.dE 26 27,some (25,true)⟩,⟨some 29,.bin .leq 28 (.c U0 90),some (25,true)⟩,⟨some 30,.pick 25 29 (.c .bool false),some (20,false)⟩,w 31 (.pick 20 (.c .bool true) 30)])) (.out [0,2,3] (.cond (.t 31) (.seq (.out [2] (.aa [] [w 2 (.ab (.c U2 2))])) .ret) .skip))))) (.out [0,3] (.aa [0,3] [m 13 3,w 14 (.bin .add 13 (.c U2 1)),w 3 (.ab 14)]))))
def Cm:AC:=.out [2] (.loop [0,3] Cl)
def J0:AC:=.out [2] (.block 0 Cm)
def J1:AC:=(.seq JZ J0)
def J2:AC:=(.seq (.out [2] (.aa [] [w 2 (.ab (.c U2 0))])) .ret)
def xR:AC:=(.seq J1 J2)
def xS:AC:=(.seq (.out [0] (.aa [0] [w 2 (.ab (.c U2 0))])) (.seq (.seq (.out [0,5] (.aa [0] [m 4 0,w 5 (.bin .eql 4 (.c .str []))])) (.out [0,2] (.cond (.t 5) (.seq (.out [2] (.aa [] [w 2 (.ab (.c U2 7))])) .ret) .skip))) (.seq (.seq (.out [0,8] (.aa [0] [m 6 0,w 7 (.bO 6),w 8 (.bin .gtr 7 (.c U2 4))])) (.out [0,2] (.cond (.t 8) (.seq (.out [2] (.aa [] [w 2 (.ab (.c U2 3))])) .ret) .skip))) xR)))
def Ck:AC:=xS
def d116:FD:={nargs:=1,body:=Ck,res:=[.t 2]}
def Ni:AC:=.out [1,4] (.aa [1] [w 4 (.ab (.c U2 0))])
def EO:AC:=(.seq (.seq (.out [1,4,24] (.aa [1,4] [m 20 4,w 21 (.fieldAddr aG [.r,.l] 1),w 22 (.load bD 21),w 23 (.ba 22),w 24 (.bin .lss 20 23)])) (.out [1,4] (.cond (.t 24) .skip (.exit 0)))) (.seq (.out [1,2,4] (.block 1 (.seq (.out [1,4,5] (.aa [1,4] [w 27 (.fieldAddr aG [.r,.l] 1),w 28 (.load bD 27),m 29 4,w 30 (.indexAddr aA 28 29),w 31 (.load aA 30),w 32 (.call 117 [31]),w 5 (.ab 32)])) (.seq (.out [1,4,5,34] (.aa [1,4,5] [m 33 5,w 34 (.bin .neq 33 (.c U2 0))])) (.out [1,2,4] (.cond (.t 34) (.seq (.out [2] (.aa [5] [m 35 5,w 2 (.ab 35)])) .ret) .skip)))))) (.out [1,4] (.aa [1,4] [m 25 4,w 26 (.bin .add 25 (.c U2 1)),w 4 (.ab 26)]))))
def EP:AC:=.out [1,2] (.loop [1,4] EO)
def Nj:AC:=.out [1,2] (.block 0 EP)
def Nk:AC:=(.seq Ni Nj)
def Nl:AC:=(.seq (.seq (.out [53] (.aa [1] [w 36 (.fieldAddr aG [.r,.r,.l] 1),w 37 (.load U2 36),w 38 (.bin .lss 37 (.c U2 0)),m 39 38,⟨some 40,.fieldAddr aG [.r,.r,.l] 1,some (39,false)⟩,⟨some 41,.load U2 40,some (39,false)⟩,⟨some 42,.bin .gtr 41 (.c U2 99),some (39,false)⟩,w 43 (.pick 39 (.c .bool true) 42),m 44 43,⟨some 45,.fieldAddr aG [.r,.r,.r,.l] 1,some (44,false)⟩,⟨some 46,.load U2 45,some (44,false)⟩,⟨some 47,.bin .lss 46 (.c U2 0),some (44,false)⟩,w 48 (.pick 44 (.c .bool true) 47),m 49 48,⟨some 50,.fieldAddr aG [.r,.r,.r,.l] 1,some (49,false)⟩,⟨some 51,.load U2 50,some (49,false)⟩,⟨some 52,.bin .gtr 51 (.c U2 4),some (49,false)⟩,w 53 (.pick 49 (.c .bool true) 52)])) (.out [2] (.cond (.t 53) (.seq (.out [2] (.aa [] [w 2 (.ab (.c U2 6))])) .ret) .skip))) (.seq (.out [2] (.aa [] [w 2 (.ab (.c U2 0))])) .ret))
def zg:AC:=(.seq Nk Nl)
def zh:AC:=(.seq (.out [1] (.aa [0] [w 1 (.box aG 0),w 2 (.ab (.c U2 0))])) (.seq (.seq (.out [1,3] (.aa [1] [w 6 (.fieldAddr aG [.l] 1),w 7 (.load .str 6),w 8 (.call 116 [7]),w 3 (.ab 8)])) (.seq (.out [1,3,10] (.aa [1,3] [m 9 3,w 10 (.bin .neq 9 (.c U2 0))])) (.out [1,2] (.cond (.t 10) (.seq (.out [2] (.aa [3] [m 11 3,w 2 (.ab 11)])) .ret) .skip)))) (.seq (.seq (.out [1,15] (.aa [1] [w 12 (.fieldAddr aG [.r,.l] 1),w 13 (.load bD 12),w 14 (.ba 13),w 15 (.bin .eql 14 (.c U2 0))])) (.out [1,2] (.cond (.t 15) (.seq (.out [2] (.aa [] [w 2 (.ab (.c U2 7))])) .ret) .skip))) (.seq (.seq (.out [1,19] (.aa [1] [w 16 (.fieldAddr aG [.r,.l] 1),w 17 (.load bD 16),w 18 (.ba 17),w 19 (.bin .gtr 18 (.c U2 2))])) (.out [1,2] (.cond (.t 19) (.seq (.out [2] (.aa [] [w 2 (.ab (.c U2 3))])) .ret) .skip))) zg))))
def EN:AC:=zh
def d91:FD:={nargs:=1,body:=EN,res:=[.t 2]}
def Nf:AC:=(.seq (.out [0,1] (.aa [0,1] [w 4 (.ab (.c U2 0))])) (.seq (.seq (.out [0,1,7] (.aa [0,1] [m 5 0,m 6 1,w 7 (.bin .lss 5 6)])) (.out [0,1,4] (.cond (.t 7) (.seq (.out [4] (.aa [] [w 4 (.ab (.c U2 (-1)))])) .ret) .skip))) (.seq (.seq (.out [10] (.aa [0,1] [m 8 0,m 9 1,w 10 (.bin .gtr 8 9)])) (.out [4] (.cond (.t 10) (.seq (.out [4] (.aa [] [w 4 (.ab (.c U2 1))])) .ret) .skip))) (.seq (.out [4] (.aa [] [w 4 (.ab (.c U2 0))])) .ret))))
def EK:AC:=Nf
def d86:FD:={nargs:=2,body:=EK,res:=[.t 4]}
def Mv:AC:=(.seq (.out [2,3] (.aa [0,1] [w 2 (.box aA 0),w 3 (.box aA 1),w 4 (.ab (.c U2 0))])) (.seq (.seq (.out [2,3,5] (.aa [2,3] [w 7 (.fieldAddr aA [.l] 2),w 8 (.load U2 7),w 9 (.fieldAddr aA [.l] 3),w 10 (.load U2 9),w 11 (.call 86 [8,10]),w 5 (.ab 11)])) (.seq (.out [2,3,5,13] (.aa [2,3,5] [m 12 5,w 13 (.bin .neq 12 (.c U2 0))])) (.out [2,3,4] (.cond (.t 13) (.seq (.out [4] (.aa [5] [m 14 5,w 4 (.ab 14)])) .ret) .skip)))) (.seq (.seq (.out [2,3,6] (.aa [2,3] [w 15 (.fieldAddr aA [.r,.l] 2),w 16 (.load U2 15),w 17 (.fieldAddr aA [.r,.l] 3),w 18 (.load U2 17),w 19 (.call 86 [16,18]),w 6 (.ab 19)])) (.seq (.out [2,3,6,21] (.aa [2,3,6] [m 20 6,w 21 (.bin .neq 20 (.c U2 0))])) (.out [2,3,4] (.cond (.t 21) (.seq (.out [4] (.aa [6] [m 22 6,w 4 (.ab 22)])) .ret) .skip)))) (.seq (.seq (.out [2,3,27] (.aa [2,3] [w 23 (.fieldAddr aA [.r,.r,.l] 2),w 24 (.load .str 23),w 25 (.fieldAddr aA [.r,.r,.l] 3),w 26 (.load .str 25),w 27 (.bin .lss 24 26)])) (.out [2,3,4] (.cond (.t 27) (.seq (.out [4] (.aa [] [w 4 (.ab (.c U2 (-1)))])) .ret) .skip))) (.seq (.seq (.out [32] (.aa [2,3] [w 28 (.fieldAddr aA [.r,.r,.l] 2),w 29 (.load .str 28),w 30 (.fieldAddr aA [.r,.r,.l] 3),w 31 (.load .str 30),w 32 (.bin .gtr 29 31)])) (.out [4] (.cond (.t 32) (.seq (.out [4] (.aa [] [w 4 (.ab (.c U2 1))])) .ret) .skip))) (.seq (.out [4] (.aa [] [w 4 (.ab (.c U2 0))])) .ret))))))
def Ek:AC:=Mv
def d59:FD:={nargs:=2,body:=Ek,res:=[.t 4]}
def LP:AC:=.out [0,1,5] (.aa [0,1] [w 5 (.ab (.c U2 0))])
def DN:AC:=(.seq (.seq (.out [0,1,5,14] (.aa [0,1,5] [m 11 5,m 12 0,w 13 (.ba 12),w 14 (.bin .lss 11 13)])) (.out [0,1,5] (.cond (.t 14) .skip (.exit 0)))) (.seq (.out [0,1,4,5] (.block 1 (.seq (.out [0,1,5,26] (.draw [0,1,5] [⟨m 17 0,[18,21,22,23,24],[17],[],false,[]⟩,⟨m 18 5,[17,21,22,23,24],[18],[],false,[]⟩,⟨w 19 (.indexAddr aA 17 18),[21,22,23,24],[19],[0,1],false,[]⟩,⟨w 20 (.load aA 19),[21,22,23,24],[20],[0,1,2],false,[]⟩,⟨m 21 1,[17,18,19,20,22],[21],[],false,[]⟩,⟨m 22 5,[17,18,19,20,21],[22],[],false,[]⟩,⟨w 23 (.indexAddr aA 21 22),[17,18,19,20],[23],[4,5],false,[]⟩,⟨w 24 (.load aA 23),[17,18,19,20],[24],[4,5,6],false,[]⟩,⟨w 25 (.call 59 [20,24]),[],[25],[0,1,2,3,4,5,6,7],false,[]⟩,⟨w 26 (.bin .neq 25 (.c U2 0)),[],[26],[0,1,2,3,4,5,6,7,8],false,[]⟩])) (.out [0,1,4,5] (.cond (.t 26) (.seq (.out [4] (.aa [] [w 4 (.ab (.c .bool false))])) .ret) .skip))))) (.out [0,1,5] (.aa [0,1,5] [m 15 5,w 16 (.bin .add 15 (.c U2 1)),w 5 (.ab 16)]))))
def DO:AC:=.out [4] (.loop [0,1,5] DN)
def LQ:AC:=.out [4] (.block 0 DO)
def LR:AC:=(.seq LP LQ)
def LS:AC:=(.seq (.out [4] (.aa [] [w 4 (.ab (.c .bool true))])) .ret)
def yF:AC:=(.seq LR LS)
def yG:AC:=(.seq (.out [0,1] (.aa [0,1] [w 4 (.ab (.c .bool false))])) (.seq (.seq (.out [0,1,10] (.aa [0,1] [m 6 0,w 7 (.ba 6),m 8 1,w 9 (.ba 8),w 10 (.bin .neq 7 9)])) (.out [0,1,4] (.cond (.t 10) (.seq (.out [4] (.aa [] [w 4 (.ab (.c .bool false))])) .ret) .skip))) yF))
def DM:AC:=yG
def d28:FD:={nargs:=2,body:=DM,res:=[.t 4]}
def MC:AC:=.out [1,4] (.aa [1] [w 4 (.ab (.c U2 0))])
def Eo:AC:=(.seq (.seq (.out [1,4,6,40] (.aa [1,4,6] [m 38 6,m 39 4,w 40 (.bin .lss 38 39)])) (.out [1,4,6] (.cond (.t 40) .skip (.exit 2)))) (.seq (.out [1,2,3,4,6] (.block 3 (.seq (.out [1,4,6,7,8] (.draw [1,4,6] [⟨w 43 (.fieldAddr az [.r,.l] 1),[7,8,45,48,49,50,51,52],[43],[],false,[]⟩,⟨w 44 (.load dT 43),[7,8,45,48,49,50,51,52],[44],[0],false,[]⟩,⟨m 45 4,[7,8,43,44,48,49,50,51,52],[45],[],false,[]⟩,⟨w 46 (.indexAddr aG 44 45),[7,8,48,49,50,51,52],[46],[0,1,2],false,[]⟩,⟨w 47 (.load aG 46),[7,8,48,49,50,51,52],[47],[0,1,2,3],false,[]⟩,⟨w 48 (.fieldAddr az [.r,.l] 1),[7,8,43,44,45,46,47,50],[48],[],false,[]⟩,⟨w 49 (.load dT 48),[7,8,43,44,45,46,47,50],[49],[5],false,[]⟩,⟨m 50 6,[7,8,43,44,45,46,47,48,49],[50],[],false,[]⟩,⟨w 51 (.indexAddr aG 49 50),[7,8,43,44,45,46,47],[51],[5,6,7],false,[]⟩,⟨w 52 (.load aG 51),[7,8,43,44,45,46,47],[52],[5,6,7,8],false,[]⟩,⟨w 7 (.alloc aG .no),[8,43,44,45,46,47,48,49,50,51,52],[7],[],false,[]⟩,⟨w 8 (.alloc aG (.pair .no (.pair (.own true 40 .no) (.pair .no (.pair .no .no))))),[7,43,44,45,46,47,48,49,50,51,52],[8],[],false,[]⟩,⟨⟨none,.store aG 7 47,none⟩,[48,49,50,51,52],[7],[0,1,2,3,4,10,11],false,[]⟩,⟨⟨none,.store aG 8 52,none⟩,[],[8],[0,1,2,3,4,5,6,7,8,9,10,11,12],true,[]⟩])) (.seq (.out [1,4,6,71] (.aa [1,4,6,7,8] [w 53 (.fieldAddr aG [.l] 7),w 54 (.load .str 53),w 55 (.fieldAddr aG [.l] 8),w 56 (.load .str 55),w 57 (.bin .eql 54 56),m 58 57,⟨some 59,.fieldAddr aG [.r,.r,.r,.l] 7,some (58,true)⟩,⟨some 60,.load U2 59,some (58,true)⟩,⟨some 61,.fieldAddr aG [.r,.r,.r,.l] 8,some (58,true)⟩,⟨some 62,.load U2 61,some (58,true)⟩,⟨some 63,.bin .eql 60 62,some (58,true)⟩,w 64 (.pick 58 63 (.c .bool false)),m 65 64,⟨some 66,.fieldAddr aG [.r,.l] 7,some (65,true)⟩,⟨some 67,.load bD 66,some (65,true)⟩,⟨some 68,.fieldAddr aG [.r,.l] 8,some (65,true)⟩,⟨some 69,.load bD 68,some (65,true)⟩,⟨some 70,.call 28 [67,69],some (65,true)⟩,w 71 (.pick 65 70 (.c .bool false))])) (.out [1,2,3,4,6] (.cond (.t 71) (.seq (.out [2,3] (.aa [4] [m 72 4,w 2 (.ab 72),w 3 (.ab (.c U2 5))])) .ret) .skip)))))) (.out [1,4,6] (.aa [1,4,6] [m 41 6,w 42 (.bin .add 41 (.c U2 1)),w 6 (.ab 42)]))))
def Ep:AC:=.out [1,2,3,4] (.loop [1,4,6] Eo)
def yX:AC:=.out [1,2,3,4] (.block 2 Ep)
def Er:AC:=(.seq (.seq (.out [1,4,5] (.aa [1,4] [w 28 (.fieldAddr az [.r,.l] 1),w 29 (.load dT 28),m 30 4,w 31 (.indexAddr aG 29 30),w 32 (.load aG 31),w 33 (.call 91 [32]),w 5 (.ab 33)])) (.seq (.out [1,4,5,35] (.aa [1,4,5] [m 34 5,w 35 (.bin .neq 34 (.c U2 0))])) (.out [1,2,3,4] (.cond (.t 35) (.seq (.out [2,3] (.aa [4,5] [m 36 4,m 37 5,w 2 (.ab 36),w 3 (.ab 37)])) .ret) .skip)))) (.seq (.out [1,4,6] (.aa [1,4] [w 6 (.ab (.c U2 0))])) yX))
def MG:AC:=.out [1,2,3,4] (.block 1 Er)
def MH:AC:=.out [1,4] (.aa [1,4] [m 26 4,w 27 (.bin .add 26 (.c U2 1)),w 4 (.ab 27)])
def yY:AC:=(.seq MG MH)
def s6:AC:=(.seq (.seq (.out [1,4,25] (.aa [1,4] [m 21 4,w 22 (.fieldAddr az [.r,.l] 1),w 23 (.load dT 22),w 24 (.ba 23),w 25 (.bin .lss 21 24)])) (.out [1,4] (.cond (.t 25) .skip (.exit 0)))) yY)
def Es:AC:=.out [2,3] (.loop [1,4] s6)
def MD:AC:=.out [2,3] (.block 0 Es)
def ME:AC:=(.seq MC MD)
def MF:AC:=(.seq (.out [2,3] (.aa [] [w 2 (.ab (.c U2 (-1))),w 3 (.ab (.c U2 0))])) .ret)
def yV:AC:=(.seq ME MF)
def yW:AC:=(.seq (.out [1] (.aa [0] [w 1 (.box az 0),w 2 (.ab (.c U2 0)),w 3 (.ab (.c U2 0))])) (.seq (.seq (.out [1,12] (.aa [1] [w 9 (.fieldAddr az [.l] 1),w 10 (.load .str 9),w 11 (.call 90 [10]),w 12 (.un .not 11)])) (.out [1,2,3] (.cond (.t 12) (.seq (.out [2,3] (.aa [] [w 2 (.ab (.c U2 (-1))),w 3 (.ab (.c U2 2))])) .ret) .skip))) (.seq (.seq (.out [1,16] (.aa [1] [w 13 (.fieldAddr az [.r,.l] 1),w 14 (.load dT 13),w 15 (.ba 14),w 16 (.bin .eql 15 (.c U2 0))])) (.out [1,2,3] (.cond (.t 16) (.seq (.out [2,3] (.aa [] [w 2 (.ab (.c U2 (-1))),w 3 (.ab (.c U2 7))])) .ret) .skip))) (.seq (.seq (.out [1,20] (.aa [1] [w 17 (.fieldAddr az [.r,.l] 1),w 18 (.load dT 17),w 19 (.ba 18),w 20 (.bin .gtr 19 (.c U2 120))])) (.out [1,2,3] (.cond (.t 20) (.seq (.out [2,3] (.aa [] [w 2 (.ab (.c U2 (-1))),w 3 (.ab (.c U2 3))])) .ret) .skip))) yV))))
def En:AC:=yW
def d67:FD:={nargs:=1,body:=En,res:=[.t 2,.t 3]}
def MI:AC:=.out [0,2,5,6,7] (.aa [0,2,5,6] [w 7 (.ab (.c U2 0))])
def MJ:AC:=(.seq (.out [0,2,5,6,7,28] (.aa [0,2,5,6,7] [m 25 7,m 26 5,w 27 (.ba 26),w 28 (.bin .lss 25 27)])) (.out [0,2,5,6,7] (.cond (.t 28) .skip (.exit 0))))
def MN:AC:=.out [0,2,5,6,7,8] (.aa [0,2,5,6,7] [m 31 7,m 32 5,w 33 (.ba 32),w 34 (.bin .sub 33 (.c U2 1)),w 35 (.bin .eql 31 34),m 36 35,⟨some 37,.mv 0,some (36,true)⟩,⟨some 38,.mv 0,some (36,true)⟩,⟨some 39,.bO 38,some (36,true)⟩,⟨some 40,.bin .sub 39 (.c U2 1),some (36,true)⟩,⟨some 41,.dE 37 40,some (36,true)⟩,⟨some 42,.bin .neq 41 (.c U0 10),some (36,true)⟩,w 43 (.pick 36 42 (.c .bool false)),w 8 (.ab 43)])
def MO:AC:=(.seq (.out [0,2,5,6,7,8,9] (.aa [0,2,5,6,7,8] [m 44 5,m 45 7,w 46 (.indexAddr .str 44 45),w 47 (.load .str 46),w 48 (.call 93 [47]),w 9 (.ab 48)])) (.seq (.out [0,2,5,6,7,8,9,10,11] (.aa [0,2,5,6,7,8,9] [m 50 5,m 51 7,w 52 (.indexAddr .str 50 51),w 53 (.load .str 52),w 54 (.call 94 [53]),m 49 54,w 55 (.extract 49 0),w 56 (.extract 49 1),w 10 (.alloc aG (.pair .no (.pair (.own true 40 .no) (.pair .no (.pair .no .no))))),⟨none,.store aG 10 55,none⟩,w 11 (.ab 56)])) (.seq (.seq (.out [0,2,5,6,7,8,9,10,11,58] (.aa [0,2,5,6,7,8,9,10,11] [m 57 7,w 58 (.bin .eql 57 (.c U2 0))])) (.out [0,2,5,6,7,8,9,10,11] (.cond (.t 58) (.out [0,2,5,6,7,8,9,10,11] (.aa [0,2,5,6,7,8,9,10] [m 59 9,w 60 (.ba 59),w 61 (.bin .eql 60 (.c U2 2)),m 62 61,⟨some 63,.mv 9,some (62,true)⟩,⟨some 64,.indexAddr .str 63 (.c U2 0),some (62,true)⟩,⟨some 65,.load .str 64,some (62,true)⟩,⟨some 66,.bin .eql 65 (.c .str [111,114,116,104,111,103,114,97,112,104,121]),some (62,true)⟩,w 67 (.pick 62 66 (.c .bool false)),w 11 (.ab 67)])) .skip))) (.seq (.seq (.out [0,2,5,6,7,9,10,72] (.aa [0,2,5,6,7,8,9,10,11] [m 68 8,m 69 68,⟨some 70,.mv 11,some (69,false)⟩,⟨some 71,.un .not 70,some (69,false)⟩,w 72 (.pick 69 (.c .bool true) 71)])) (.out [0,2,3,4,5,6,7,9,10] (.cond (.t 72) (.seq (.out [2,3,4] (.aa [2,7] [w 73 (.jH az (.pair .no (.pair (.own true 43 .no) .no)) []),m 74 7,w 75 (.bin .add 74 (.c U2 1)),⟨none,.store az 2 73,none⟩,w 3 (.ab 75),w 4 (.ab (.c U2 2))])) .ret) .skip))) (.seq (.out [0,2,5,6,7,9,10,77] (.aa [0,2,5,6,7,9,10] [m 76 7,w 77 (.bin .eql 76 (.c U2 0))])) (.out [0,2,5,6,7] (.cond (.t 77) (.out [0,2,5,6,7] (.aa [0,2,5,6,7,9] [m 78 9,w 79 (.indexAddr .str 78 (.c U2 1)),w 80 (.load .str 79),w 81 (.fieldAddr az [.l] 6),⟨none,.store .str 81 80,none⟩])) (.out [0,2,5,6,7] (.aa [0,2,5,6,7,10] [w 82 (.fieldAddr az [.r,.l] 6),w 83 (.load dT 82),w 84 (.load aG 10),w 85 (.buildSlice 43 aG [84]),w 86 (.append 43 aG 2513169434916 83 85),w 87 (.fieldAddr az [.r,.l] 6),⟨none,.store dT 87 86,none⟩])))))))))
def MP:AC:=(.seq MN MO)
def MQ:AC:=.out [0,2,3,4,5,6,7] (.block 1 MP)
def MR:AC:=.out [0,2,5,6,7] (.aa [0,2,5,6,7] [m 29 7,w 30 (.bin .add 29 (.c U2 1)),w 7 (.ab 30)])
def MS:AC:=(.seq MQ MR)
def zb:AC:=(.seq MJ MS)
def Eu:AC:=.out [2,3,4,6] (.loop [0,2,5,6,7] zb)
def MK:AC:=.out [2,3,4,6] (.block 0 Eu)
def ML:AC:=(.seq MI MK)
def MM:AC:=(.seq (.seq (.out [2,6,12,13] (.aa [2,6] [w 89 (.load az 6),w 90 (.call 67 [89]),m 88 90,w 91 (.extract 88 0),w 92 (.extract 88 1),w 12 (.ab 91),w 13 (.ab 92)])) (.seq (.out [2,6,12,13,94] (.aa [2,6,12,13] [m 93 13,w 94 (.bin .neq 93 (.c U2 0))])) (.out [2,3,4,6] (.cond (.t 94) (.seq (.out [2,12,13,14] (.aa [2,12,13] [w 14 (.ab (.c U2 1))])) (.seq (.seq (.out [2,12,13,14,96] (.aa [2,12,13,14] [m 95 12,w 96 (.bin .geq 95 (.c U2 0))])) (.out [2,13,14] (.cond (.t 96) (.out [2,13,14] (.aa [2,12,13] [m 97 12,w 98 (.bin .add 97 (.c U2 2)),w 14 (.ab 98)])) .skip))) (.seq (.out [2,3,4] (.aa [2,13,14] [w 99 (.jH az (.pair .no (.pair (.own true 43 .no) .no)) []),m 100 14,m 101 13,⟨none,.store az 2 99,none⟩,w 3 (.ab 100),w 4 (.ab 101)])) .ret))) .skip)))) (.seq (.out [2,3,4] (.aa [2,6] [w 102 (.load az 6),⟨none,.store az 2 102,none⟩,w 3 (.ab (.c U2 0)),w 4 (.ab (.c U2 0))])) .ret))
def yZ:AC:=(.seq ML MM)
def za:AC:=(.seq (.out [0,2] (.aa [0] [w 2 (.alloc az (.pair .no (.pair (.own true 43 .no) .no))),w 3 (.ab (.c U2 0)),w 4 (.ab (.c U2 0))])) (.seq (.seq (.out [0,2,17] (.aa [0,2] [m 15 0,w 16 (.bO 15),w 17 (.bin .gtr 16 (.c U2 20000))])) (.out [0,2,3,4] (.cond (.t 17) (.seq (.out [2,3,4] (.aa [2] [w 18 (.jH az (.pair .no (.pair (.own true 43 .no) .no)) []),⟨none,.store az 2 18,none⟩,w 3 (.ab (.c U2 0)),w 4 (.ab (.c U2 3))])) .ret) .skip))) (.seq (.out [0,2,5] (.aa [0,2] [m 19 0,w 20 (.call 92 [19]),w 5 (.ab 20)])) (.seq (.seq (.out [0,2,5,23] (.aa [0,2,5] [m 21 5,w 22 (.ba 21),w 23 (.bin .eql 22 (.c U2 0))])) (.out [0,2,3,4,5] (.cond (.t 23) (.seq (.out [2,3,4] (.aa [2] [w 24 (.jH az (.pair .no (.pair (.own true 43 .no) .no)) []),⟨none,.store az 2 24,none⟩,w 3 (.ab (.c U2 1)),w 4 (.ab (.c U2 2))])) .ret) .skip))) (.seq (.out [0,2,5,6] (.aa [0,2,5] [w 6 (.alloc az (.pair .no (.pair (.own true 43 .no) .no)))])) yZ)))))
def Et:AC:=za
def d69:FD:={nargs:=1,body:=Et,res:=[.cell 2 az,.t 3,.t 4]}
def LU:AC:=(.seq (.out [0] (.aa [] [w 0 (.alloc az (.pair .no (.pair (.own true 43 .no) .no)))])) (.seq (.out [0,1] (.aa [0] [w 5 (.call 69 [(.c .str [111,114,116,104,111,103,114,97,112,104,121,32,108,97,116,105,110,10,97,32,97,47,118,51,32,49,32,97,110,121,119,104,101,114,101,10,101,32,101,47,118,51,32,49,32,97,110,121,119,104,101,114,101,10,105,32,105,47,118,51,32,49,32,97,110,121,119,104,101,114,101,10,111,32,111,47,118,51,32,49,32,97,110,121,119,104,101,114,101,10,117,32,117,47,118,51,32,49,32,97,110,121,119,104,101,114,101,10,121,32,121,47,118,51,32,49,32,97,110,121,119,104,101,114,101,10,97,95,32,97,95,47,118,50,32,49,32,97,110,121,119,104,101,114,101,10,101,95,32,101,95,47,118,50,32,49,32,97,110,121,119,104,101,114,101,10,105,95,32,105,95,47,118,50,32,49,32,97,110,121,119,104,101,114,101,10,111,95,32,111,95,47,118,50,32,49,32,97,110,121,119,104,101,114,101,10,117,95,32,117,95,47,118,50,32,49,32,97,110,121,119,104,101,114,101,10,121,95,32,121,95,47,118,50,32,49,32,97,110,121,119,104,101,114,101,10,97,94,32,97,94,47,118,49,32,49,32,97,110,121,119,104,101,114,101,10,101,94,32,101,94,47,118,49,32,49,32,97,110,121,119,104,101,114,101,10,105,94,32,105,94,47,118,49,32,49,32,97,110,121,119,104,101,114,101,10,111,94,32,111,94,47,118,49,32,49,32,97,110,121,119,104,101,114,101,10,117,94,32,117,94,47,118,49,32,49,32,97,110,121,119,104,101,114,101,10,121,94,32,121,94,47,118,49,32,49,32,97,110,121,119,104,101,114,101,10,97,101,32,97,101,47,100,50,32,49,32,97,110,121,119,104,101,114,101,10,97,117,32,97,117,47,100,50,32,49,32,97,110,121,119,104,101,114,101,10,111,101,32,111,101,47,100,50,32,49,32,97,110,121,119,104,101,114,101,10,101,117,32,101,117,47,100,50,32,51,32,97,110,121,119,104,101,114,101,10,105,32,105,47,103,32,48,32,115,116,97,114,116,10,105,32,105,47,103,32,105,47,103,32,48,32,98,101,116,119,101,101,110,10,117,32,117,47,103,32,48,32,115,116,97,114,116,10,117,32,117,47,103,32,48,32,98,101,116,119,101,101,110,10,106,32,106,47,103,32,48,32,97,110,121,119,104,101,114,101,10,118,32,118,47,103,32,48,32,97,110,121,119,104,101,114,101,10,113,117,32,113,117,47,109,32,48,32,98,101,102,111,114,101,10,103,117,32,103,117,47,109,32,50,32,98,101,102,111,114,101,10,115,117,32,115,47,115,32,117,47,103,32,51,32,98,101,102,111,114,101,10,98,32,98,47,109,32,48,32,97,110,121,119,104,101,114,101,10,99,32,99,47,109,32,48,32,97,110,121,119,104,101,114,101,10,100,32,100,47,109,32,48,32,97,110,121,119,104,101,114,101,10,102,32,102,47,109,32,48,32,97,110,121,119,104,101,114,101,10,103,32,103,47,109,32,48,32,97,110,121,119,104,101,114,101,10,107,32,107,47,109,32,48,32,97,110,121,119,104,101,114,101,10,112,32,112,47,109,32,48,32,97,110,121,119,104,101,114,101,10,116,32,116,47,109,32,48,32,97,110,121,119,104,101,114,101,10,108,32,108,47,108,32,48,32,97,110,121,119,104,101,114,101,10,114,32,114,47,108,32,48,32,97,110,121,119,104,101,114,101,10,109,32,109,47,110,32,48,32,97,110,121,119,104,101,114,101,10,110,32,110,47,110,32,48,32,97,110,121,119,104,101,114,101,10,115,32,115,47,115,32,48,32,97,110,121,119,104,101,114,101,10,120,32,120,47,120,32,48,32,97,110,121,119,104,101,114,101,10,122,32,122,47,120,32,48,32,97,110,121,119,104,101,114,101,10,104,32,104,47,98,32,48,32,97,110,121,119,104,101,114,101,10])]),m 4 5,w 6 (.extract 4 0),w 7 (.extract 4 1),w 8 (.extract 4 2),w 1 (.alloc az (.pair .no (.pair (.own true 43 .no) .no))),⟨none,.store az 1 6,none⟩,w 2 (.ab 7),w 3 (.ab 8)])) (.seq (.out [0] (.aa [0,1] [w 9 (.load az 1),⟨none,.store az 0 9,none⟩])) .ret)))
def DP:AC:=LU
def d37:FD:={nargs:=0,body:=DP,res:=[.cell 0 az]}
def K1:AC:=(.seq (.out [0] (.aa [0] [w 2 (.ab (.c .bool false))])) (.seq (.out [2] (.aa [0] [m 3 0,w 4 (.bin .geq 3 (.c U0 97)),m 5 4,⟨some 6,.mv 0,some (5,true)⟩,⟨some 7,.bin .leq 6 (.c U0 122),some (5,true)⟩,w 8 (.pick 5 7 (.c .bool false)),w 2 (.ab 8)])) .ret))
def Db:AC:=K1
def d149:FD:={nargs:=1,body:=Db,res:=[.t 2]}
def K2:AC:=(.seq (.out [0] (.aa [0] [w 2 (.ab (.c .bool false))])) (.seq (.out [2] (.aa [0] [m 3 0,w 4 (.bin .geq 3 (.c U0 48)),m 5 4,⟨some 6,.mv 0,some (5,true)⟩,⟨some 7,.bin .leq 6 (.c U0 57),some (5,true)⟩,w 8 (.pick 5 7 (.c .bool false)),w 2 (.ab 8)])) .ret))
def Dd:AC:=K2
def d150:FD:={nargs:=1,body:=Dd,res:=[.t 2]}
def C2:AC:=(.seq (.seq (.out [0,3,16] (.aa [0,3] [m 13 3,m 14 0,w 15 (.bO 14),w 16 (.bin .lss 13 15)])) (.out [0,3] (.cond (.t 16) .skip (.exit 0)))) (.out [0,2,3] (.block 1 (.seq (.out [0,3,4] (.aa [0,3] [m 17 0,m 18 3,w 19 (.dE 17 18),w 4 (.ab 19)])) (.out [0,2,3] (.block 2 (.seq (.out [0,3,4,21] (.aa [0,3,4] [m 22 4,w 23 (.call 149 [22]),m 24 23,⟨some 25,.mv 4,some (24,false)⟩,⟨some 26,.call 150 [25],some (24,false)⟩,w 27 (.pick 24 (.c .bool true) 26),w 21 (.ab 27)])) (.out [0,2,3] (.cond (.t 21) (.out [0,3] (.aa [0,3] [m 28 3,w 29 (.bin .add 28 (.c U2 1)),w 3 (.ab 29)])) (.seq (.out [0,3,30] (.aa [0,3,4] [m 31 4,w 32 (.bin .eql 31 (.c U0 45)),m 33 32,⟨some 34,.mv 3,some (33,true)⟩,⟨some 35,.bin .add 34 (.c U2 1),some (33,true)⟩,⟨some 36,.mv 0,some (33,true)⟩,⟨some 37,.bO 36,some (33,true)⟩,⟨some 38,.bin .lss 35 37,some (33,true)⟩,w 39 (.pick 33 38 (.c .bool false)),m 40 39,⟨some 41,.mv 0,some (40,true)⟩,⟨some 42,.mv 3,some (40,true)⟩,⟨some 43,.bin .add 42 (.c U2 1),some (40,true)⟩,⟨some 44,.dE 41 43,some (40,true)⟩,⟨some 45,.call 149 [44],some (40,true)⟩,⟨some 46,.mv 45,some (40,true)⟩,⟨some 47,.mv 0,some (46,false)⟩,⟨some 48,.mv 3,some (46,false)⟩,⟨some 49,.bin .add 48 (.c U2 1),some (46,false)⟩,⟨some 50,.dE 47 49,some (46,false)⟩,⟨some 51,.call 150 [50],some (46,false)⟩,⟨some 52,.pick 46 (.c .bool true) 51,some (40,true)⟩,w 53 (.pick 40 52 (.c .bool false)),w 30 (.ab 53)])) (.out [0,2,3] (.cond (.t 30) (.out [0,3] (.aa [0,3] [m 54 3,w 55 (.bin .add 54 (.c U2 2)),w 3 (.ab 55)])) (.seq (.out [2] (.aa [3] [m 20 3,w 2 (.ab 20)])) .ret)))))))))))))
def C3:AC:=.out [2,3] (.loop [0,3] C2)
def KP:AC:=.out [2,3] (.block 0 C3)
def KQ:AC:=(.seq (.out [2] (.aa [3] [m 56 3,w 2 (.ab 56)])) .ret)
def yk:AC:=(.seq KP KQ)
def yl:AC:=(.seq (.out [0] (.aa [0] [w 2 (.ab (.c U2 0))])) (.seq (.seq (.out [0,12] (.aa [0] [m 5 0,w 6 (.bin .eql 5 (.c .str [])),m 7 6,⟨some 8,.mv 0,some (7,false)⟩,⟨some 9,.dE 8 (.c U2 0),some (7,false)⟩,⟨some 10,.call 149 [9],some (7,false)⟩,⟨some 11,.un .not 10,some (7,false)⟩,w 12 (.pick 7 (.c .bool true) 11)])) (.out [0,2] (.cond (.t 12) (.seq (.out [2] (.aa [] [w 2 (.ab (.c U2 0))])) .ret) .skip))) (.seq (.out [0,3] (.aa [0] [w 3 (.ab (.c U2 1))])) yk)))
def C1:AC:=yl
def d141:FD:={nargs:=1,body:=C1,res:=[.t 2]}
def Kh:AC:=(.seq (.out [0] (.aa [0] [w 2 (.ab (.c .bool false))])) (.seq (.out [2] (.aa [0] [m 3 0,w 4 (.bin .neq 3 (.c .str [])),m 5 4,⟨some 6,.mv 0,some (5,true)⟩,⟨some 7,.bO 6,some (5,true)⟩,⟨some 8,.bin .leq 7 (.c U2 20),some (5,true)⟩,w 9 (.pick 5 8 (.c .bool false)),m 10 9,⟨some 11,.mv 0,some (10,true)⟩,⟨some 12,.call 141 [11],some (10,true)⟩,⟨some 13,.mv 0,some (10,true)⟩,⟨some 14,.bO 13,some (10,true)⟩,⟨some 15,.bin .eql 12 14,some (10,true)⟩,w 16 (.pick 10 15 (.c .bool false)),w 2 (.ab 16)])) .ret))
def Cx:AC:=Kh
def d121:FD:={nargs:=1,body:=Cx,res:=[.t 2]}
def M1:AC:=.out [3,8,9,10] (.aa [3] [m 8 3,w 9 (.ba 8),w 10 (.mv (.c U2 0))])
def EC:AC:=(.seq (.out [3,8,9,10,11] (.aa [3,8,9,10] [w 11 (.bin .lss 10 9)])) (.seq (.out [3,8,9,10] (.cond (.t 11) .skip (.exit 0))) (.seq (.out [3,8,9,10] (.block 1 (.seq (.out [3,4,5,8,9,10] (.aa [3,8,9,10] [m 12 10,w 13 (.indexAddr U0 8 10),w 14 (.load U0 13),w 4 (.ab 12),w 5 (.ab 14)])) (.seq (.out [3,4,5,8,9,10,20] (.aa [3,4,5,8,9,10] [m 15 5,w 16 (.bin .geq 15 (.c U0 65)),m 17 16,⟨some 18,.mv 5,some (17,true)⟩,⟨some 19,.bin .leq 18 (.c U0 90),some (17,true)⟩,w 20 (.pick 17 19 (.c .bool false))])) (.out [3,8,9,10] (.cond (.t 20) (.out [3,8,9,10] (.aa [3,4,5,8,9,10] [m 21 3,m 22 4,m 23 5,w 24 (.bin .sub 23 (.c U0 65)),w 25 (.bin .add 24 (.c U0 97)),w 26 (.indexAddr U0 21 22),⟨none,.store U0 26 25,none⟩])) .skip)))))) (.out [3,8,9,10] (.aa [3,8,9,10] [w 27 (.bin .add 10 (.c U2 1)),m 10 27])))))
def ED:AC:=.out [3] (.loop [3,8,9,10] EC)
def M3:AC:=.out [3] (.block 0 ED)
def M4:AC:=(.seq M1 M3)
def M5:AC:=(.seq (.out [2] (.aa [3] [m 28 3,w 29 (.toStr 28),w 2 (.ab 29)])) .ret)
def zc:AC:=(.seq M4 M5)
def zd:AC:=(.seq (.out [0] (.aa [0] [w 2 (.ab (.c .str []))])) (.seq (.out [3] (.aa [0] [m 6 0,w 7 (.pB 6),w 3 (.ab 7)])) zc))
def EB:AC:=zd
def d72:FD:={nargs:=1,body:=EB,res:=[.t 2]}
def Lb:AC:=.out [9,10,11] (.aa [0] [m 8 0,w 9 (.pB 8),w 10 (.ba 9),w 11 (.mv (.c U2 0))])
def Dm:AC:=(.seq (.out [9,10,11,12] (.aa [9,10,11] [w 12 (.bin .lss 11 10)])) (.seq (.out [9,10,11] (.cond (.t 12) .skip (.exit 0))) (.seq (.out [2,9,10,11] (.block 1 (.seq (.out [4,9,10,11] (.aa [9,10,11] [w 13 (.indexAddr U0 9 11),w 14 (.load U0 13),w 4 (.ab 14)])) (.seq (.out [9,10,11,20] (.aa [4,9,10,11] [m 15 4,w 16 (.bin .lss 15 (.c U0 32)),m 17 16,⟨some 18,.mv 4,some (17,false)⟩,⟨some 19,.bin .gtr 18 (.c U0 126),some (17,false)⟩,w 20 (.pick 17 (.c .bool true) 19)])) (.out [2,9,10,11] (.cond (.t 20) (.seq (.out [2] (.aa [] [w 2 (.ab (.c U2 2))])) .ret) .skip)))))) (.out [9,10,11] (.aa [9,10,11] [w 21 (.bin .add 11 (.c U2 1)),m 11 21])))))
def Dn:AC:=.out [2] (.loop [9,10,11] Dm)
def Lc:AC:=.out [2] (.block 0 Dn)
def Ld:AC:=(.seq Lb Lc)
def Le:AC:=(.seq (.out [2] (.aa [] [w 2 (.ab (.c U2 0))])) .ret)
def yp:AC:=(.seq Ld Le)
def yq:AC:=(.seq (.out [0] (.aa [0] [w 2 (.ab (.c U2 0))])) (.seq (.seq (.out [0,7] (.aa [0] [m 5 0,w 6 (.bO 5),w 7 (.bin .gtr 6 (.c U2 120))])) (.out [0,2] (.cond (.t 7) (.seq (.out [2] (.aa [] [w 2 (.ab (.c U2 3))])) .ret) .skip))) yp))
def Dl:AC:=yq
def d158:FD:={nargs:=1,body:=Dl,res:=[.t 2]}
def Ky:AC:=(.seq (.out [0,1] (.aa [0,1] [w 4 (.ab (.c U2 0))])) (.seq (.out [4] (.aa [0,1] [m 5 0,m 6 1,w 7 (.call 145 [5,6]),w 4 (.ab 7)])) .ret))
def CK:AC:=Ky
def d127:FD:={nargs:=2,body:=CK,res:=[.t 4]}
def NJ:AC:=(.seq (.out [0] (.aa [0] [w 2 (.ab (.c .bool false))])) (.seq (.out [2] (.aa [0] [m 3 0,w 4 (.bin .geq 3 (.c U0 32)),m 5 4,⟨some 6,.mv 0,some (5,true)⟩,⟨some 7,.bin .leq 6 (.c U0 126),some (5,true)⟩,w 8 (.pick 5 7 (.c .bool false)),m 9 8,⟨some 10,.mv 0,some (9,true)⟩,⟨some 11,.call 127 [(.c .str [32,46,44,59,58,33,63,34,45,91,93,60,62,123,125]),10],some (9,true)⟩,⟨some 12,.bin .lss 11 (.c U2 0),some (9,true)⟩,w 13 (.pick 9 12 (.c .bool false)),w 2 (.ab 13)])) .ret))
def E8:AC:=NJ
def d98:FD:={nargs:=1,body:=E8,res:=[.t 2]}
def K3:AC:=.out [5,15,16,17] (.aa [0,5] [m 14 0,w 15 (.pB 14),w 16 (.ba 15),w 17 (.mv (.c U2 0))])
def Df:AC:=(.seq (.out [5,15,16,17,18] (.aa [5,15,16,17] [w 18 (.bin .lss 17 16)])) (.seq (.out [5,15,16,17] (.cond (.t 18) .skip (.exit 0))) (.seq (.out [5,15,16,17] (.block 1 (.seq (.out [5,6,7,15,16,17] (.aa [5,15,16,17] [m 19 17,w 20 (.indexAddr U0 15 17),w 21 (.load U0 20),w 6 (.ab 19),w 7 (.ab 21)])) (.seq (.out [5,6,7,8,15,16,17] (.aa [5,6,7,15,16,17] [m 22 5,w 23 (.ba 22),w 8 (.ab 23)])) (.out [5,15,16,17] (.block 2 (.seq (.out [5,6,8,15,16,17,31] (.aa [5,6,7,8,15,16,17] [m 32 7,w 33 (.call 98 [32]),w 34 (.un .not 33),w 31 (.ab 34)])) (.out [5,15,16,17] (.cond (.t 31) .skip (.seq (.out [5,6,8,15,16,17,35] (.aa [5,6,8,15,16,17] [m 36 8,w 37 (.bin .gtr 36 (.c U2 0)),m 38 37,⟨some 39,.mv 5,some (38,true)⟩,⟨some 40,.mv 8,some (38,true)⟩,⟨some 41,.bin .sub 40 (.c U2 1),some (38,true)⟩,⟨some 42,.indexAddr dK 39 41,some (38,true)⟩,⟨some 43,.fieldAddr dK [.r,.l] 42,some (38,true)⟩,⟨some 44,.load U2 43,some (38,true)⟩,⟨some 45,.mv 6,some (38,true)⟩,⟨some 46,.bin .eql 44 45,some (38,true)⟩,w 47 (.pick 38 46 (.c .bool false)),w 35 (.ab 47)])) (.out [5,15,16,17] (.cond (.t 35) (.out [5,15,16,17] (.aa [5,8,15,16,17] [m 48 5,m 49 8,w 50 (.bin .sub 49 (.c U2 1)),w 51 (.indexAddr dK 48 50),w 52 (.fieldAddr dK [.r,.l] 51),w 53 (.load U2 52),w 54 (.bin .add 53 (.c U2 1)),w 55 (.indexAddr dK 48 50),w 56 (.fieldAddr dK [.r,.l] 55),⟨none,.store U2 56 54,none⟩])) (.out [5,15,16,17] (.aa [5,6,15,16,17] [m 24 5,m 25 6,m 26 6,w 27 (.bin .add 26 (.c U2 1)),w 28 (.build dK [([.l],25),([.r,.l],27)]),w 29 (.buildSlice 179 dK [28]),w 30 (.append 179 dK 8796093022208 24 29),w 5 (.ab 30)])))))))))))))) (.out [5,15,16,17] (.aa [5,15,16,17] [w 57 (.bin .add 17 (.c U2 1)),m 17 57])))))
def Dg:AC:=.out [5] (.loop [5,15,16,17] Df)
def K4:AC:=.out [5] (.block 0 Dg)
def K5:AC:=(.seq K3 K4)
def K6:AC:=(.seq (.out [2,3,5] (.aa [5] [m 58 5,w 2 (.ab 58),w 3 (.ab (.c U2 0))])) .ret)
def ym:AC:=(.seq K5 K6)
def yn:AC:=(.seq (.out [0] (.aa [0] [w 2 (.ab (.nil 179 dK)),w 3 (.ab (.c U2 0))])) (.seq (.seq (.out [0,4] (.aa [0] [m 9 0,w 10 (.call 158 [9]),w 4 (.ab 10)])) (.seq (.out [0,4,12] (.aa [0,4] [m 11 4,w 12 (.bin .neq 11 (.c U2 0))])) (.out [0,2,3] (.cond (.t 12) (.seq (.out [2,3] (.aa [4] [m 13 4,w 2 (.ab (.nil 179 dK)),w 3 (.ab 13)])) .ret) .skip)))) (.seq (.out [0,5] (.aa [0] [w 5 (.ab (.nil 179 dK))])) ym)))
def De:AC:=yn
def d151:FD:={nargs:=1,body:=De,res:=[.t 2,.t 3]}
def KR:AC:=(.seq (.out [0] (.aa [0] [w 2 (.ab (.c U2 0))])) (.seq (.out [0,2] (.block 0 (.seq (.out [0,5] (.aa [0] [m 6 0,w 7 (.bin .eql 6 (.c .str [])),w 5 (.ab 7)])) (.out [0,2] (.cond (.t 5) (.seq (.out [2] (.aa [] [w 2 (.ab (.c U2 7))])) .ret) (.seq (.out [0,8] (.aa [0] [m 9 0,w 10 (.bO 9),w 11 (.bin .gtr 10 (.c U2 4)),w 8 (.ab 11)])) (.out [0,2] (.cond (.t 8) (.seq (.out [2] (.aa [] [w 2 (.ab (.c U2 3))])) .ret) (.seq (.out [0,12] (.aa [0] [m 13 0,w 14 (.call 72 [13]),m 15 0,w 16 (.bin .neq 14 15),w 12 (.ab 16)])) (.out [0,2] (.cond (.t 12) (.seq (.out [2] (.aa [] [w 2 (.ab (.c U2 2))])) .ret) .skip))))))))))) (.seq (.out [0,3,4] (.aa [0] [m 18 0,w 19 (.call 151 [18]),m 17 19,w 20 (.extract 17 0),w 21 (.extract 17 1),w 3 (.ab 20),w 4 (.ab 21)])) (.seq (.seq (.out [42] (.draw [0,3,4] [⟨m 22 4,[],[22],[],false,[]⟩,⟨w 23 (.bin .neq 22 (.c U2 0)),[],[23],[0],false,[]⟩,⟨m 24 23,[],[24],[0,1],false,[]⟩,⟨⟨some 25,.mv 3,some (24,false)⟩,[],[25],[0,1,2],false,[]⟩,⟨⟨some 26,.ba 25,some (24,false)⟩,[],[26],[0,1,2,3],false,[]⟩,⟨⟨some 27,.bin .neq 26 (.c U2 1),some (24,false)⟩,[],[27],[0,1,2,3,4],false,[]⟩,⟨w 28 (.pick 24 (.c .bool true) 27),[],[28],[0,1,2,3,4,5],false,[]⟩,⟨m 29 28,[],[29],[0,1,2,3,4,5,6],false,[]⟩,⟨⟨some 30,.mv 3,some (29,false)⟩,[34,35,36,37,39,40],[30],[0,1,2,3,4,5,6,7],false,[]⟩,⟨⟨some 31,.indexAddr dK 30 (.c U2 0),some (29,false)⟩,[34,35,36,37,39,40],[31],[0,1,2,3,4,5,6,7,8],false,[]⟩,⟨⟨some 32,.fieldAddr dK [.r,.l] 31,some (29,false)⟩,[34,35,36,37,39,40],[32],[0,1,2,3,4,5,6,7,8,9],false,[]⟩,⟨⟨some 33,.load U2 32,some (29,false)⟩,[34,35,36,37,39,40],[33],[0,1,2,3,4,5,6,7,8,9,10],false,[]⟩,⟨⟨some 34,.mv 3,some (29,false)⟩,[30,31,32,33,39,40],[34],[0,1,2,3,4,5,6,7],false,[]⟩,⟨⟨some 35,.indexAddr dK 34 (.c U2 0),some (29,false)⟩,[30,31,32,33,39,40],[35],[0,1,2,3,4,5,6,7,12],false,[]⟩,⟨⟨some 36,.fieldAddr dK [.l] 35,some (29,false)⟩,[30,31,32,33,39,40],[36],[0,1,2,3,4,5,6,7,12,13],false,[]⟩,⟨⟨some 37,.load U2 36,some (29,false)⟩,[30,31,32,33,39,40],[37],[0,1,2,3,4,5,6,7,12,13,14],false,[]⟩,⟨⟨some 38,.bin .sub 33 37,some (29,false)⟩,[39,40],[38],[0,1,2,3,4,5,6,7,8,9,10,11,12,13,14,15],false,[]⟩,⟨⟨some 39,.mv 0,some (29,false)⟩,[30,31,32,33,34,35,36,37,38],[39],[0,1,2,3,4,5,6,7],false,[]⟩,⟨⟨some 40,.bO 39,some (29,false)⟩,[30,31,32,33,34,35,36,37,38],[40],[0,1,2,3,4,5,6,7,17],false,[]⟩,⟨⟨some 41,.bin .neq 38 40,some (29,false)⟩,[],[41],[0,1,2,3,4,5,6,7,8,9,10,11,12,13,14,15,16,17,18],false,[]⟩,⟨w 42 (.pick 29 (.c .bool true) 41),[],[42],[0,1,2,3,4,5,6,7,8,9,10,11,12,13,14,15,16,17,18,19],false,[]⟩])) (.out [2] (.cond (.t 42) (.seq (.out [2] (.aa [] [w 2 (.ab (.c U2 2))])) .ret) .skip))) (.seq (.out [2] (.aa [] [w 2 (.ab (.c U2 0))])) .ret)))))
def C4:AC:=KR
def d142:FD:={nargs:=1,body:=C4,res:=[.t 2]}
def K7:AC:=(.seq (.out [1] (.aa [0] [w 1 (.box aA 0),w 2 (.ab (.c .bool false))])) (.seq (.seq (.out [1,4] (.aa [1] [w 3 (.fieldAddr aA [.l] 1),w 4 (.load U2 3)])) (.out [1,2] (.block 0 (.seq (.out [1,4,5] (.aa [1,4] [w 6 (.bin .eql 4 (.c U2 1)),w 5 (.ab 6)])) (.out [1,2] (.cond (.t 5) (.seq (.out [2] (.aa [1] [w 7 (.fieldAddr aA [.r,.l] 1),w 8 (.load U2 7),w 9 (.bin .geq 8 (.c U2 1)),m 10 9,⟨some 11,.fieldAddr aA [.r,.l] 1,some (10,true)⟩,⟨some 12,.load U2 11,some (10,true)⟩,⟨some 13,.bin .leq 12 (.c U2 3),some (10,true)⟩,w 14 (.pick 10 13 (.c .bool false)),w 2 (.ab 14)])) .ret) (.seq (.out [1,15] (.aa [1,4] [w 16 (.bin .eql 4 (.c U2 2)),w 15 (.ab 16)])) (.out [1,2] (.cond (.t 15) (.seq (.out [2] (.aa [1] [w 17 (.fieldAddr aA [.r,.l] 1),w 18 (.load U2 17),w 19 (.bin .eql 18 (.c U2 2)),w 2 (.ab 19)])) .ret) .skip))))))))) (.seq (.out [2] (.aa [1] [w 20 (.fieldAddr aA [.r,.l] 1),w 21 (.load U2 20),w 22 (.bin .eql 21 (.c U2 0)),w 2 (.ab 22)])) .ret)))
def Dh:AC:=K7
def d152:FD:={nargs:=1,body:=Dh,res:=[.t 2]}
def La:AC:=(.seq (.out [0] (.aa [0] [w 2 (.ab (.c .bool false))])) (.seq (.out [2] (.aa [0] [m 3 0,w 4 (.bin .geq 3 (.c U3 97)),m 5 4,⟨some 6,.mv 0,some (5,true)⟩,⟨some 7,.bin .leq 6 (.c U3 122),some (5,true)⟩,w 8 (.pick 5 7 (.c .bool false)),m 9 8,⟨some 10,.mv 0,some (9,false)⟩,⟨some 11,.bin .geq 10 (.c U3 48),some (9,false)⟩,⟨some 12,.mv 11,some (9,false)⟩,⟨some 13,.mv 0,some (12,true)⟩,⟨some 14,.bin .leq 13 (.c U3 57),some (12,true)⟩,⟨some 15,.pick 12 14 (.c .bool false),some (9,false)⟩,w 16 (.pick 9 (.c .bool true) 15),m 17 16,⟨some 18,.mv 0,some (17,false)⟩,⟨some 19,.bin .eql 18 (.c U3 95),some (17,false)⟩,w 20 (.pick 17 (.c .bool true) 19),m 21 20,⟨some 22,.mv 0,some (21,false)⟩,⟨some 23,.bin .eql 22 (.c U3 94),some (21,false)⟩,w 24 (.pick 21 (.c .bool true) 23),m 25 24,⟨some 26,.mv 0,some (25,false)⟩,⟨some 27,.bin .eql 26 (.c U3 39),some (25,false)⟩,w 28 (.pick 25 (.c .bool true) 27),w 2 (.ab 28)])) .ret))
def Dk:AC:=La
def d155:FD:={nargs:=1,body:=Dk,res:=[.t 2]}
def K9:AC:=(.seq (.out [0] (.aa [0] [w 2 (.ab (.c .bool false))])) (.seq (.out [2] (.aa [0] [m 3 0,w 4 (.call 155 [3]),w 5 (.un .not 4),w 2 (.ab 5)])) .ret))
def Dj:AC:=K9
def d154:FD:={nargs:=1,body:=Dj,res:=[.t 2]}
def Lk:AC:=.out [0,1,2] (.aa [0,1,2] [w 6 (.ab (.c U2 0))])
def Ll:AC:=.out [1,2,10] (.aa [0,1,2] [m 9 0,w 10 (.Bm 9)])
def Du:AC:=(.seq (.out [1,2,10,11,12] (.aa [1,2,10] [w 11 (.du 10),w 12 (.extract 11 0)])) (.seq (.out [1,2,10,11] (.cond (.t 12) .skip (.exit 0))) (.out [1,2,6,10] (.block 1 (.seq (.out [1,2,7,8,10] (.aa [1,2,10,11] [w 13 (.extract 11 1),w 14 (.extract 11 2),w 7 (.ab 13),w 8 (.ab 14)])) (.seq (.out [1,2,7,10,19] (.aa [1,2,7,8,10] [m 15 1,m 16 8,w 17 (.mS 15 [16]),m 18 2,w 19 (.mn false .bool 17 18)])) (.out [1,2,6,10] (.cond (.t 19) (.seq (.out [6] (.aa [7] [m 20 7,w 6 (.ab 20)])) .ret) .skip))))))))
def Dv:AC:=.out [6] (.loop [1,2,10] Du)
def Lm:AC:=.out [6] (.block 0 Dv)
def Ln:AC:=(.seq Ll Lm)
def Lo:AC:=(.seq (.out [6] (.aa [] [w 6 (.ab (.c U2 (-1)))])) .ret)
def Lp:AC:=(.seq Ln Lo)
def Dw:AC:=(.seq Lk Lp)
def Dt:AC:=Dw
def d160:FD:={nargs:=3,body:=Dt,res:=[.t 6]}
def Lf:AC:=(.seq (.out [0,1] (.aa [0,1] [w 4 (.ab (.c U2 0))])) (.seq (.out [4] (.aa [0,1] [m 5 0,m 6 1,w 7 (.call 160 [5,6,(.c .bool true)]),w 4 (.ab 7)])) .ret))
def Dp:AC:=Lf
def d159:FD:={nargs:=2,body:=Dp,res:=[.t 4]}
def K8:AC:=(.seq (.out [0,1] (.aa [0,1] [w 4 (.ab (.c .bool false))])) (.seq (.out [4] (.aa [0,1] [m 5 0,m 6 1,w 7 (.call 159 [5,6]),w 8 (.bin .geq 7 (.c U2 0)),w 4 (.ab 8)])) .ret))
def Di:AC:=K8
def d153:FD:={nargs:=2,body:=Di,res:=[.t 4]}
def KS:AC:=(.seq (.out [1] (.aa [0] [w 1 (.box aA 0),w 2 (.ab (.c U2 0))])) (.seq (.out [2] (.block 0 (.seq (.out [1,3] (.aa [1] [w 4 (.fieldAddr aA [.l] 1),w 5 (.load U2 4),w 6 (.bin .lss 5 (.c U2 1)),m 7 6,⟨some 8,.fieldAddr aA [.l] 1,some (7,false)⟩,⟨some 9,.load U2 8,some (7,false)⟩,⟨some 10,.bin .gtr 9 (.c U2 9),some (7,false)⟩,w 11 (.pick 7 (.c .bool true) 10),w 3 (.ab 11)])) (.out [2] (.cond (.t 3) (.seq (.out [2] (.aa [] [w 2 (.ab (.c U2 1))])) .ret) (.seq (.out [1,12] (.aa [1] [w 13 (.load aA 1),w 14 (.call 152 [13]),w 15 (.un .not 14),w 12 (.ab 15)])) (.out [2] (.cond (.t 12) (.seq (.out [2] (.aa [] [w 2 (.ab (.c U2 6))])) .ret) (.seq (.out [1,16] (.aa [1] [w 17 (.fieldAddr aA [.r,.r,.l] 1),w 18 (.load .str 17),w 19 (.bin .eql 18 (.c .str [])),w 16 (.ab 19)])) (.out [2] (.cond (.t 16) (.seq (.out [2] (.aa [] [w 2 (.ab (.c U2 7))])) .ret) (.seq (.out [1,20] (.aa [1] [w 21 (.fieldAddr aA [.r,.r,.l] 1),w 22 (.load .str 21),w 23 (.bO 22),w 24 (.bin .gtr 23 (.c U2 8)),w 20 (.ab 24)])) (.out [2] (.cond (.t 20) (.seq (.out [2] (.aa [] [w 2 (.ab (.c U2 3))])) .ret) (.seq (.out [25] (.aa [1] [w 26 (.fieldAddr aA [.r,.r,.l] 1),w 27 (.load .str 26),w 28 (.call 153 [27,(.fn 154 Jx .bool)]),w 25 (.ab 28)])) (.out [2] (.cond (.t 25) (.seq (.out [2] (.aa [] [w 2 (.ab (.c U2 2))])) .ret) .skip))))))))))))))))) (.seq (.out [2] (.aa [] [w 2 (.ab (.c U2 0))])) .ret)))
def C5:AC:=KS
def d143:FD:={nargs:=1,body:=C5,res:=[.t 2]}
def Ki:AC:=.out [1,22,23,24] (.aa [1] [w 21 (.fieldAddr aG [.r,.l] 1),w 22 (.load bD 21),w 23 (.ba 22),w 24 (.mv (.c U2 0))])
def Cz:AC:=(.seq (.out [1,22,23,24,25] (.aa [1,22,23,24] [w 25 (.bin .lss 24 23)])) (.seq (.out [1,22,23,24] (.cond (.t 25) .skip (.exit 0))) (.seq (.out [1,2,22,23,24] (.block 1 (.seq (.out [1,5,22,23,24] (.aa [1,22,23,24] [w 26 (.indexAddr aA 22 24),w 27 (.load aA 26),w 5 (.alloc aA .no),⟨none,.store aA 5 27,none⟩])) (.seq (.out [1,6,22,23,24] (.aa [1,5,22,23,24] [w 28 (.load aA 5),w 29 (.call 143 [28]),w 6 (.ab 29)])) (.seq (.out [1,6,22,23,24,31] (.aa [1,6,22,23,24] [m 30 6,w 31 (.bin .neq 30 (.c U2 0))])) (.out [1,2,22,23,24] (.cond (.t 31) (.seq (.out [2] (.aa [6] [m 32 6,w 2 (.ab 32)])) .ret) .skip))))))) (.out [1,22,23,24] (.aa [1,22,23,24] [w 33 (.bin .add 24 (.c U2 1)),m 24 33])))))
def CA:AC:=.out [1,2] (.loop [1,22,23,24] Cz)
def Kj:AC:=.out [1,2] (.block 0 CA)
def Kk:AC:=(.seq Ki Kj)
def Kl:AC:=(.seq (.seq (.out [51] (.aa [1] [w 34 (.fieldAddr aG [.r,.r,.l] 1),w 35 (.load U2 34),w 36 (.bin .lss 35 (.c U2 0)),m 37 36,⟨some 38,.fieldAddr aG [.r,.r,.l] 1,some (37,false)⟩,⟨some 39,.load U2 38,some (37,false)⟩,⟨some 40,.bin .gtr 39 (.c U2 99),some (37,false)⟩,w 41 (.pick 37 (.c .bool true) 40),m 42 41,⟨some 43,.fieldAddr aG [.r,.r,.r,.l] 1,some (42,false)⟩,⟨some 44,.load U2 43,some (42,false)⟩,⟨some 45,.bin .lss 44 (.c U2 0),some (42,false)⟩,w 46 (.pick 42 (.c .bool true) 45),m 47 46,⟨some 48,.fieldAddr aG [.r,.r,.r,.l] 1,some (47,false)⟩,⟨some 49,.load U2 48,some (47,false)⟩,⟨some 50,.bin .gtr 49 (.c U2 4),some (47,false)⟩,w 51 (.pick 47 (.c .bool true) 50)])) (.out [2] (.cond (.t 51) (.seq (.out [2] (.aa [] [w 2 (.ab (.c U2 6))])) .ret) .skip))) (.seq (.out [2] (.aa [] [w 2 (.ab (.c U2 0))])) .ret))
def xZ:AC:=(.seq Kk Kl)
def ya:AC:=(.seq (.out [1] (.aa [0] [w 1 (.box aG 0),w 2 (.ab (.c U2 0))])) (.seq (.seq (.out [1,3] (.aa [1] [w 7 (.fieldAddr aG [.l] 1),w 8 (.load .str 7),w 9 (.call 142 [8]),w 3 (.ab 9)])) (.seq (.out [1,3,11] (.aa [1,3] [m 10 3,w 11 (.bin .neq 10 (.c U2 0))])) (.out [1,2] (.cond (.t 11) (.seq (.out [2] (.aa [3] [m 12 3,w 2 (.ab 12)])) .ret) .skip)))) (.seq (.seq (.out [1,16] (.aa [1] [w 13 (.fieldAddr aG [.r,.l] 1),w 14 (.load bD 13),w 15 (.ba 14),w 16 (.bin .eql 15 (.c U2 0))])) (.out [1,2] (.cond (.t 16) (.seq (.out [2] (.aa [] [w 2 (.ab (.c U2 7))])) .ret) .skip))) (.seq (.seq (.out [1,20] (.aa [1] [w 17 (.fieldAddr aG [.r,.l] 1),w 18 (.load bD 17),w 19 (.ba 18),w 20 (.bin .gtr 19 (.c U2 2))])) (.out [1,2] (.cond (.t 20) (.seq (.out [2] (.aa [] [w 2 (.ab (.c U2 3))])) .ret) .skip))) xZ))))
def Cy:AC:=ya
def d122:FD:={nargs:=1,body:=Cy,res:=[.t 2]}
def Ko:AC:=.out [0,1,12,13] (.aa [0,1] [m 11 0,w 12 (.ba 11),w 13 (.mv (.c U2 0))])
def CE:AC:=(.seq (.out [0,1,12,13,14] (.aa [0,1,12,13] [w 14 (.bin .lss 13 12)])) (.seq (.out [0,1,12,13] (.cond (.t 14) .skip (.exit 0))) (.seq (.out [0,1,4,12,13] (.block 1 (.seq (.out [0,1,5,12,13] (.aa [0,1,12,13] [m 15 13,w 5 (.ab 15)])) (.seq (.out [0,1,12,13,24] (.draw [0,1,5,12,13] [⟨m 16 0,[17,20,21,22,23],[16],[],false,[]⟩,⟨m 17 5,[16,20,21,22,23],[17],[],false,[]⟩,⟨w 18 (.indexAddr aA 16 17),[20,21,22,23],[18],[0,1],false,[]⟩,⟨w 19 (.load aA 18),[20,21,22,23],[19],[0,1,2],false,[]⟩,⟨m 20 1,[16,17,18,19,21],[20],[],false,[]⟩,⟨m 21 5,[16,17,18,19,20],[21],[],false,[]⟩,⟨w 22 (.indexAddr aA 20 21),[16,17,18,19],[22],[4,5],false,[]⟩,⟨w 23 (.load aA 22),[16,17,18,19],[23],[4,5,6],false,[]⟩,⟨w 24 (.mn true aA 19 23),[],[24],[0,1,2,3,4,5,6,7],false,[]⟩])) (.out [0,1,4,12,13] (.cond (.t 24) (.seq (.out [4] (.aa [] [w 4 (.ab (.c .bool false))])) .ret) .skip)))))) (.out [0,1,12,13] (.aa [0,1,12,13] [w 25 (.bin .add 13 (.c U2 1)),m 13 25])))))
def CF:AC:=.out [4] (.loop [0,1,12,13] CE)
def Kp:AC:=.out [4] (.block 0 CF)
def Kq:AC:=(.seq Ko Kp)
def Kr:AC:=(.seq (.out [4] (.aa [] [w 4 (.ab (.c .bool true))])) .ret)
def yb:AC:=(.seq Kq Kr)
def yc:AC:=(.seq (.out [0,1] (.aa [0,1] [w 4 (.ab (.c .bool false))])) (.seq (.seq (.out [0,1,10] (.aa [0,1] [m 6 0,w 7 (.ba 6),m 8 1,w 9 (.ba 8),w 10 (.bin .neq 7 9)])) (.out [0,1,4] (.cond (.t 10) (.seq (.out [4] (.aa [] [w 4 (.ab (.c .bool false))])) .ret) .skip))) yb))
def CD:AC:=yc
def d125:FD:={nargs:=2,body:=CD,res:=[.t 4]}
def Kn:AC:=(.seq (.out [1,2] (.aa [0,1] [w 2 (.box aG 0),w 3 (.ab (.c .bool false))])) (.seq (.out [3] (.aa [1,2] [w 4 (.fieldAddr aG [.l] 2),w 5 (.load .str 4),w 6 (.fieldAddr aG [.l] 1),w 7 (.load .str 6),w 8 (.bin .eql 5 7),m 9 8,⟨some 10,.fieldAddr aG [.r,.r,.r,.l] 2,some (9,true)⟩,⟨some 11,.load U2 10,some (9,true)⟩,⟨some 12,.fieldAddr aG [.r,.r,.r,.l] 1,some (9,true)⟩,⟨some 13,.load U2 12,some (9,true)⟩,⟨some 14,.bin .eql 11 13,some (9,true)⟩,w 15 (.pick 9 14 (.c .bool false)),m 16 15,⟨some 17,.fieldAddr aG [.r,.l] 2,some (16,true)⟩,⟨some 18,.load bD 17,some (16,true)⟩,⟨some 19,.fieldAddr aG [.r,.l] 1,some (16,true)⟩,⟨some 20,.load bD 19,some (16,true)⟩,⟨some 21,.call 125 [18,20],some (16,true)⟩,w 22 (.pick 16 21 (.c .bool false)),w 3 (.ab 22)])) .ret))
def CC:AC:=Kn
def d124:FD:={nargs:=2,body:=CC,res:=[.t 3]}
def KT:AC:=.out [0,1] (.aa [0,1] [w 4 (.ab (.c U2 0))])
def KU:AC:=.out [0,1,7,8] (.aa [0,1] [m 6 0,w 7 (.ba 6),w 8 (.mv (.c U2 0))])
def C7:AC:=(.seq (.out [0,1,7,8,9] (.aa [0,1,7,8] [w 9 (.bin .lss 8 7)])) (.seq (.out [0,1,7,8] (.cond (.t 9) .skip (.exit 0))) (.seq (.out [0,1,4,7,8] (.block 1 (.seq (.out [0,1,5,7,8] (.aa [0,1,7,8] [m 10 8,w 5 (.ab 10)])) (.seq (.out [0,1,5,7,8,16] (.aa [0,1,5,7,8] [m 11 1,m 12 0,m 13 5,w 14 (.indexAddr aG 12 13),w 15 (.load aG 14),w 16 (.mS 11 [15])])) (.out [0,1,4,7,8] (.cond (.t 16) (.seq (.out [4] (.aa [5] [m 17 5,w 4 (.ab 17)])) .ret) .skip)))))) (.out [0,1,7,8] (.aa [0,1,7,8] [w 18 (.bin .add 8 (.c U2 1)),m 8 18])))))
def C8:AC:=.out [4] (.loop [0,1,7,8] C7)
def KV:AC:=.out [4] (.block 0 C8)
def KW:AC:=(.seq KU KV)
def KX:AC:=(.seq (.out [4] (.aa [] [w 4 (.ab (.c U2 (-1)))])) .ret)
def KY:AC:=(.seq KW KX)
def C9:AC:=(.seq KT KY)
def C6:AC:=C9
def d144:FD:={nargs:=2,body:=C6,res:=[.t 4]}
def Km:AC:=(.seq (.out [0,1] (.aa [0,1] [w 4 (.ab (.c .bool false))])) (.seq (.out [4] (.aa [0,1] [m 5 0,m 6 1,w 7 (.call 144 [5,6]),w 8 (.bin .geq 7 (.c U2 0)),w 4 (.ab 8)])) .ret))
def CB:AC:=Km
def d123:FD:={nargs:=2,body:=CB,res:=[.t 4]}
def NC:AC:=.out [1,24,25,26] (.aa [1] [w 23 (.fieldAddr az [.r,.l] 1),w 24 (.load dT 23),w 25 (.ba 24),w 26 (.mv (.c U2 0))])
def E4:AC:=(.seq (.out [1,24,25,26,27] (.aa [1,24,25,26] [w 27 (.bin .lss 26 25)])) (.seq (.out [1,24,25,26] (.cond (.t 27) .skip (.exit 1))) (.seq (.out [1,2,3,24,25,26] (.block 2 (.seq (.out [1,4,5,24,25,26] (.aa [1,24,25,26] [m 28 26,w 29 (.indexAddr aG 24 26),w 30 (.load aG 29),w 5 (.alloc aG (.pair .no (.pair (.own true 40 .no) (.pair .no (.pair .no .no))))),w 4 (.ab 28),⟨none,.store aG 5 30,none⟩])) (.seq (.seq (.out [1,4,5,6,24,25,26] (.aa [1,4,5,24,25,26] [w 31 (.load aG 5),w 32 (.call 122 [31]),w 6 (.ab 32)])) (.seq (.out [1,4,5,6,24,25,26,34] (.aa [1,4,5,6,24,25,26] [m 33 6,w 34 (.bin .neq 33 (.c U2 0))])) (.out [1,2,3,4,5,24,25,26] (.cond (.t 34) (.seq (.out [2,3] (.aa [4,6] [m 35 4,m 36 6,w 2 (.ab 35),w 3 (.ab 36)])) .ret) .skip)))) (.seq (.out [1,4,7,24,25,26] (.aa [1,4,5,24,25,26] [w 37 (.fieldAddr az [.r,.l] 1),w 38 (.load dT 37),m 39 4,w 40 (.lO aG 38 none (some 39) none),w 41 (.pg 124 Jy .bool [5]),w 42 (.call 123 [40,41]),w 7 (.ab 42)])) (.seq (.out [1,4,24,25,26,43] (.aa [1,4,7,24,25,26] [m 43 7])) (.out [1,2,3,24,25,26] (.cond (.t 43) (.seq (.out [2,3] (.aa [4] [m 44 4,w 2 (.ab 44),w 3 (.ab (.c U2 5))])) .ret) .skip)))))))) (.out [1,24,25,26] (.aa [1,24,25,26] [w 45 (.bin .add 26 (.c U2 1)),m 26 45])))))
def E5:AC:=.out [2,3] (.loop [1,24,25,26] E4)
def ND:AC:=.out [2,3] (.block 1 E5)
def NF:AC:=(.seq NC ND)
def NG:AC:=(.seq (.out [2,3] (.aa [] [w 2 (.ab (.c U2 (-1))),w 3 (.ab (.c U2 0))])) .ret)
def zq:AC:=(.seq NF NG)
def zr:AC:=(.seq (.out [1] (.aa [0] [w 1 (.box az 0),w 2 (.ab (.c U2 0)),w 3 (.ab (.c U2 0))])) (.seq (.out [1,2,3] (.block 0 (.seq (.out [1,8] (.aa [1] [w 9 (.fieldAddr az [.l] 1),w 10 (.load .str 9),w 11 (.call 121 [10]),w 12 (.un .not 11),w 8 (.ab 12)])) (.out [1,2,3] (.cond (.t 8) (.seq (.out [2,3] (.aa [] [w 2 (.ab (.c U2 (-1))),w 3 (.ab (.c U2 2))])) .ret) (.seq (.out [1,13] (.aa [1] [w 14 (.fieldAddr az [.r,.l] 1),w 15 (.load dT 14),w 16 (.ba 15),w 17 (.bin .eql 16 (.c U2 0)),w 13 (.ab 17)])) (.out [1,2,3] (.cond (.t 13) (.seq (.out [2,3] (.aa [] [w 2 (.ab (.c U2 (-1))),w 3 (.ab (.c U2 7))])) .ret) (.seq (.out [1,18] (.aa [1] [w 19 (.fieldAddr az [.r,.l] 1),w 20 (.load dT 19),w 21 (.ba 20),w 22 (.bin .gtr 21 (.c U2 120)),w 18 (.ab 22)])) (.out [1,2,3] (.cond (.t 18) (.seq (.out [2,3] (.aa [] [w 2 (.ab (.c U2 (-1))),w 3 (.ab (.c U2 3))])) .ret) .skip))))))))))) zq))
def E3:AC:=zr
def d95:FD:={nargs:=1,body:=E3,res:=[.t 2,.t 3]}
def MU:AC:=(.seq (.out [1] (.aa [0] [w 1 (.box az 0),w 2 (.ab (.c U2 0))])) (.seq (.out [4] (.aa [1] [w 6 (.load az 1),w 7 (.call 95 [6]),m 5 7,w 8 (.extract 5 0),w 9 (.extract 5 1),w 3 (.ab 8),w 4 (.ab 9)])) (.seq (.out [2] (.aa [4] [m 10 4,w 2 (.ab 10)])) .ret)))
def Ev:AC:=MU
def d70:FD:={nargs:=1,body:=Ev,res:=[.t 2]}
def NI:AC:=(.seq (.out [0] (.aa [0] [w 2 (.ab (.c .bool false))])) (.seq (.out [2] (.aa [0] [m 3 0,w 4 (.call 98 [3]),w 5 (.un .not 4),w 2 (.ab 5)])) .ret))
def E7:AC:=NI
def d97:FD:={nargs:=1,body:=E7,res:=[.t 2]}
def Ks:AC:=.out [0,1] (.aa [0,1] [w 4 (.ab (.c U2 0))])
def Kt:AC:=.out [0,1,7,8] (.aa [0,1] [m 6 0,w 7 (.ba 6),w 8 (.mv (.c U2 0))])
def CH:AC:=(.seq (.out [0,1,7,8,9] (.aa [0,1,7,8] [w 9 (.bin .lss 8 7)])) (.seq (.out [0,1,7,8] (.cond (.t 9) .skip (.exit 0))) (.seq (.out [0,1,4,7,8] (.block 1 (.seq (.out [0,1,5,7,8] (.aa [0,1,7,8] [m 10 8,w 5 (.ab 10)])) (.seq (.out [0,1,5,7,8,16] (.aa [0,1,5,7,8] [m 11 1,m 12 0,m 13 5,w 14 (.indexAddr U0 12 13),w 15 (.load U0 14),w 16 (.mS 11 [15])])) (.out [0,1,4,7,8] (.cond (.t 16) (.seq (.out [4] (.aa [5] [m 17 5,w 4 (.ab 17)])) .ret) .skip)))))) (.out [0,1,7,8] (.aa [0,1,7,8] [w 18 (.bin .add 8 (.c U2 1)),m 8 18])))))
def CI:AC:=.out [4] (.loop [0,1,7,8] CH)
def Ku:AC:=.out [4] (.block 0 CI)
def Kv:AC:=(.seq Kt Ku)
def Kw:AC:=(.seq (.out [4] (.aa [] [w 4 (.ab (.c U2 (-1)))])) .ret)
def Kx:AC:=(.seq Kv Kw)
def CJ:AC:=(.seq Ks Kx)
def CG:AC:=CJ
def d126:FD:={nargs:=2,body:=CG,res:=[.t 4]}
def NH:AC:=(.seq (.out [0,1] (.aa [0,1] [w 4 (.ab (.c .bool false))])) (.seq (.out [4] (.aa [0,1] [m 5 0,m 6 1,w 7 (.call 126 [5,6]),w 8 (.bin .geq 7 (.c U2 0)),w 4 (.ab 8)])) .ret))
def E6:AC:=NH
def d96:FD:={nargs:=2,body:=E6,res:=[.t 4]}
def NK:AC:=.out [0,1,5,39,40,41] (.aa [0,1,5] [m 39 0,w 40 (.ba 39),w 41 (.mv (.c U2 0))])
def Fa:AC:=(.seq (.out [0,1,5,39,40,41,42] (.aa [0,1,5,39,40,41] [w 42 (.bin .lss 41 40)])) (.seq (.out [0,1,5,39,40,41] (.cond (.t 42) .skip (.exit 1))) (.seq (.out [0,1,5,39,40,41] (.block 2 (.seq (.out [0,1,5,7,39,40,41] (.aa [0,1,5,39,40,41] [w 43 (.indexAddr .str 39 41),w 44 (.load .str 43),w 7 (.ab 44)])) (.seq (.seq (.out [0,1,5,7,39,40,41,49] (.aa [0,1,5,7,39,40,41] [m 45 7,w 46 (.bO 45),m 47 5,w 48 (.bin .sub (.c U2 9223372036854775807) 47),w 49 (.bin .gtr 46 48)])) (.out [0,1,5,7,39,40,41] (.cond (.t 49) (.out [] (.aa [0,1,5,7,39,40,41] [w 50 (.bad),⟨none,.bad,none⟩])) .skip))) (.out [0,1,5,39,40,41] (.aa [0,1,5,7,39,40,41] [m 51 5,m 52 7,w 53 (.bO 52),w 54 (.bin .add 51 53),w 5 (.ab 54)])))))) (.out [0,1,5,39,40,41] (.aa [0,1,5,39,40,41] [w 55 (.bin .add 41 (.c U2 1)),m 41 55])))))
def Fb:AC:=.out [0,1,5] (.loop [0,1,5,39,40,41] Fa)
def NM:AC:=.out [0,1,5] (.block 1 Fb)
def NN:AC:=(.seq NK NM)
def NL:AC:=(.seq (.seq (.out [] (.aa [] [m 62 0,w 63 (.lO .str 62 (some (.c U2 1)) none none),w 64 (.ba 63),w 65 (.mv (.c U2 0))])) (.out [] (.block 3 (.out [] (.loop [] (.seq (.out [] (.aa [] [w 66 (.bin .lss 65 64)])) (.seq (.out [] (.cond (.t 66) .skip (.exit 3))) (.seq (.out [] (.block 4 (.seq (.out [] (.aa [] [w 67 (.indexAddr .str 63 65),w 68 (.load .str 67),w 10 (.ab 68)])) (.seq (.out [] (.aa [] [m 69 1,w 70 (.hZ 84 8 69)])) (.out [] (.aa [] [m 71 10,w 72 (.hZ 84 8 71)])))))) (.out [] (.aa [] [w 73 (.bin .add 65 (.c U2 1)),m 65 73])))))))))) (.seq (.out [] (.aa [] [w 74 (.ji 85 8),w 4 (.ab 74)])) .ret))
def Fc:AC:=(.seq (.out [0,1,5,8] (.aa [0,1,5] [w 8 (.wP 123 5)])) (.seq (.out [] (.aa [0,1,5,8] [m 56 5,w 57 (.kg 128 8 [56])])) (.seq (.out [] (.aa [] [m 58 0,w 59 (.indexAddr .str 58 (.c U2 0)),w 60 (.load .str 59),w 61 (.hZ 84 8 60)])) NL)))
def zt:AC:=(.seq NN Fc)
def zw:AC:=(.seq (.out [0,1] (.aa [0,1] [w 4 (.ab (.c .str []))])) (.seq (.seq (.out [0,1,12] (.aa [0,1] [m 11 0,w 12 (.ba 11)])) (.out [0,1,4] (.block 0 (.seq (.out [0,1,12,13] (.aa [0,1,12] [w 14 (.bin .eql 12 (.c U2 0)),w 13 (.ab 14)])) (.out [0,1,4] (.cond (.t 13) (.seq (.out [4] (.aa [] [w 4 (.ab (.c .str []))])) .ret) (.seq (.out [0,1,15] (.aa [0,1,12] [w 16 (.bin .eql 12 (.c U2 1)),w 15 (.ab 16)])) (.out [0,1,4] (.cond (.t 15) (.seq (.out [4] (.aa [0] [m 17 0,w 18 (.indexAddr .str 17 (.c U2 0)),w 19 (.load .str 18),w 4 (.ab 19)])) .ret) .skip))))))))) (.seq (.out [0,1,5] (.aa [0,1] [w 5 (.ab (.c U2 0))])) (.seq (.seq (.out [0,1,5,22] (.aa [0,1,5] [m 20 1,w 21 (.bO 20),w 22 (.bin .gtr 21 (.c U2 0))])) (.out [0,1,5] (.cond (.t 22) (.seq (.seq (.out [0,1,5,29] (.aa [0,1,5] [m 23 1,w 24 (.bO 23),m 25 0,w 26 (.ba 25),w 27 (.bin .sub 26 (.c U2 1)),w 28 (.bin .quo (.c U2 9223372036854775807) 27),w 29 (.bin .geq 24 28)])) (.out [0,1,5] (.cond (.t 29) (.out [] (.aa [0,1,5] [w 30 (.bad),⟨none,.bad,none⟩])) .skip))) (.out [0,1,5] (.aa [0,1,5] [m 31 5,m 32 1,w 33 (.bO 32),m 34 0,w 35 (.ba 34),w 36 (.bin .sub 35 (.c U2 1)),w 37 (.bin .mul 33 36),w 38 (.bin .add 31 37),w 5 (.ab 38)]))) .skip))) zt))))
def E9:AC:=zw
def d99:FD:={nargs:=2,body:=E9,res:=[.t 4]}
def MV:AC:=.out [0] (.aa [0] [w 2 (.ab (.c .str [])),w 3 (.ab (.c U2 0))])
def MW:AC:=.out [0,7,8,9] (.aa [0] [m 7 0,w 8 (.ba 7),w 9 (.mv (.c U2 0))])
def Ey:AC:=(.seq (.out [0,7,8,9,10] (.aa [0,7,8,9] [w 10 (.bin .lss 9 8)])) (.seq (.out [0,7,8,9] (.cond (.t 10) .skip (.exit 0))) (.seq (.out [0,2,3,7,8,9] (.block 1 (.seq (.out [0,5,7,8,9] (.aa [0,7,8,9] [w 11 (.indexAddr .str 7 9),w 12 (.load .str 11),w 5 (.ab 12)])) (.seq (.seq (.out [0,5,7,8,9,14] (.aa [0,5,7,8,9] [m 13 5,w 14 (.bin .eql 13 (.c .str []))])) (.out [0,2,3,5,7,8,9] (.cond (.t 14) (.seq (.out [2,3] (.aa [] [w 2 (.ab (.c .str [])),w 3 (.ab (.c U2 7))])) .ret) .skip))) (.seq (.out [0,7,8,9,17] (.aa [0,5,7,8,9] [m 15 5,w 16 (.pB 15),w 17 (.call 96 [16,(.fn 97 U8 .bool)])])) (.out [0,2,3,7,8,9] (.cond (.t 17) (.seq (.out [2,3] (.aa [] [w 2 (.ab (.c .str [])),w 3 (.ab (.c U2 2))])) .ret) .skip))))))) (.out [0,7,8,9] (.aa [0,7,8,9] [w 18 (.bin .add 9 (.c U2 1)),m 9 18])))))
def Ez:AC:=.out [0,2,3] (.loop [0,7,8,9] Ey)
def MX:AC:=.out [0,2,3] (.block 0 Ez)
def MY:AC:=(.seq MW MX)
def MZ:AC:=(.seq (.out [6] (.aa [0] [m 19 0,w 20 (.call 99 [19,(.c .str [32])]),w 6 (.ab 20)])) (.seq (.seq (.out [6,23] (.aa [6] [m 21 6,w 22 (.bO 21),w 23 (.bin .gtr 22 (.c U2 120))])) (.out [2,3,6] (.cond (.t 23) (.seq (.out [2,3] (.aa [] [w 2 (.ab (.c .str [])),w 3 (.ab (.c U2 3))])) .ret) .skip))) (.seq (.out [2,3] (.aa [6] [m 24 6,w 2 (.ab 24),w 3 (.ab (.c U2 0))])) .ret)))
def M0:AC:=(.seq MY MZ)
def EA:AC:=(.seq MV M0)
def Ew:AC:=EA
def d71:FD:={nargs:=1,body:=Ew,res:=[.t 2,.t 3]}
def LZ:AC:=(.seq (.out [1,2] (.aa [0,1] [w 2 (.box az 0),w 4 (.ab (.c U2 0))])) (.seq (.seq (.out [1,5] (.aa [1,2] [w 8 (.load az 2),w 9 (.call 70 [8]),w 5 (.ab 9)])) (.seq (.out [1,5,11] (.aa [1,5] [m 10 5,w 11 (.bin .neq 10 (.c U2 0))])) (.out [1,4] (.cond (.t 11) (.seq (.out [4] (.aa [5] [m 12 5,w 4 (.ab 12)])) .ret) .skip)))) (.seq (.out [1,4] (.block 0 (.seq (.out [1,13] (.aa [1] [m 14 1,w 15 (.bin .eql 14 (.c .str [])),w 13 (.ab 15)])) (.out [1,4] (.cond (.t 13) (.seq (.out [4] (.aa [] [w 4 (.ab (.c U2 7))])) .ret) (.seq (.out [1,16] (.aa [1] [m 17 1,w 18 (.bO 17),w 19 (.bin .gtr 18 (.c U2 16)),w 16 (.ab 19)])) (.out [1,4] (.cond (.t 16) (.seq (.out [4] (.aa [] [w 4 (.ab (.c U2 3))])) .ret) .skip)))))))) (.seq (.seq (.out [1,7] (.aa [1] [m 21 1,w 22 (.buildSlice 9 .str [21]),w 23 (.call 71 [22]),m 20 23,w 24 (.extract 20 0),w 25 (.extract 20 1),w 6 (.ab 24),w 7 (.ab 25)])) (.seq (.out [33] (.aa [1,7] [m 26 7,w 27 (.bin .neq 26 (.c U2 0)),m 28 27,⟨some 29,.mv 1,some (28,false)⟩,⟨some 30,.call 72 [29],some (28,false)⟩,⟨some 31,.mv 1,some (28,false)⟩,⟨some 32,.bin .neq 30 31,some (28,false)⟩,w 33 (.pick 28 (.c .bool true) 32)])) (.out [4] (.cond (.t 33) (.seq (.out [4] (.aa [] [w 4 (.ab (.c U2 2))])) .ret) .skip)))) (.seq (.out [4] (.aa [] [w 4 (.ab (.c U2 0))])) .ret)))))
def DT:AC:=LZ
def d40:FD:={nargs:=2,body:=DT,res:=[.t 4]}
def M6:AC:=(.seq (.out [0,1] (.aa [0,1] [w 4 (.ab (.nil 40 aA))])) (.seq (.seq (.out [0,1,6] (.aa [0,1] [m 5 1,w 6 (.bin .lss 5 (.c U2 0))])) (.out [0,1,4] (.cond (.t 6) (.seq (.out [4] (.aa [] [w 4 (.ab (.nil 40 aA))])) .ret) .skip))) (.seq (.out [4] (.aa [0,1] [m 7 0,w 8 (.jf 7),w 9 (.fieldAddr bB [.l] 8),w 10 (.fieldAddr az [.r,.l] 9),w 11 (.load dT 10),m 12 1,w 13 (.indexAddr aG 11 12),w 14 (.fieldAddr aG [.r,.l] 13),w 15 (.load bD 14),w 4 (.ab 15)])) .ret)))
def EE:AC:=M6
def d73:FD:={nargs:=2,body:=EE,res:=[.p 4]}
def Ng:AC:=(.seq (.out [1] (.aa [0] [w 1 (.box aA 0),w 2 (.ab (.c .bool false))])) (.seq (.out [2] (.aa [1] [w 3 (.fieldAddr aA [.l] 1),w 4 (.load U2 3),w 5 (.bin .eql 4 (.c U2 1)),m 6 5,⟨some 7,.fieldAddr aA [.l] 1,some (6,false)⟩,⟨some 8,.load U2 7,some (6,false)⟩,⟨some 9,.bin .eql 8 (.c U2 2),some (6,false)⟩,w 10 (.pick 6 (.c .bool true) 9),w 2 (.ab 10)])) .ret))
def EL:AC:=Ng
def d87:FD:={nargs:=1,body:=EL,res:=[.t 2]}
def Mw:AC:=.out [1,2,3,4] (.aa [0,1,2,3] [w 4 (.box az 0),w 8 (.ab (.c .bool false))])
def Mx:AC:=(.seq (.out [1,2,3,4,18] (.aa [1,2,3,4] [m 10 1,w 11 (.bin .lss 10 (.c U2 0)),m 12 11,⟨some 13,.mv 1,some (12,false)⟩,⟨some 14,.fieldAddr az [.r,.l] 4,some (12,false)⟩,⟨some 15,.load dT 14,some (12,false)⟩,⟨some 16,.ba 15,some (12,false)⟩,⟨some 17,.bin .geq 13 16,some (12,false)⟩,w 18 (.pick 12 (.c .bool true) 17)])) (.out [1,2,3,4,8] (.cond (.t 18) (.seq (.out [8] (.aa [] [w 8 (.ab (.c .bool false))])) .ret) .skip)))
def My:AC:=.out [1,2,4,9] (.aa [1,2,3,4] [m 19 3,w 20 (.ba 19),w 21 (.bin .gtr 20 (.c U2 0)),m 22 21,⟨some 23,.mv 3,some (22,true)⟩,⟨some 24,.indexAddr aA 23 (.c U2 0),some (22,true)⟩,⟨some 25,.load aA 24,some (22,true)⟩,⟨some 26,.call 87 [25],some (22,true)⟩,w 27 (.pick 22 26 (.c .bool false)),w 9 (.ab 27)])
def Mz:AC:=(.seq (.seq (.out [2,9,33] (.aa [1,2,4,9] [w 28 (.fieldAddr az [.r,.l] 4),w 29 (.load dT 28),m 30 1,w 31 (.indexAddr aG 29 30),w 32 (.fieldAddr aG [.r,.r,.r,.l] 31),w 33 (.load U2 32)])) (.out [8] (.block 0 (.seq (.out [2,9,33,34] (.aa [2,9,33] [w 35 (.bin .eql 33 (.c U2 0)),w 34 (.ab 35)])) (.out [8] (.cond (.t 34) (.seq (.out [8] (.aa [] [w 8 (.ab (.c .bool true))])) .ret) (.seq (.out [2,9,33,36] (.aa [2,9,33] [w 37 (.bin .eql 33 (.c U2 1)),w 36 (.ab 37)])) (.out [8] (.cond (.t 36) (.seq (.out [8] (.aa [9] [m 38 9,w 8 (.ab 38)])) .ret) (.seq (.out [2,9,33,39] (.aa [2,9,33] [w 40 (.bin .eql 33 (.c U2 2)),w 39 (.ab 40)])) (.out [8] (.cond (.t 39) (.seq (.out [8] (.aa [2,9] [m 41 9,m 42 41,⟨some 43,.mv 2,some (42,true)⟩,⟨some 44,.ba 43,some (42,true)⟩,⟨some 45,.bin .eql 44 (.c U2 0),some (42,true)⟩,w 46 (.pick 42 45 (.c .bool false)),w 8 (.ab 46)])) .ret) (.seq (.out [2,9,33,47] (.aa [2,9,33] [w 48 (.bin .eql 33 (.c U2 3)),w 47 (.ab 48)])) (.out [8] (.cond (.t 47) (.seq (.out [8] (.aa [2,9] [m 49 9,m 50 49,⟨some 51,.mv 2,some (50,true)⟩,⟨some 52,.ba 51,some (50,true)⟩,⟨some 53,.bin .gtr 52 (.c U2 0),some (50,true)⟩,w 54 (.pick 50 53 (.c .bool false)),m 55 54,⟨some 56,.mv 2,some (55,true)⟩,⟨some 57,.mv 2,some (55,true)⟩,⟨some 58,.ba 57,some (55,true)⟩,⟨some 59,.bin .sub 58 (.c U2 1),some (55,true)⟩,⟨some 60,.indexAddr aA 56 59,some (55,true)⟩,⟨some 61,.load aA 60,some (55,true)⟩,⟨some 62,.call 87 [61],some (55,true)⟩,w 63 (.pick 55 62 (.c .bool false)),w 8 (.ab 63)])) .ret) (.seq (.out [9,64] (.aa [9,33] [w 65 (.bin .eql 33 (.c U2 4)),w 64 (.ab 65)])) (.out [8] (.cond (.t 64) (.seq (.out [8] (.aa [9] [m 66 9,w 67 (.un .not 66),w 8 (.ab 67)])) .ret) .skip)))))))))))))))))) (.seq (.out [8] (.aa [] [w 8 (.ab (.c .bool false))])) .ret))
def MA:AC:=(.seq My Mz)
def MB:AC:=(.seq Mx MA)
def Em:AC:=(.seq Mw MB)
def El:AC:=Em
def d60:FD:={nargs:=4,body:=El,res:=[.t 8]}
def Nc:AC:=(.seq (.out [0,1] (.aa [0,1] [w 4 (.ab (.c .bool false))])) (.seq (.out [4] (.aa [0,1] [m 5 0,w 6 (.bO 5),m 7 1,w 8 (.bO 7),w 9 (.bin .geq 6 8),m 10 9,⟨some 11,.mv 0,some (10,true)⟩,⟨some 12,.mv 1,some (10,true)⟩,⟨some 13,.bO 12,some (10,true)⟩,⟨some 14,.iI 11 none (some 13),some (10,true)⟩,⟨some 15,.mv 1,some (10,true)⟩,⟨some 16,.bin .eql 14 15,some (10,true)⟩,w 17 (.pick 10 16 (.c .bool false)),w 4 (.ab 17)])) .ret))
def EJ:AC:=Nc
def d83:FD:={nargs:=2,body:=EJ,res:=[.t 4]}
def Mp:AC:=(.seq (.out [0,1] (.aa [0,1] [w 4 (.ab (.c .bool false))])) (.seq (.out [4] (.aa [0,1] [m 5 0,m 6 1,w 7 (.call 83 [5,6]),w 4 (.ab 7)])) .ret))
def Ef:AC:=Mp
def d54:FD:={nargs:=2,body:=Ef,res:=[.t 4]}
def M7:AC:=.out [0,3,5,12,13,14] (.aa [0,3,5] [m 8 0,w 9 (.jf 8),w 10 (.fieldAddr bB [.l] 9),w 11 (.fieldAddr az [.r,.l] 10),w 12 (.load dT 11),w 13 (.ba 12),w 14 (.mv (.c U2 0))])
def EG:AC:=(.seq (.out [0,3,5,12,13,14,15] (.aa [0,3,5,12,13,14] [w 15 (.bin .lss 14 13)])) (.seq (.out [0,3,5,12,13,14] (.cond (.t 15) .skip (.exit 0))) (.seq (.out [0,3,5,12,13,14] (.block 1 (.seq (.out [0,3,5,6,7,12,13,14] (.aa [0,3,5,12,13,14] [m 16 14,w 17 (.indexAddr aG 12 14),w 18 (.load aG 17),w 7 (.alloc aG (.pair .no (.pair (.own true 40 .no) (.pair .no (.pair .no .no))))),w 6 (.ab 16),⟨none,.store aG 7 18,none⟩])) (.seq (.out [0,3,5,6,7,12,13,14,48] (.draw [0,3,5,6,7,12,13,14] [⟨m 19 0,[23,24,26,27],[19],[],false,[]⟩,⟨w 20 (.jf 19),[23,24,26,27],[20],[0],false,[]⟩,⟨w 21 (.fieldAddr bB [.r,.l] 20),[23,24,26,27],[21],[0,1],false,[]⟩,⟨w 22 (.load .str 21),[23,24,26,27],[22],[0,1,2],false,[]⟩,⟨w 23 (.fieldAddr aX [.r,.r,.l] 3),[19,20,21,22,26,27],[23],[],false,[]⟩,⟨w 24 (.load U2 23),[19,20,21,22,26,27],[24],[4],false,[]⟩,⟨w 25 (.iI 22 (some 24) none),[26,27],[25],[0,1,2,3,4,5],false,[]⟩,⟨w 26 (.fieldAddr aG [.l] 7),[19,20,21,22,23,24,25],[26],[],false,[]⟩,⟨w 27 (.load .str 26),[19,20,21,22,23,24,25],[27],[7],false,[]⟩,⟨w 28 (.call 54 [25,27]),[],[28],[0,1,2,3,4,5,6,7,8],false,[]⟩,⟨m 29 28,[],[29],[0,1,2,3,4,5,6,7,8,9],false,[]⟩,⟨⟨some 30,.fieldAddr aX [.r,.l] 3,some (29,true)⟩,[],[30],[0,1,2,3,4,5,6,7,8,9,10],false,[]⟩,⟨⟨some 31,.load U2 30,some (29,true)⟩,[],[31],[0,1,2,3,4,5,6,7,8,9,10,11],false,[]⟩,⟨⟨some 32,.bin .lss 31 (.c U2 0),some (29,true)⟩,[],[32],[0,1,2,3,4,5,6,7,8,9,10,11,12],false,[]⟩,⟨⟨some 33,.mv 32,some (29,true)⟩,[],[33],[0,1,2,3,4,5,6,7,8,9,10,11,12,13],false,[]⟩,⟨⟨some 34,.mv 0,some (33,false)⟩,[38,39,40,41,42,43,44,45],[34],[0,1,2,3,4,5,6,7,8,9,10,11,12,13,14],false,[]⟩,⟨⟨some 35,.jf 34,some (33,false)⟩,[38,39,40,41,42,43,44,45],[35],[0,1,2,3,4,5,6,7,8,9,10,11,12,13,14,15],false,[]⟩,⟨⟨some 36,.fieldAddr bB [.l] 35,some (33,false)⟩,[38,39,40,41,42,43,44,45],[36],[0,1,2,3,4,5,6,7,8,9,10,11,12,13,14,15,16],false,[]⟩,⟨⟨some 37,.load az 36,some (33,false)⟩,[38,39,40,41,42,43,44,45],[37],[0,1,2,3,4,5,6,7,8,9,10,11,12,13,14,15,16,17],false,[]⟩,⟨⟨some 38,.fieldAddr aX [.r,.l] 3,some (33,false)⟩,[34,35,36,37,40,41,42,43,44,45],[38],[0,1,2,3,4,5,6,7,8,9,10,11,12,13,14],false,[]⟩,⟨⟨some 39,.load U2 38,some (33,false)⟩,[34,35,36,37,40,41,42,43,44,45],[39],[0,1,2,3,4,5,6,7,8,9,10,11,12,13,14,19],false,[]⟩,⟨⟨some 40,.mv 0,some (33,false)⟩,[34,35,36,37,38,39,41,42,44,45],[40],[0,1,2,3,4,5,6,7,8,9,10,11,12,13,14],false,[]⟩,⟨⟨some 41,.fieldAddr aX [.l] 3,some (33,false)⟩,[34,35,36,37,38,39,40,44,45],[41],[0,1,2,3,4,5,6,7,8,9,10,11,12,13,14],false,[]⟩,⟨⟨some 42,.load U2 41,some (33,false)⟩,[34,35,36,37,38,39,40,44,45],[42],[0,1,2,3,4,5,6,7,8,9,10,11,12,13,14,22],false,[]⟩,⟨⟨some 43,.call 73 [40,42],some (33,false)⟩,[34,35,36,37,38,39,44,45],[43],[0,1,2,3,4,5,6,7,8,9,10,11,12,13,14,21,22,23],false,[]⟩,⟨⟨some 44,.fieldAddr aG [.r,.l] 7,some (33,false)⟩,[34,35,36,37,38,39,40,41,42,43],[44],[0,1,2,3,4,5,6,7,8,9,10,11,12,13,14],false,[]⟩,⟨⟨some 45,.load bD 44,some (33,false)⟩,[34,35,36,37,38,39,40,41,42,43],[45],[0,1,2,3,4,5,6,7,8,9,10,11,12,13,14,25],false,[]⟩,⟨⟨some 46,.call 60 [37,39,43,45],some (33,false)⟩,[],[46],[0,1,2,3,4,5,6,7,8,9,10,11,12,13,14,15,16,17,18,19,20,21,22,23,24,25,26],false,[]⟩,⟨⟨some 47,.pick 33 (.c .bool true) 46,some (29,true)⟩,[],[47],[0,1,2,3,4,5,6,7,8,9,10,11,12,13,14,15,16,17,18,19,20,21,22,23,24,25,26,27],false,[]⟩,⟨w 48 (.pick 29 47 (.c .bool false)),[],[48],[0,1,2,3,4,5,6,7,8,9,10,11,12,13,14,15,16,17,18,19,20,21,22,23,24,25,26,27,28],false,[]⟩])) (.out [0,3,5,12,13,14] (.cond (.t 48) (.out [0,3,5,12,13,14] (.aa [0,3,5,6,7,12,13,14] [m 49 5,w 50 (.fieldAddr aX [.r,.l] 3),w 51 (.load U2 50),m 52 6,w 53 (.fieldAddr aX [.r,.r,.l] 3),w 54 (.load U2 53),w 55 (.fieldAddr aG [.l] 7),w 56 (.load .str 55),w 57 (.bO 56),w 58 (.bin .add 54 57),w 59 (.build aX [([.l],51),([.r,.l],52),([.r,.r,.l],58)]),w 60 (.buildSlice 73 aX [59]),w 61 (.append 73 aX 5864062014805 49 60),w 5 (.ab 61)])) .skip)))))) (.out [0,3,5,12,13,14] (.aa [0,3,5,12,13,14] [w 62 (.bin .add 14 (.c U2 1)),m 14 62])))))
def EH:AC:=.out [5] (.loop [0,3,5,12,13,14] EG)
def M8:AC:=.out [5] (.block 0 EH)
def M9:AC:=(.seq M7 M8)
def Na:AC:=(.seq (.out [4,5] (.aa [5] [m 63 5,w 4 (.ab 63)])) .ret)
def ze:AC:=(.seq M9 Na)
def zf:AC:=(.seq (.out [0,3] (.aa [0,1] [w 3 (.box aX 1),w 4 (.ab (.nil 73 aX))])) (.seq (.out [0,3,5] (.aa [0,3] [w 5 (.ab (.nil 73 aX))])) ze))
def EF:AC:=zf
def d74:FD:={nargs:=2,body:=EF,res:=[.t 4]}
def L0:AC:=.out [0,3,7,47,48,49] (.aa [0,3,7] [m 45 0,w 46 (.load aX 3),w 47 (.call 74 [45,46]),w 48 (.ba 47),w 49 (.mv (.c U2 0))])
def DV:AC:=(.seq (.out [0,3,7,47,48,49,50] (.aa [0,3,7,47,48,49] [w 50 (.bin .lss 49 48)])) (.seq (.out [0,3,7,47,48,49] (.cond (.t 50) .skip (.exit 0))) (.seq (.out [0,3,7,47,48,49] (.block 1 (.seq (.out [0,3,7,9,47,48,49] (.aa [0,3,7,47,48,49] [w 51 (.indexAddr aX 47 49),w 52 (.load aX 51),w 9 (.alloc aX .no),⟨none,.store aX 9 52,none⟩])) (.out [0,3,7,47,48,49] (.aa [0,3,7,9,47,48,49] [m 53 7,m 54 0,w 55 (.load aX 9),w 56 (.kg 41 54 [55]),w 57 (.bin .add 53 56),w 58 (.mm false 57 (.c U2 201)),w 7 (.ab 58)]))))) (.out [0,3,7,47,48,49] (.aa [0,3,7,47,48,49] [w 59 (.bin .add 49 (.c U2 1)),m 49 59])))))
def DW:AC:=.out [0,3,7] (.loop [0,3,7,47,48,49] DV)
def L1:AC:=.out [0,3,7] (.block 0 DW)
def L2:AC:=(.seq L0 L1)
def L3:AC:=(.seq (.out [0,7] (.draw [0,3,7] [⟨m 60 0,[64,65],[60],[],false,[]⟩,⟨w 61 (.jf 60),[64,65],[61],[0],false,[]⟩,⟨w 62 (.fieldAddr bB [.r,.r,.l] 61),[64,65],[62],[0,1],false,[]⟩,⟨w 63 (.load BS 62),[64,65],[63],[0,1,2],false,[]⟩,⟨w 64 (.load aX 3),[60,61,62,63,65],[64],[],false,[]⟩,⟨m 65 7,[60,61,62,63,64],[65],[],false,[]⟩,⟨⟨none,.Bc aX U2 63 64 65,none⟩,[],[0,60,61,62,63],[0,1,2,3,4,5],true,[]⟩])) (.seq (.out [0,4] (.aa [0,7] [m 66 7,w 4 (.ab 66)])) .ret))
def yJ:AC:=(.seq L2 L3)
def yK:AC:=(.seq (.out [0,3] (.aa [0,1] [w 3 (.box aX 1),w 4 (.ab (.c U2 0))])) (.seq (.seq (.out [0,3,17] (.draw [0,3] [⟨w 10 (.fieldAddr aX [.r,.r,.l] 3),[12,13,14,15,16],[10],[],false,[]⟩,⟨w 11 (.load U2 10),[12,13,14,15,16],[11],[0],false,[]⟩,⟨m 12 0,[10,11],[12],[],false,[]⟩,⟨w 13 (.jf 12),[10,11],[13],[2],false,[]⟩,⟨w 14 (.fieldAddr bB [.r,.l] 13),[10,11],[14],[2,3],false,[]⟩,⟨w 15 (.load .str 14),[10,11],[15],[2,3,4],false,[]⟩,⟨w 16 (.bO 15),[10,11],[16],[2,3,4,5],false,[]⟩,⟨w 17 (.bin .eql 11 16),[],[17],[0,1,2,3,4,5,6],false,[]⟩])) (.out [0,3,4] (.cond (.t 17) (.seq (.seq (.out [0,33] (.draw [0,3] [⟨w 18 (.fieldAddr aX [.r,.l] 3),[],[18],[],false,[]⟩,⟨w 19 (.load U2 18),[],[19],[0],false,[]⟩,⟨w 20 (.bin .geq 19 (.c U2 0)),[],[20],[0,1],false,[]⟩,⟨m 21 20,[],[21],[0,1,2],false,[]⟩,⟨⟨some 22,.mv 0,some (21,true)⟩,[26,27,28,29,30,31],[22],[0,1,2,3],false,[]⟩,⟨⟨some 23,.jf 22,some (21,true)⟩,[26,27,28,29,30,31],[23],[0,1,2,3,4],false,[]⟩,⟨⟨some 24,.fieldAddr bB [.l] 23,some (21,true)⟩,[26,27,28,29,30,31],[24],[0,1,2,3,4,5],false,[]⟩,⟨⟨some 25,.load az 24,some (21,true)⟩,[26,27,28,29,30,31],[25],[0,1,2,3,4,5,6],false,[]⟩,⟨⟨some 26,.fieldAddr aX [.r,.l] 3,some (21,true)⟩,[22,23,24,25,28,29,30,31],[26],[0,1,2,3],false,[]⟩,⟨⟨some 27,.load U2 26,some (21,true)⟩,[22,23,24,25,28,29,30,31],[27],[0,1,2,3,8],false,[]⟩,⟨⟨some 28,.mv 0,some (21,true)⟩,[22,23,24,25,26,27,29,30],[28],[0,1,2,3],false,[]⟩,⟨⟨some 29,.fieldAddr aX [.l] 3,some (21,true)⟩,[22,23,24,25,26,27,28],[29],[0,1,2,3],false,[]⟩,⟨⟨some 30,.load U2 29,some (21,true)⟩,[22,23,24,25,26,27,28],[30],[0,1,2,3,11],false,[]⟩,⟨⟨some 31,.call 73 [28,30],some (21,true)⟩,[22,23,24,25,26,27],[31],[0,1,2,3,10,11,12],false,[]⟩,⟨⟨some 32,.call 60 [25,27,31,(.nil 40 aA)],some (21,true)⟩,[],[32],[0,1,2,3,4,5,6,7,8,9,10,11,12,13],false,[]⟩,⟨w 33 (.pick 21 32 (.c .bool false)),[],[33],[0,1,2,3,4,5,6,7,8,9,10,11,12,13,14],false,[]⟩])) (.out [0,4] (.cond (.t 33) (.seq (.out [0,4] (.aa [0] [w 4 (.ab (.c U2 1))])) .ret) .skip))) (.seq (.out [0,4] (.aa [0] [w 4 (.ab (.c U2 0))])) .ret)) .skip))) (.seq (.seq (.out [0,3,5,6] (.draw [0,3] [⟨m 35 0,[39],[35],[],false,[]⟩,⟨w 36 (.jf 35),[39],[36],[0],false,[]⟩,⟨w 37 (.fieldAddr bB [.r,.r,.l] 36),[39],[37],[0,1],false,[]⟩,⟨w 38 (.load BS 37),[39],[38],[0,1,2],false,[]⟩,⟨w 39 (.load aX 3),[35,36,37,38],[39],[],false,[]⟩,⟨w 40 (.Ba aX U2 38 39),[],[40],[0,1,2,3,4],true,[]⟩,⟨m 34 40,[],[34],[0,1,2,3,4,5],true,[]⟩,⟨w 41 (.extract 34 0),[42],[41],[0,1,2,3,4,5,6],false,[]⟩,⟨w 42 (.extract 34 1),[5,41],[42],[0,1,2,3,4,5,6],false,[]⟩,⟨w 5 (.ab 41),[42],[5],[0,1,2,3,4,5,6,7],false,[]⟩,⟨w 6 (.ab 42),[],[6],[0,1,2,3,4,5,6,7,8,9],false,[]⟩])) (.seq (.out [0,3,5,43] (.aa [0,3,5,6] [m 43 6])) (.out [0,3,4] (.cond (.t 43) (.seq (.out [0,4] (.aa [0,5] [m 44 5,w 4 (.ab 44)])) .ret) .skip)))) (.seq (.out [0,3,7] (.aa [0,3] [w 7 (.ab (.c U2 0))])) yJ))))
def DU:AC:=yK
def d41:FD:={nargs:=2,body:=DU,res:=[.t 4],lend:=true}
def L4:AC:=.out [0,5,21,22,23] (.aa [0,3,5] [m 19 0,w 20 (.load aX 3),w 21 (.call 74 [19,20]),w 22 (.ba 21),w 23 (.mv (.c U2 0))])
def DY:AC:=(.seq (.out [0,5,7,21,22,23,33,34,35,36] (.aa [0,5,7,21,22,23,33,34,35] [w 36 (.bin .lss 35 34)])) (.seq (.out [0,5,7,21,22,23,33,34,35] (.cond (.t 36) .skip (.exit 2))) (.seq (.out [0,5,7,21,22,23,33,34,35] (.block 3 (.seq (.out [0,5,7,9,21,22,23,33,34,35] (.aa [0,5,7,21,22,23,33,34,35] [w 37 (.indexAddr U5 33 35),w 38 (.load U5 37),w 9 (.ab 38)])) (.out [0,5,7,21,22,23,33,34,35] (.aa [0,5,7,9,21,22,23,33,34,35] [m 39 5,w 40 (.fieldAddr aX [.r,.l] 7),w 41 (.load U2 40),w 42 (.buildSlice 3 U2 [41]),m 43 9,w 44 (.append 3 U2 17592186044416 42 43),w 45 (.buildSlice 27 U5 [44]),w 46 (.append 27 U5 5864062014805 39 45),w 5 (.ab 46)]))))) (.out [0,5,7,21,22,23,33,34,35] (.aa [0,5,7,21,22,23,33,34,35] [w 47 (.bin .add 35 (.c U2 1)),m 35 47])))))
def DZ:AC:=.out [0,5,21,22,23] (.loop [0,5,7,21,22,23,33,34,35] DY)
def yN:AC:=.out [0,5,21,22,23] (.block 2 DZ)
def D0:AC:=(.seq (.out [0,5,7,21,22,23] (.aa [0,5,21,22,23] [w 25 (.indexAddr aX 21 23),w 26 (.load aX 25),w 7 (.alloc aX .no),⟨none,.store aX 7 26,none⟩])) (.seq (.seq (.out [0,5,7,21,22,23,30] (.aa [0,5,7,21,22,23] [m 27 0,w 28 (.load aX 7),w 29 (.kg 41 27 [28]),w 30 (.bin .eql 29 (.c U2 0))])) (.out [0,5,7,21,22,23] (.cond (.t 30) (.exit 1) .skip))) (.seq (.out [0,5,7,21,22,23,33,34,35] (.aa [0,5,7,21,22,23] [m 31 0,w 32 (.load aX 7),w 33 (.kg 42 31 [32]),w 34 (.ba 33),w 35 (.mv (.c U2 0))])) yN)))
def D1:AC:=.out [0,5,21,22,23] (.block 1 D0)
def L8:AC:=.out [0,5,21,22,23] (.aa [0,5,21,22,23] [w 48 (.bin .add 23 (.c U2 1)),m 23 48])
def yO:AC:=(.seq D1 L8)
def s5:AC:=(.seq (.out [0,5,21,22,23,24] (.aa [0,5,21,22,23] [w 24 (.bin .lss 23 22)])) (.seq (.out [0,5,21,22,23] (.cond (.t 24) .skip (.exit 0))) yO))
def D2:AC:=.out [0,5] (.loop [0,5,21,22,23] s5)
def L5:AC:=.out [0,5] (.block 0 D2)
def L6:AC:=(.seq L4 L5)
def L7:AC:=(.seq (.out [0,4,5] (.aa [0,5] [m 49 5,w 4 (.ab 49)])) .ret)
def yL:AC:=(.seq L6 L7)
def yM:AC:=(.seq (.out [0,3] (.aa [0,1] [w 3 (.box aX 1),w 4 (.ab (.nil 27 U5))])) (.seq (.seq (.out [0,3,17] (.draw [0,3] [⟨w 10 (.fieldAddr aX [.r,.r,.l] 3),[12,13,14,15,16],[10],[],false,[]⟩,⟨w 11 (.load U2 10),[12,13,14,15,16],[11],[0],false,[]⟩,⟨m 12 0,[10,11],[12],[],false,[]⟩,⟨w 13 (.jf 12),[10,11],[13],[2],false,[]⟩,⟨w 14 (.fieldAddr bB [.r,.l] 13),[10,11],[14],[2,3],false,[]⟩,⟨w 15 (.load .str 14),[10,11],[15],[2,3,4],false,[]⟩,⟨w 16 (.bO 15),[10,11],[16],[2,3,4,5],false,[]⟩,⟨w 17 (.bin .eql 11 16),[],[17],[0,1,2,3,4,5,6],false,[]⟩])) (.out [0,3,4] (.cond (.t 17) (.seq (.out [0,4] (.aa [0] [w 18 (.buildSlice 27 U5 [(.nil 3 U2)]),w 4 (.ab 18)])) .ret) .skip))) (.seq (.out [0,3,5] (.aa [0,3] [w 5 (.ab (.nil 27 U5))])) yL)))
def DX:AC:=yM
def d42:FD:={nargs:=2,body:=DX,res:=[.t 4],lend:=true}
def LV:AC:=.out [2,5,8,9,10] (.aa [1,2,5] [m 8 1,w 9 (.ba 8),w 10 (.mv (.c U2 0))])
def DR:AC:=(.seq (.out [2,5,8,9,10,11] (.aa [2,5,8,9,10] [w 11 (.bin .lss 10 9)])) (.seq (.out [2,5,8,9,10] (.cond (.t 11) .skip (.exit 0))) (.seq (.out [2,5,8,9,10] (.block 1 (.seq (.out [2,5,7,8,9,10] (.aa [2,5,8,9,10] [w 12 (.indexAddr U2 8 10),w 13 (.load U2 12),w 7 (.ab 13)])) (.out [2,5,8,9,10] (.aa [2,5,7,8,9,10] [m 14 5,w 15 (.fieldAddr az [.r,.l] 2),w 16 (.load dT 15),m 17 7,w 18 (.indexAddr aG 16 17),w 19 (.fieldAddr aG [.r,.r,.l] 18),w 20 (.load U2 19),w 21 (.bin .add 14 20),w 5 (.ab 21)]))))) (.out [2,5,8,9,10] (.aa [2,5,8,9,10] [w 22 (.bin .add 10 (.c U2 1)),m 10 22])))))
def DS:AC:=.out [5] (.loop [2,5,8,9,10] DR)
def LW:AC:=.out [5] (.block 0 DS)
def LX:AC:=(.seq LV LW)
def LY:AC:=(.seq (.out [4] (.aa [5] [m 23 5,w 4 (.ab 23)])) .ret)
def yH:AC:=(.seq LX LY)
def yI:AC:=(.seq (.out [1,2] (.aa [0,1] [w 2 (.box az 0),w 4 (.ab (.c U2 0))])) (.seq (.out [1,2,5] (.aa [1,2] [w 5 (.ab (.c U2 0))])) yH))
def DQ:AC:=yI
def d38:FD:={nargs:=2,body:=DQ,res:=[.t 4]}
def Nb:AC:=(.seq (.out [0] (.aa [0] [w 2 (.ab (.c .bool false))])) (.seq (.out [2] (.aa [0] [m 3 0,m 4 0,w 5 (.bin .neq 3 4),w 2 (.ab 5)])) .ret))
def EI:AC:=Nb
def d77:FD:={nargs:=1,body:=EI,res:=[.t 2]}
def Me:AC:=(.seq (.out [0,1] (.aa [0,1] [w 4 (.ab (.c U2 0))])) (.seq (.out [0,1,5] (.aa [0,1] [m 7 0,w 8 (.call 77 [7]),w 5 (.ab 8)])) (.seq (.out [0,1,5,6] (.aa [0,1,5] [m 9 1,w 10 (.call 77 [9]),w 6 (.ab 10)])) (.seq (.seq (.out [0,1,6,11] (.aa [0,1,5,6] [m 11 5])) (.out [0,1,4,6] (.cond (.t 11) (.seq (.seq (.out [12] (.aa [6] [m 12 6])) (.out [4] (.cond (.t 12) (.seq (.out [4] (.aa [] [w 4 (.ab (.c U2 0))])) .ret) .skip))) (.seq (.out [4] (.aa [] [w 4 (.ab (.c U2 (-1)))])) .ret)) .skip))) (.seq (.seq (.out [0,1,13] (.aa [0,1,6] [m 13 6])) (.out [0,1,4] (.cond (.t 13) (.seq (.out [4] (.aa [] [w 4 (.ab (.c U2 1))])) .ret) .skip))) (.seq (.seq (.out [0,1,16] (.aa [0,1] [m 14 0,m 15 1,w 16 (.bin .lss 14 15)])) (.out [0,1,4] (.cond (.t 16) (.seq (.out [4] (.aa [] [w 4 (.ab (.c U2 (-1)))])) .ret) .skip))) (.seq (.seq (.out [19] (.aa [0,1] [m 17 0,m 18 1,w 19 (.bin .gtr 17 18)])) (.out [4] (.cond (.t 19) (.seq (.out [4] (.aa [] [w 4 (.ab (.c U2 1))])) .ret) .skip))) (.seq (.out [4] (.aa [] [w 4 (.ab (.c U2 0))])) .ret))))))))
def D7:AC:=Me
def d46:FD:={nargs:=2,body:=D7,res:=[.t 4]}
def Mf:AC:=.out [0,1] (.aa [0,1] [w 4 (.ab (.c U2 0))])
def Mg:AC:=.out [0,1,9,10,11] (.aa [0,1] [m 9 0,w 10 (.ba 9),w 11 (.mv (.c U2 0))])
def D9:AC:=(.seq (.out [0,1,9,10,11,12] (.aa [0,1,9,10,11] [w 12 (.bin .lss 11 10)])) (.seq (.out [0,1,9,10,11] (.cond (.t 12) .skip (.exit 0))) (.seq (.out [0,1,4,9,10,11] (.block 1 (.seq (.out [0,1,5,6,9,10,11] (.aa [0,1,9,10,11] [m 13 11,w 14 (.indexAddr U2 9 11),w 15 (.load U2 14),w 5 (.ab 13),w 6 (.ab 15)])) (.seq (.seq (.out [0,1,5,6,9,10,11,19] (.aa [0,1,5,6,9,10,11] [m 16 5,m 17 1,w 18 (.ba 17),w 19 (.bin .geq 16 18)])) (.out [0,1,4,5,6,9,10,11] (.cond (.t 19) (.seq (.out [4] (.aa [] [w 4 (.ab (.c U2 1))])) .ret) .skip))) (.seq (.out [0,1,6,7,9,10,11] (.aa [0,1,5,6,9,10,11] [m 20 1,m 21 5,w 22 (.indexAddr U2 20 21),w 23 (.load U2 22),w 7 (.ab 23)])) (.seq (.out [0,1,8,9,10,11] (.aa [0,1,6,7,9,10,11] [m 24 6,m 25 7,w 26 (.call 46 [24,25]),w 8 (.ab 26)])) (.seq (.out [0,1,8,9,10,11,28] (.aa [0,1,8,9,10,11] [m 27 8,w 28 (.bin .neq 27 (.c U2 0))])) (.out [0,1,4,9,10,11] (.cond (.t 28) (.seq (.out [4] (.aa [8] [m 29 8,w 4 (.ab 29)])) .ret) .skip))))))))) (.out [0,1,9,10,11] (.aa [0,1,9,10,11] [w 30 (.bin .add 11 (.c U2 1)),m 11 30])))))
def Ea:AC:=.out [0,1,4] (.loop [0,1,9,10,11] D9)
def Mh:AC:=.out [0,1,4] (.block 0 Ea)
def Mi:AC:=(.seq Mg Mh)
def Mj:AC:=(.seq (.seq (.out [35] (.aa [0,1] [m 31 0,w 32 (.ba 31),m 33 1,w 34 (.ba 33),w 35 (.bin .lss 32 34)])) (.out [4] (.cond (.t 35) (.seq (.out [4] (.aa [] [w 4 (.ab (.c U2 (-1)))])) .ret) .skip))) (.seq (.out [4] (.aa [] [w 4 (.ab (.c U2 0))])) .ret))
def Mk:AC:=(.seq Mi Mj)
def Eb:AC:=(.seq Mf Mk)
def D8:AC:=Eb
def d47:FD:={nargs:=2,body:=D8,res:=[.t 4]}
def Ma:AC:=.out [3,6,7,8] (.aa [0,3] [m 6 0,w 7 (.ba 6),w 8 (.mv (.c U2 0))])
def D5:AC:=(.seq (.out [3,6,7,8,9] (.aa [3,6,7,8] [w 9 (.bin .lss 8 7)])) (.seq (.out [3,6,7,8] (.cond (.t 9) .skip (.exit 0))) (.seq (.out [2,3,6,7,8] (.block 1 (.seq (.out [3,5,6,7,8] (.aa [3,6,7,8] [w 10 (.indexAddr U2 6 8),w 11 (.load U2 10),w 5 (.ab 11)])) (.seq (.out [3,5,6,7,8,14] (.aa [3,5,6,7,8] [m 12 5,m 13 3,w 14 (.bin .neq 12 13)])) (.out [2,3,6,7,8] (.cond (.t 14) (.seq (.out [2] (.aa [5] [m 15 5,w 2 (.ab 15)])) .ret) .skip)))))) (.out [3,6,7,8] (.aa [3,6,7,8] [w 16 (.bin .add 8 (.c U2 1)),m 8 16])))))
def D6:AC:=.out [2,3] (.loop [3,6,7,8] D5)
def Mb:AC:=.out [2,3] (.block 0 D6)
def Mc:AC:=(.seq Ma Mb)
def Md:AC:=(.seq (.out [2] (.aa [3] [m 17 3,w 2 (.ab 17)])) .ret)
def yP:AC:=(.seq Mc Md)
def yQ:AC:=(.seq (.out [0] (.aa [0] [w 2 (.ab (.c U2 0))])) (.seq (.out [0,3] (.aa [0] [w 3 (.ab (.c U2 0))])) yP))
def D4:AC:=yQ
def d45:FD:={nargs:=1,body:=D4,res:=[.t 2]}
def L9:AC:=(.seq (.out [0,1,2] (.aa [0,1,2] [w 5 (.ab (.c U2 0))])) (.seq (.out [5] (.draw [0,1,2] [⟨w 6 (.load az 2),[7,9,10,13,14],[6],[],false,[]⟩,⟨m 7 0,[6,9,10,13,14],[7],[],false,[]⟩,⟨w 8 (.call 38 [6,7]),[9,10,13,14],[8],[0,1],false,[]⟩,⟨w 9 (.load az 2),[6,7,8,10,13,14],[9],[],false,[]⟩,⟨m 10 1,[6,7,8,9,13,14],[10],[],false,[]⟩,⟨w 11 (.call 38 [9,10]),[13,14],[11],[0,1,2,3,4],false,[]⟩,⟨w 12 (.call 46 [8,11]),[13,14],[12],[0,1,2,3,4,5],false,[]⟩,⟨m 13 0,[6,7,8,9,10,11,12,14],[13],[],false,[]⟩,⟨m 14 1,[6,7,8,9,10,11,12,13],[14],[],false,[]⟩,⟨w 15 (.call 47 [13,14]),[],[15],[0,1,2,3,4,5,6,7,8],false,[]⟩,⟨w 16 (.buildSlice 3 U2 [12,15]),[],[16],[0,1,2,3,4,5,6,7,8,9],false,[]⟩,⟨w 17 (.call 45 [16]),[],[17],[0,1,2,3,4,5,6,7,8,9,10],false,[]⟩,⟨w 5 (.ab 17),[],[5],[0,1,2,3,4,5,6,7,8,9,10,11],false,[]⟩])) .ret))
def D3:AC:=L9
def d44:FD:={nargs:=3,body:=D3,res:=[.t 5]}
def Lq:AC:=(.seq (.out [1,2] (.aa [0,1] [w 2 (.box az 0),w 4 (.ab (.nil 27 U5)),w 5 (.ab (.c U2 0))])) (.seq (.seq (.out [1,2,6] (.aa [1,2] [w 11 (.load az 2),m 12 1,w 13 (.call 40 [11,12]),w 6 (.ab 13)])) (.seq (.out [1,2,6,15] (.aa [1,2,6] [m 14 6,w 15 (.bin .neq 14 (.c U2 0))])) (.out [1,2,4,5] (.cond (.t 15) (.seq (.out [4,5] (.aa [6] [m 16 6,w 4 (.ab (.nil 27 U5)),w 5 (.ab 16)])) .ret) .skip)))) (.seq (.out [2,7,21] (.aa [1,2] [w 17 (.load az 2),m 18 1,w 19 (.Bb aX U2),w 20 (.xM bB [.r,.r,.l] 19 [([.l],17),([.r,.l],18)]),w 21 (.xL bB 20),w 7 (.ab 21)])) (.seq (.out [2,7,8,21] (.aa [2,7,21] [w 22 (.build aX [([.l],(.c U2 (-1))),([.r,.l],(.c U2 (-1))),([.r,.r,.l],(.c U2 0))]),w 8 (.alloc aX .no),⟨none,.store aX 8 22,none⟩])) (.seq (.seq (.out [2,7,8,9,21] (.aa [2,7,8,21] [m 23 7,w 24 (.load aX 8),w 25 (.kg 41 23 [24]),w 9 (.ab 25)])) (.out [2,4,5,7,8,21] (.block 0 (.seq (.out [2,7,8,9,21,26] (.aa [2,7,8,9,21] [m 27 9,w 28 (.bin .eql 27 (.c U2 0)),w 26 (.ab 28)])) (.out [2,4,5,7,8,21] (.cond (.t 26) (.seq (.out [4,5] (.aa [] [w 4 (.ab (.nil 27 U5)),w 5 (.ab (.c U2 9))])) .ret) (.seq (.out [2,7,8,21,29] (.aa [2,7,8,9,21] [m 30 9,w 31 (.bin .gtr 30 (.c U2 200)),w 29 (.ab 31)])) (.out [2,4,5,7,8,21] (.cond (.t 29) (.seq (.out [4,5] (.aa [] [w 4 (.ab (.nil 27 U5)),w 5 (.ab (.c U2 3))])) .ret) .skip))))))))) (.seq (.out [2,10] (.aa [2,7,8,21] [m 32 7,w 33 (.load aX 8),w 34 (.kg 42 32 [33]),w 10 (.ab 34)])) (.seq (.out [10] (.aa [2,10] [m 35 10,w 36 (.pg 44 xr U2 [2]),w 37 (.iD 43 35 36)])) (.seq (.out [4,5,10] (.aa [10] [m 38 10,w 4 (.ab 38),w 5 (.ab (.c U2 0))])) .ret))))))))
def Ds:AC:=Lq
def d16:FD:={nargs:=2,body:=Ds,res:=[.t 4,.t 5]}
def KM:AC:=(.seq (.out [1,2] (.aa [0,1] [w 2 (.box az 0),w 4 (.ab (.nil 3 U2)),w 5 (.ab (.c U2 0)),w 6 (.ab (.c U2 0))])) (.seq (.out [2,7,8] (.aa [1,2] [w 10 (.load az 2),m 11 1,w 12 (.call 16 [10,11]),m 9 12,w 13 (.extract 9 0),w 14 (.extract 9 1),w 7 (.ab 13),w 8 (.ab 14)])) (.seq (.seq (.out [2,7,8,16] (.aa [2,7,8] [m 15 8,w 16 (.bin .neq 15 (.c U2 0))])) (.out [2,4,5,6,7] (.cond (.t 16) (.seq (.out [4,5,6] (.aa [8] [m 17 8,w 4 (.ab (.nil 3 U2)),w 5 (.ab (.c U2 0)),w 6 (.ab 17)])) .ret) .skip))) (.seq (.out [4,5,6] (.draw [2,7] [⟨m 18 7,[21,22,23,24,25],[18],[],false,[]⟩,⟨w 19 (.indexAddr U5 18 (.c U2 0)),[21,22,23,24,25],[19],[0],false,[]⟩,⟨w 20 (.load U5 19),[21,22,23,24,25],[20],[0,1],false,[]⟩,⟨w 21 (.load az 2),[18,19,20,22,23,24],[21],[],false,[]⟩,⟨m 22 7,[18,19,20,21],[22],[],false,[]⟩,⟨w 23 (.indexAddr U5 22 (.c U2 0)),[18,19,20,21],[23],[4],false,[]⟩,⟨w 24 (.load U5 23),[18,19,20,21],[24],[4,5],false,[]⟩,⟨w 25 (.call 38 [21,24]),[18,19,20],[25],[3,4,5,6],false,[]⟩,⟨w 4 (.ab 20),[],[4],[0,1,2,3,4,5,6,7],true,[]⟩,⟨w 5 (.ab 25),[],[5],[0,1,2,3,4,5,6,7,8],false,[]⟩,⟨w 6 (.ab (.c U2 0)),[],[6],[0,1,2,3,4,5,6,7,8,9],false,[]⟩])) .ret))))
def CL:AC:=KM
def d13:FD:={nargs:=2,body:=CL,res:=[.p 4,.t 5,.t 6]}
def Mr:AC:=.out [2,6,9,10,11] (.aa [1,2,6] [m 9 1,w 10 (.ba 9),w 11 (.mv (.c U2 0))])
def Ei:AC:=(.seq (.out [2,6,9,10,11,12] (.aa [2,6,9,10,11] [w 12 (.bin .lss 11 10)])) (.seq (.out [2,6,9,10,11] (.cond (.t 12) .skip (.exit 0))) (.seq (.out [2,4,5,6,9,10,11] (.block 1 (.seq (.out [2,6,8,9,10,11] (.aa [2,6,9,10,11] [w 13 (.indexAddr U2 9 11),w 14 (.load U2 13),w 8 (.ab 14)])) (.seq (.seq (.out [2,6,8,9,10,11,23] (.aa [2,6,8,9,10,11] [m 15 8,w 16 (.bin .lss 15 (.c U2 0)),m 17 16,⟨some 18,.mv 8,some (17,false)⟩,⟨some 19,.fieldAddr az [.r,.l] 2,some (17,false)⟩,⟨some 20,.load dT 19,some (17,false)⟩,⟨some 21,.ba 20,some (17,false)⟩,⟨some 22,.bin .geq 18 21,some (17,false)⟩,w 23 (.pick 17 (.c .bool true) 22)])) (.out [2,4,5,6,8,9,10,11] (.cond (.t 23) (.seq (.out [4,5] (.aa [] [w 4 (.ab (.c .str [])),w 5 (.ab (.c .bool false))])) .ret) .skip))) (.out [2,6,9,10,11] (.aa [2,6,8,9,10,11] [w 24 (.fieldAddr az [.r,.l] 2),w 25 (.load dT 24),m 26 8,w 27 (.indexAddr aG 25 26),w 28 (.fieldAddr aG [.l] 27),w 29 (.load .str 28),w 30 (.hZ 84 6 29)])))))) (.out [2,6,9,10,11] (.aa [2,6,9,10,11] [w 31 (.bin .add 11 (.c U2 1)),m 11 31])))))
def Ej:AC:=.out [4,5,6] (.loop [2,6,9,10,11] Ei)
def Ms:AC:=.out [4,5,6] (.block 0 Ej)
def Mt:AC:=(.seq Mr Ms)
def Mu:AC:=(.seq (.out [4,5] (.aa [6] [w 32 (.ji 85 6),w 4 (.ab 32),w 5 (.ab (.c .bool true))])) .ret)
def yT:AC:=(.seq Mt Mu)
def yU:AC:=(.seq (.out [1,2] (.aa [0,1] [w 2 (.box az 0),w 4 (.ab (.c .str [])),w 5 (.ab (.c .bool false))])) (.seq (.out [1,2,6] (.aa [1,2] [w 6 (.wP 123 5)])) yT))
def Eh:AC:=yU
def d57:FD:={nargs:=2,body:=Eh,res:=[.t 4,.t 5]}
def Mq:AC:=(.seq (.out [1,2] (.aa [0,1] [w 2 (.box az 0),w 4 (.ab (.c U2 0))])) (.seq (.seq (.out [1,2,5] (.aa [1,2] [w 8 (.load az 2),w 9 (.call 70 [8]),w 5 (.ab 9)])) (.seq (.out [1,2,5,11] (.aa [1,2,5] [m 10 5,w 11 (.bin .neq 10 (.c U2 0))])) (.out [1,2,4] (.cond (.t 11) (.seq (.out [4] (.aa [5] [m 12 5,w 4 (.ab 12)])) .ret) .skip)))) (.seq (.seq (.out [1,2,15] (.aa [1,2] [m 13 1,w 14 (.ba 13),w 15 (.bin .gtr 14 (.c U2 16))])) (.out [1,2,4] (.cond (.t 15) (.seq (.out [4] (.aa [] [w 4 (.ab (.c U2 3))])) .ret) .skip))) (.seq (.seq (.out [7] (.aa [1,2] [w 17 (.load az 2),m 18 1,w 19 (.call 57 [17,18]),m 16 19,w 20 (.extract 16 0),w 21 (.extract 16 1),w 6 (.ab 20),w 7 (.ab 21)])) (.seq (.out [23] (.aa [7] [m 22 7,w 23 (.un .not 22)])) (.out [4] (.cond (.t 23) (.seq (.out [4] (.aa [] [w 4 (.ab (.c U2 6))])) .ret) .skip)))) (.seq (.out [4] (.aa [] [w 4 (.ab (.c U2 0))])) .ret)))))
def Eg:AC:=Mq
def d55:FD:={nargs:=2,body:=Eg,res:=[.t 4]}
def LB:AC:=.out [2,7,8,17,18,19] (.aa [1,2,7,8] [m 17 1,w 18 (.ba 17),w 19 (.mv (.c U2 0))])
def LC:AC:=.out [2,7,8,10,17,18,19] (.aa [2,7,8,17,18,19] [w 21 (.indexAddr U2 17 19),w 22 (.load U2 21),w 10 (.ab 22)])
def LJ:AC:=.out [2,7,8,10,17,18,19,29,30] (.aa [2,7,8,10,17,18,19] [w 23 (.fieldAddr az [.r,.l] 2),w 24 (.load dT 23),m 25 10,w 26 (.indexAddr aG 24 25),w 27 (.fieldAddr aG [.r,.l] 26),w 28 (.load bD 27),w 29 (.ba 28),w 30 (.mv (.c U2 0))])
def DK:AC:=(.seq (.out [2,7,8,10,17,18,19,29,30,31] (.aa [2,7,8,10,17,18,19,29,30] [w 31 (.bin .lss 30 29)])) (.seq (.out [2,7,8,10,17,18,19,29,30] (.cond (.t 31) .skip (.exit 2))) (.seq (.out [2,7,8,10,17,18,19,29,30] (.block 3 (.out [2,7,8,10,17,18,19,29,30] (.aa [2,7,8,10,17,18,19,29,30] [m 32 7,m 33 8,w 34 (.buildSlice 3 U2 [33]),w 35 (.append 3 U2 17592186044416 32 34),w 7 (.ab 35)])))) (.out [2,7,8,10,17,18,19,29,30] (.aa [2,7,8,10,17,18,19,29,30] [w 36 (.bin .add 30 (.c U2 1)),m 30 36])))))
def DL:AC:=.out [2,7,8,10,17,18,19] (.loop [2,7,8,10,17,18,19,29,30] DK)
def LK:AC:=.out [2,7,8,10,17,18,19] (.block 2 DL)
def LL:AC:=(.seq LJ LK)
def LM:AC:=.out [2,7,8,17,18,19] (.aa [2,7,8,10,17,18,19] [m 37 8,w 38 (.fieldAddr az [.r,.l] 2),w 39 (.load dT 38),m 40 10,w 41 (.indexAddr aG 39 40),w 42 (.fieldAddr aG [.l] 41),w 43 (.load .str 42),w 44 (.bO 43),w 45 (.bin .add 37 44),w 8 (.ab 45)])
def LN:AC:=(.seq LL LM)
def LO:AC:=(.seq LC LN)
def LD:AC:=.out [2,7,8,17,18,19] (.block 1 LO)
def LF:AC:=.out [2,7,8,17,18,19] (.aa [2,7,8,17,18,19] [w 46 (.bin .add 19 (.c U2 1)),m 19 46])
def yC:AC:=(.seq LD LF)
def s4:AC:=(.seq (.out [2,7,8,17,18,19,20] (.aa [2,7,8,17,18,19] [w 20 (.bin .lss 19 18)])) (.seq (.out [2,7,8,17,18,19] (.cond (.t 20) .skip (.exit 0))) yC))
def DJ:AC:=.out [7] (.loop [2,7,8,17,18,19] s4)
def LG:AC:=.out [7] (.block 0 DJ)
def LH:AC:=(.seq LB LG)
def LI:AC:=(.seq (.out [4,5,7] (.aa [7] [m 47 7,w 4 (.ab 47),w 5 (.ab (.c U2 0))])) .ret)
def yD:AC:=(.seq LH LI)
def yE:AC:=(.seq (.out [1,2] (.aa [0,1] [w 2 (.box az 0),w 4 (.ab (.nil 3 U2)),w 5 (.ab (.c U2 0))])) (.seq (.seq (.out [1,2,6] (.aa [1,2] [w 11 (.load az 2),m 12 1,w 13 (.call 55 [11,12]),w 6 (.ab 13)])) (.seq (.out [1,2,6,15] (.aa [1,2,6] [m 14 6,w 15 (.bin .neq 14 (.c U2 0))])) (.out [1,2,4,5] (.cond (.t 15) (.seq (.out [4,5] (.aa [6] [m 16 6,w 4 (.ab (.nil 3 U2)),w 5 (.ab 16)])) .ret) .skip)))) (.seq (.out [1,2,7] (.aa [1,2] [w 7 (.ab (.nil 3 U2))])) (.seq (.out [1,2,7,8] (.aa [1,2,7] [w 8 (.ab (.c U2 0))])) yD))))
def DH:AC:=yE
def d24:FD:={nargs:=2,body:=DH,res:=[.t 4,.t 5]}
def Lw:AC:=.out [1,2,7,8,25,26,27] (.aa [1,2,7,8] [m 25 7,w 26 (.ba 25),w 27 (.mv (.c U2 0))])
def DC:AC:=(.seq (.out [1,2,7,8,9,25,26,27,36,37,38,39] (.aa [1,2,7,8,9,25,26,27,36,37,38] [w 39 (.bin .lss 38 37)])) (.seq (.out [1,2,7,8,9,25,26,27,36,37,38] (.cond (.t 39) .skip (.exit 2))) (.seq (.out [1,2,7,8,9,25,26,27,36,37,38] (.block 3 (.seq (.out [1,2,7,8,9,12,25,26,27,36,37,38] (.aa [1,2,7,8,9,25,26,27,36,37,38] [w 40 (.indexAddr aG 36 38),w 41 (.load aG 40),w 12 (.alloc aG (.pair .no (.pair (.own true 40 .no) (.pair .no (.pair .no .no))))),⟨none,.store aG 12 41,none⟩])) (.seq (.out [1,2,7,8,9,12,25,26,27,36,37,38,47] (.draw [1,2,7,8,9,12,25,26,27,36,37,38] [⟨m 42 1,[43,45,46],[42],[],false,[]⟩,⟨m 43 9,[42,45,46],[43],[],false,[]⟩,⟨w 44 (.iI 42 (some 43) none),[45,46],[44],[0,1],false,[]⟩,⟨w 45 (.fieldAddr aG [.l] 12),[42,43,44],[45],[],false,[]⟩,⟨w 46 (.load .str 45),[42,43,44],[46],[3],false,[]⟩,⟨w 47 (.call 54 [44,46]),[],[47],[0,1,2,3,4],false,[]⟩])) (.out [1,2,7,8,9,25,26,27,36,37,38] (.cond (.t 47) (.out [1,2,7,8,9,25,26,27,36,37,38] (.aa [1,2,7,8,9,12,25,26,27,36,37,38] [m 48 7,m 49 9,w 50 (.fieldAddr aG [.l] 12),w 51 (.load .str 50),w 52 (.bO 51),w 53 (.bin .add 49 52),w 54 (.indexAddr .bool 48 53),⟨none,.store .bool 54 (.c .bool true),none⟩])) .skip)))))) (.out [1,2,7,8,9,25,26,27,36,37,38] (.aa [1,2,7,8,9,25,26,27,36,37,38] [w 55 (.bin .add 38 (.c U2 1)),m 38 55])))))
def DD:AC:=.out [1,2,7,8,25,26,27] (.loop [1,2,7,8,9,25,26,27,36,37,38] DC)
def yA:AC:=.out [1,2,7,8,25,26,27] (.block 2 DD)
def DE:AC:=(.seq (.out [1,2,7,8,9,10,25,26,27] (.aa [1,2,7,8,25,26,27] [m 29 27,w 30 (.indexAddr .bool 25 27),w 31 (.load .bool 30),w 9 (.ab 29),w 10 (.ab 31)])) (.seq (.seq (.out [1,2,7,8,9,25,26,27,33] (.aa [1,2,7,8,9,10,25,26,27] [m 32 10,w 33 (.un .not 32)])) (.out [1,2,7,8,9,25,26,27] (.cond (.t 33) (.exit 1) .skip))) (.seq (.out [1,2,7,8,9,25,26,27] (.aa [1,2,7,9,25,26,27] [m 34 9,w 8 (.ab 34)])) (.seq (.out [1,2,7,8,9,25,26,27,36,37,38] (.aa [1,2,7,8,9,25,26,27] [w 35 (.fieldAddr az [.r,.l] 2),w 36 (.load dT 35),w 37 (.ba 36),w 38 (.mv (.c U2 0))])) yA))))
def DF:AC:=.out [1,2,7,8,25,26,27] (.block 1 DE)
def LA:AC:=.out [1,2,7,8,25,26,27] (.aa [1,2,7,8,25,26,27] [w 56 (.bin .add 27 (.c U2 1)),m 27 56])
def yB:AC:=(.seq DF LA)
def s3:AC:=(.seq (.out [1,2,7,8,25,26,27,28] (.aa [1,2,7,8,25,26,27] [w 28 (.bin .lss 27 26)])) (.seq (.out [1,2,7,8,25,26,27] (.cond (.t 28) .skip (.exit 0))) yB))
def DG:AC:=.out [8] (.loop [1,2,7,8,25,26,27] s3)
def Lx:AC:=.out [8] (.block 0 DG)
def Ly:AC:=(.seq Lw Lx)
def Lz:AC:=(.seq (.out [4,5] (.aa [8] [m 57 8,w 4 (.ab 57),w 5 (.ab (.c U2 0))])) .ret)
def yy:AC:=(.seq Ly Lz)
def yz:AC:=(.seq (.out [1,2] (.aa [0,1] [w 2 (.box az 0),w 4 (.ab (.c U2 0)),w 5 (.ab (.c U2 0))])) (.seq (.seq (.out [1,2,6] (.aa [1,2] [w 13 (.load az 2),m 14 1,w 15 (.call 40 [13,14]),w 6 (.ab 15)])) (.seq (.out [1,2,6,17] (.aa [1,2,6] [m 16 6,w 17 (.bin .neq 16 (.c U2 0))])) (.out [1,2,4,5] (.cond (.t 17) (.seq (.out [4,5] (.aa [6] [m 18 6,w 4 (.ab (.c U2 0)),w 5 (.ab 18)])) .ret) .skip)))) (.seq (.out [1,2,7] (.aa [1,2] [m 19 1,w 20 (.bO 19),w 21 (.bin .add 20 (.c U2 1)),w 22 (.mkSlice 4 .bool 140737488355328 21 21),w 7 (.ab 22)])) (.seq (.out [1,2,7] (.aa [1,2,7] [m 23 7,w 24 (.indexAddr .bool 23 (.c U2 0)),⟨none,.store .bool 24 (.c .bool true),none⟩])) (.seq (.out [1,2,7,8] (.aa [1,2,7] [w 8 (.ab (.c U2 0))])) yy)))))
def DB:AC:=yz
def d20:FD:={nargs:=2,body:=DB,res:=[.t 4,.t 5]}
def Ml:AC:=.out [0,1,5] (.aa [0,1] [w 5 (.ab (.c U2 0))])
def Ed:AC:=(.seq (.seq (.out [0,1,5,14] (.aa [0,1,5] [m 11 5,m 12 0,w 13 (.ba 12),w 14 (.bin .lss 11 13)])) (.out [0,1,5] (.cond (.t 14) .skip (.exit 0)))) (.seq (.out [0,1,4,5] (.block 1 (.seq (.out [0,1,5,25] (.draw [0,1,5] [⟨m 17 0,[18,21,22,23,24],[17],[],false,[]⟩,⟨m 18 5,[17,21,22,23,24],[18],[],false,[]⟩,⟨w 19 (.indexAddr U2 17 18),[21,22,23,24],[19],[0,1],false,[]⟩,⟨w 20 (.load U2 19),[21,22,23,24],[20],[0,1,2],false,[]⟩,⟨m 21 1,[17,18,19,20,22],[21],[],false,[]⟩,⟨m 22 5,[17,18,19,20,21],[22],[],false,[]⟩,⟨w 23 (.indexAddr U2 21 22),[17,18,19,20],[23],[4,5],false,[]⟩,⟨w 24 (.load U2 23),[17,18,19,20],[24],[4,5,6],false,[]⟩,⟨w 25 (.bin .neq 20 24),[],[25],[0,1,2,3,4,5,6,7],false,[]⟩])) (.out [0,1,4,5] (.cond (.t 25) (.seq (.out [4] (.aa [] [w 4 (.ab (.c .bool false))])) .ret) .skip))))) (.out [0,1,5] (.aa [0,1,5] [m 15 5,w 16 (.bin .add 15 (.c U2 1)),w 5 (.ab 16)]))))
def Ee:AC:=.out [4] (.loop [0,1,5] Ed)
def Mm:AC:=.out [4] (.block 0 Ee)
def Mn:AC:=(.seq Ml Mm)
def Mo:AC:=(.seq (.out [4] (.aa [] [w 4 (.ab (.c .bool true))])) .ret)
def yR:AC:=(.seq Mn Mo)
def yS:AC:=(.seq (.out [0,1] (.aa [0,1] [w 4 (.ab (.c .bool false))])) (.seq (.seq (.out [0,1,10] (.aa [0,1] [m 6 0,w 7 (.ba 6),m 8 1,w 9 (.ba 8),w 10 (.bin .neq 7 9)])) (.out [0,1,4] (.cond (.t 10) (.seq (.out [4] (.aa [] [w 4 (.ab (.c .bool false))])) .ret) .skip))) yR))
def Ec:AC:=yS
def d53:FD:={nargs:=2,body:=Ec,res:=[.t 4]}
def Ls:AC:=.out [0,1,5] (.aa [0,1] [w 5 (.ab (.c U2 0))])
def Dz:AC:=(.seq (.seq (.out [0,1,5,14] (.aa [0,1,5] [m 11 5,m 12 0,w 13 (.ba 12),w 14 (.bin .lss 11 13)])) (.out [0,1,5] (.cond (.t 14) .skip (.exit 0)))) (.seq (.out [0,1,4,5] (.block 1 (.seq (.out [0,1,5,26] (.draw [0,1,5] [⟨m 17 0,[18,21,22,23,24],[17],[],false,[]⟩,⟨m 18 5,[17,21,22,23,24],[18],[],false,[]⟩,⟨w 19 (.indexAddr U5 17 18),[21,22,23,24],[19],[0,1],false,[]⟩,⟨w 20 (.load U5 19),[21,22,23,24],[20],[0,1,2],false,[]⟩,⟨m 21 1,[17,18,19,20,22],[21],[],false,[]⟩,⟨m 22 5,[17,18,19,20,21],[22],[],false,[]⟩,⟨w 23 (.indexAddr U5 21 22),[17,18,19,20],[23],[4,5],false,[]⟩,⟨w 24 (.load U5 23),[17,18,19,20],[24],[4,5,6],false,[]⟩,⟨w 25 (.call 53 [20,24]),[],[25],[0,1,2,3,4,5,6,7],false,[]⟩,⟨w 26 (.un .not 25),[],[26],[0,1,2,3,4,5,6,7,8],false,[]⟩])) (.out [0,1,4,5] (.cond (.t 26) (.seq (.out [4] (.aa [] [w 4 (.ab (.c .bool false))])) .ret) .skip))))) (.out [0,1,5] (.aa [0,1,5] [m 15 5,w 16 (.bin .add 15 (.c U2 1)),w 5 (.ab 16)]))))
def DA:AC:=.out [4] (.loop [0,1,5] Dz)
def Lt:AC:=.out [4] (.block 0 DA)
def Lu:AC:=(.seq Ls Lt)
def Lv:AC:=(.seq (.out [4] (.aa [] [w 4 (.ab (.c .bool true))])) .ret)
def yw:AC:=(.seq Lu Lv)
def yx:AC:=(.seq (.out [0,1] (.aa [0,1] [w 4 (.ab (.c .bool false))])) (.seq (.seq (.out [0,1,10] (.aa [0,1] [m 6 0,w 7 (.ba 6),m 8 1,w 9 (.ba 8),w 10 (.bin .neq 7 9)])) (.out [0,1,4] (.cond (.t 10) (.seq (.out [4] (.aa [] [w 4 (.ab (.c .bool false))])) .ret) .skip))) yw))
def Dy:AC:=yx
def d19:FD:={nargs:=2,body:=Dy,res:=[.t 4]}
def Lg:AC:=.out [0,1,12,13] (.aa [0,1] [m 11 0,w 12 (.ba 11),w 13 (.mv (.c U2 0))])
def Dq:AC:=(.seq (.out [0,1,12,13,14] (.aa [0,1,12,13] [w 14 (.bin .lss 13 12)])) (.seq (.out [0,1,12,13] (.cond (.t 14) .skip (.exit 0))) (.seq (.out [0,1,4,12,13] (.block 1 (.seq (.out [0,1,5,12,13] (.aa [0,1,12,13] [m 15 13,w 5 (.ab 15)])) (.seq (.out [0,1,12,13,24] (.draw [0,1,5,12,13] [⟨m 16 0,[17,20,21,22,23],[16],[],false,[]⟩,⟨m 17 5,[16,20,21,22,23],[17],[],false,[]⟩,⟨w 18 (.indexAddr U2 16 17),[20,21,22,23],[18],[0,1],false,[]⟩,⟨w 19 (.load U2 18),[20,21,22,23],[19],[0,1,2],false,[]⟩,⟨m 20 1,[16,17,18,19,21],[20],[],false,[]⟩,⟨m 21 5,[16,17,18,19,20],[21],[],false,[]⟩,⟨w 22 (.indexAddr U2 20 21),[16,17,18,19],[22],[4,5],false,[]⟩,⟨w 23 (.load U2 22),[16,17,18,19],[23],[4,5,6],false,[]⟩,⟨w 24 (.bin .neq 19 23),[],[24],[0,1,2,3,4,5,6,7],false,[]⟩])) (.out [0,1,4,12,13] (.cond (.t 24) (.seq (.out [4] (.aa [] [w 4 (.ab (.c .bool false))])) .ret) .skip)))))) (.out [0,1,12,13] (.aa [0,1,12,13] [w 25 (.bin .add 13 (.c U2 1)),m 13 25])))))
def Dr:AC:=.out [4] (.loop [0,1,12,13] Dq)
def Lh:AC:=.out [4] (.block 0 Dr)
def Li:AC:=(.seq Lg Lh)
def Lj:AC:=(.seq (.out [4] (.aa [] [w 4 (.ab (.c .bool true))])) .ret)
def yr:AC:=(.seq Li Lj)
def yu:AC:=(.seq (.out [0,1] (.aa [0,1] [w 4 (.ab (.c .bool false))])) (.seq (.seq (.out [0,1,10] (.aa [0,1] [m 6 0,w 7 (.ba 6),m 8 1,w 9 (.ba 8),w 10 (.bin .neq 7 9)])) (.out [0,1,4] (.cond (.t 10) (.seq (.out [4] (.aa [] [w 4 (.ab (.c .bool false))])) .ret) .skip))) yr))
def Dc:AC:=yu
def d15:FD:={nargs:=2,body:=Dc,res:=[.t 4]}
def Kf:AC:=(.seq (.out [] (.aa [] [w 0 (.ab (.c .bool false))])) (.seq (.out [1] (.aa [] [w 13 (.call 37 []),w 1 (.alloc az (.pair .no (.pair (.own true 43 .no) .no))),⟨none,.store az 1 13,none⟩])) (.seq (.out [1,2,3] (.aa [1] [w 15 (.load az 1),w 16 (.call 16 [15,(.c .str [97,114,109,97])]),m 14 16,w 17 (.extract 14 0),w 18 (.extract 14 1),w 2 (.ab 17),w 3 (.ab 18)])) (.seq (.out [1,2,3,4,5] (.aa [1,2,3] [w 20 (.load az 1),w 21 (.call 16 [20,(.c .str [116,114,111,105,97,101])]),m 19 21,w 22 (.extract 19 0),w 23 (.extract 19 1),w 4 (.ab 22),w 5 (.ab 23)])) (.seq (.out [1,2,3,4,5,6,7,8] (.aa [1,2,3,4,5] [w 25 (.load az 1),w 26 (.call 13 [25,(.c .str [105,97,109])]),m 24 26,w 27 (.extract 24 0),w 28 (.extract 24 1),w 29 (.extract 24 2),w 6 (.ab 27),w 7 (.ab 28),w 8 (.ab 29)])) (.seq (.out [1,2,3,4,5,6,7,8,9,10] (.aa [1,2,3,4,5,6,7,8] [w 31 (.load az 1),w 32 (.buildSlice 3 U2 [(.c U2 38),(.c U2 40),(.c U2 3),(.c U2 23),(.c U2 18)]),w 33 (.call 24 [31,32]),m 30 33,w 34 (.extract 30 0),w 35 (.extract 30 1),w 9 (.ab 34),w 10 (.ab 35)])) (.seq (.out [2,3,4,5,6,7,8,9,10,11,12] (.aa [1,2,3,4,5,6,7,8,9,10] [w 37 (.load az 1),w 38 (.call 20 [37,(.c .str [97,114,109,113])]),m 36 38,w 39 (.extract 36 0),w 40 (.extract 36 1),w 11 (.ab 39),w 12 (.ab 40)])) (.seq (.seq (.out [2,4,6,9,66] (.aa [2,3,4,5,6,7,8,9,10,11,12] [m 41 3,w 42 (.bin .neq 41 (.c U2 0)),m 43 42,⟨some 44,.mv 5,some (43,false)⟩,⟨some 45,.bin .neq 44 (.c U2 0),some (43,false)⟩,w 46 (.pick 43 (.c .bool true) 45),m 47 46,⟨some 48,.mv 8,some (47,false)⟩,⟨some 49,.bin .neq 48 (.c U2 0),some (47,false)⟩,w 50 (.pick 47 (.c .bool true) 49),m 51 50,⟨some 52,.mv 10,some (51,false)⟩,⟨some 53,.bin .neq 52 (.c U2 0),some (51,false)⟩,w 54 (.pick 51 (.c .bool true) 53),m 55 54,⟨some 56,.mv 12,some (55,false)⟩,⟨some 57,.bin .neq 56 (.c U2 0),some (55,false)⟩,w 58 (.pick 55 (.c .bool true) 57),m 59 58,⟨some 60,.mv 11,some (59,false)⟩,⟨some 61,.bin .neq 60 (.c U2 3),some (59,false)⟩,w 62 (.pick 59 (.c .bool true) 61),m 63 62,⟨some 64,.mv 7,some (63,false)⟩,⟨some 65,.bin .neq 64 (.c U2 1),some (63,false)⟩,w 66 (.pick 63 (.c .bool true) 65)])) (.out [0,2,4,6,9] (.cond (.t 66) (.seq (.out [0] (.aa [] [w 0 (.ab (.c .bool false))])) .ret) .skip))) (.seq (.out [0] (.aa [2,4,6,9] [m 67 2,w 68 (.buildSlice 3 U2 [(.c U2 0),(.c U2 40),(.c U2 41),(.c U2 0)]),w 69 (.buildSlice 27 U5 [68]),w 70 (.call 19 [67,69]),m 71 70,⟨some 72,.mv 4,some (71,true)⟩,⟨some 73,.buildSlice 3 U2 [(.c U2 38),(.c U2 40),(.c U2 3),(.c U2 23),(.c U2 18)],some (71,true)⟩,⟨some 74,.buildSlice 3 U2 [(.c U2 38),(.c U2 40),(.c U2 3),(.c U2 2),(.c U2 18)],some (71,true)⟩,⟨some 75,.buildSlice 3 U2 [(.c U2 38),(.c U2 40),(.c U2 3),(.c U2 23),(.c U2 0),(.c U2 1)],some (71,true)⟩,⟨some 76,.buildSlice 3 U2 [(.c U2 38),(.c U2 40),(.c U2 3),(.c U2 2),(.c U2 0),(.c U2 1)],some (71,true)⟩,⟨some 77,.buildSlice 27 U5 [73,74,75,76],some (71,true)⟩,⟨some 78,.call 19 [72,77],some (71,true)⟩,w 79 (.pick 71 78 (.c .bool false)),m 80 79,⟨some 81,.mv 6,some (80,true)⟩,⟨some 82,.buildSlice 3 U2 [(.c U2 22),(.c U2 0),(.c U2 41)],some (80,true)⟩,⟨some 83,.call 15 [81,82],some (80,true)⟩,w 84 (.pick 80 83 (.c .bool false)),m 85 84,⟨some 86,.mv 9,some (85,true)⟩,⟨some 87,.buildSlice 3 U2 [(.c U2 0),(.c U2 1),(.c U2 2),(.c U2 3),(.c U2 3),(.c U2 4)],some (85,true)⟩,⟨some 88,.call 15 [86,87],some (85,true)⟩,w 89 (.pick 85 88 (.c .bool false)),w 0 (.ab 89)])) .ret)))))))))
def Cb:AC:=Kf
def d11:FD:={nargs:=0,body:=Cb,res:=[.t 0]}
def Lr:AC:=(.seq (.out [1,2] (.aa [0,1] [w 2 (.box az 0),w 4 (.ab (.c U2 0)),w 5 (.ab (.c U2 0))])) (.seq (.out [6,7] (.aa [1,2] [w 9 (.load az 2),m 10 1,w 11 (.call 16 [9,10]),m 8 11,w 12 (.extract 8 0),w 13 (.extract 8 1),w 6 (.ab 12),w 7 (.ab 13)])) (.seq (.out [4,5] (.aa [6,7] [m 14 6,w 15 (.ba 14),m 16 7,w 4 (.ab 15),w 5 (.ab 16)])) .ret)))
def Dx:AC:=Lr
def d18:FD:={nargs:=2,body:=Dx,res:=[.t 4,.t 5]}
def MT:AC:=(.seq (.out [0,1] (.aa [0,1] [w 4 (.ab (.c .bool false))])) (.seq (.out [1,5] (.aa [0,1] [m 15 0,w 16 (.mc .i64 15),w 17 (.bin .rem 16 (.c U2 16)),w 18 (.bin .add (.c U2 1) 17),w 5 (.ab 18)])) (.seq (.seq (.out [1,5,24] (.aa [1,5] [w 19 (.call 11 []),w 20 (.un .not 19),m 21 20,⟨some 22,.mv 1,some (21,false)⟩,⟨some 23,.bin .gtr 22 (.c U0 99),some (21,false)⟩,w 24 (.pick 21 (.c .bool true) 23)])) (.out [1,4,5] (.cond (.t 24) (.seq (.out [4] (.aa [] [w 25 (.call 11 []),w 4 (.ab 25)])) .ret) .skip))) (.seq (.out [1,5,6] (.aa [1,5] [w 26 (.build aA [([.l],(.c U2 1)),([.r,.l],(.c U2 3)),([.r,.r,.l],(.c .str [97]))]),w 27 (.buildSlice 40 aA [26]),w 28 (.build aG [([.l],(.c .str [97])),([.r,.l],27)]),w 6 (.alloc aG (.pair .no (.pair (.own true 40 .no) (.pair .no (.pair .no .no))))),⟨none,.store aG 6 28,none⟩])) (.seq (.out [5,6,7] (.aa [1,5,6] [w 29 (.build aA [([.l],(.c U2 3)),([.r,.r,.l],(.c .str [97]))]),w 30 (.buildSlice 40 aA [29]),m 31 1,w 32 (.mc .i64 31),w 33 (.build aG [([.l],(.c .str [97])),([.r,.l],30),([.r,.r,.l],32)]),w 7 (.alloc aG (.pair .no (.pair (.own true 40 .no) (.pair .no (.pair .no .no))))),⟨none,.store aG 7 33,none⟩])) (.seq (.out [5,8] (.aa [5,6,7] [w 34 (.load aG 6),w 35 (.load aG 7),w 36 (.buildSlice 43 aG [34,35]),w 37 (.build az [([.l],(.c .str [111])),([.r,.l],36)]),w 8 (.alloc az (.pair .no (.pair (.own true 43 .no) .no))),⟨none,.store az 8 37,none⟩])) (.seq (.out [5,8,9] (.aa [5,8] [m 38 5,w 39 (.iI (.c .str [97,97,97,97,97,97,97,97,97,97,97,97,97,97,97,97]) none (some 38)),w 9 (.ab 39)])) (.seq (.out [5,8,9,10,11] (.aa [5,8,9] [w 41 (.load az 8),m 42 9,w 43 (.call 18 [41,42]),m 40 43,w 44 (.extract 40 0),w 45 (.extract 40 1),w 10 (.ab 44),w 11 (.ab 45)])) (.seq (.seq (.out [5,8,9,10,11,47] (.aa [5,8,9,10,11] [m 46 5,w 47 (.bin .gtr 46 (.c U2 7))])) (.out [4,5,8,9,10,11] (.cond (.t 47) (.seq (.out [4] (.aa [10,11] [m 48 11,w 49 (.bin .eql 48 (.c U2 3)),m 50 49,⟨some 51,.mv 10,some (50,true)⟩,⟨some 52,.bin .eql 51 (.c U2 0),some (50,true)⟩,w 53 (.pick 50 52 (.c .bool false)),w 4 (.ab 53)])) .ret) .skip))) (.seq (.out [5,10,11,12,13,14] (.aa [5,8,9,10,11] [w 55 (.load az 8),m 56 9,w 57 (.call 13 [55,56]),m 54 57,w 58 (.extract 54 0),w 59 (.extract 54 1),w 60 (.extract 54 2),w 12 (.ab 58),w 13 (.ab 59),w 14 (.ab 60)])) (.seq (.out [4] (.aa [5,10,11,12,13,14] [m 61 11,w 62 (.bin .eql 61 (.c U2 0)),m 63 62,⟨some 64,.mv 10,some (63,true)⟩,⟨some 65,.mv 5,some (63,true)⟩,⟨some 66,.shift true (.c U2 1) 65,some (63,true)⟩,⟨some 67,.bin .eql 64 66,some (63,true)⟩,w 68 (.pick 63 67 (.c .bool false)),m 69 68,⟨some 70,.mv 14,some (69,true)⟩,⟨some 71,.bin .eql 70 (.c U2 0),some (69,true)⟩,w 72 (.pick 69 71 (.c .bool false)),m 73 72,⟨some 74,.mv 13,some (73,true)⟩,⟨some 75,.bin .eql 74 (.c U2 0),some (73,true)⟩,w 76 (.pick 73 75 (.c .bool false)),m 77 76,⟨some 78,.mv 12,some (77,true)⟩,⟨some 79,.ba 78,some (77,true)⟩,⟨some 80,.mv 5,some (77,true)⟩,⟨some 81,.bin .eql 79 80,some (77,true)⟩,w 82 (.pick 77 81 (.c .bool false)),m 83 82,⟨some 84,.mv 12,some (83,true)⟩,⟨some 85,.indexAddr U2 84 (.c U2 0),some (83,true)⟩,⟨some 86,.load U2 85,some (83,true)⟩,⟨some 87,.bin .eql 86 (.c U2 0),some (83,true)⟩,w 88 (.pick 83 87 (.c .bool false)),w 4 (.ab 88)])) .ret)))))))))))
def c6:AC:=MT
def d6:FD:={nargs:=2,body:=c6,res:=[.t 4]}
def table:Table:=fun f=>match f with
 | 6=>some d6
 | 11=>some d11
 | 13=>some d13
 | 15=>some d15
 | 16=>some d16
 | 18=>some d18
 | 19=>some d19
 | 20=>some d20
 | 24=>some d24
 | 28=>some d28
 | 37=>some d37
 | 38=>some d38
 | 40=>some d40
 | 44=>some d44
 | 45=>some d45
 | 46=>some d46
 | 47=>some d47
 | 53=>some d53
 | 54=>some d54
 | 55=>some d55
 | 57=>some d57
 | 59=>some d59
 | 60=>some d60
 | 67=>some d67
 | 69=>some d69
 | 70=>some d70
 | 71=>some d71
 | 72=>some d72
 | 73=>some d73
 | 74=>some d74
 | 77=>some d77
 | 83=>some d83
 | 86=>some d86
 | 87=>some d87
 | 90=>some d90
 | 91=>some d91
 | 92=>some d92
 | 93=>some d93
 | 94=>some d94
 | 95=>some d95
 | 96=>some d96
 | 97=>some d97
 | 98=>some d98
 | 99=>some d99
 | 111=>some d111
 | 114=>some d114
 | 115=>some d115
 | 116=>some d116
 | 117=>some d117
 | 118=>some d118
 | 119=>some d119
 | 120=>some d120
 | 121=>some d121
 | 122=>some d122
 | 123=>some d123
 | 124=>some d124
 | 125=>some d125
 | 126=>some d126
 | 127=>some d127
 | 135=>some d135
 | 136=>some d136
 | 137=>some d137
 | 138=>some d138
 | 139=>some d139
 | 140=>some d140
 | 141=>some d141
 | 142=>some d142
 | 143=>some d143
 | 144=>some d144
 | 148=>some d148
 | 149=>some d149
 | 150=>some d150
 | 151=>some d151
 | 152=>some d152
 | 153=>some d153
 | 154=>some d154
 | 155=>some d155
 | 158=>some d158
 | 159=>some d159
 | 160=>some d160
 | _=>none
end Go.Fw.L19
