/- Own work. -/
import Derived.Test.YtooiookccchmeaaGreatFwB1
set_option linter.unusedVariables false
set_option linter.unusedSimpArgs false
namespace Go.Fw.L19
open Go Go.Fw
abbrev U0:Ty:=(.int .u8)
abbrev U1:Ty:=(.sl .str)
abbrev V0:Type:=(List Int)
abbrev U2:Ty:=(.int .i64)
abbrev U3:Ty:=(.int .i32)
abbrev V1:Type:=(Int×Int)
abbrev V2:Type:=(List Bool)
abbrev V3:Type:=(List UInt8)
abbrev V4:Type:=(Int×Unit)
abbrev V5:Type:=(Int×Bool)
abbrev V6:Type:=(V0)
abbrev V7:Type:=(V3)
abbrev U4:Ty:=(.sl U0)
abbrev U5:Ty:=(.sl U2)
abbrev V8:Type:=(List V0)
abbrev U6:Ty:=(.pair .str .unit)
abbrev V9:Type:=(V0×Int)
abbrev DQ:Type:=(V0×Unit)
abbrev DR:Type:=(V8)
abbrev aE:Type:=(List V3)
abbrev ue:Type:=(Int×V4)
abbrev zy:Type:=(V3×Int)
abbrev WU:Type:=(V3×Unit)
abbrev fH:Type:=(aE)
abbrev zA:Type:=(V3×Bool)
abbrev U7:Ty:=(.sl U5)
abbrev U8:Ty:=(.pair U0 .unit)
abbrev zB:Type:=(V0×Int×Int)
abbrev U9:Ty:=(.pair U2 .unit)
abbrev L2:Ty:=(.pair U3 .unit)
abbrev ni:Type:=(V8×Int)
abbrev gi:Type:=(List ue)
abbrev a6:Type:=(Int×ue)
abbrev bY:Type:=(V4→Option Bool)
abbrev WV:Type:=(Int×WU)
abbrev WN:Ty:=(.pair U5 .unit)
abbrev bZ:Type:=(List a6)
abbrev zC:Type:=(gi×Int)
abbrev zt:Ty:=(.fn U8 .bool)
abbrev WW:Type:=(a6×Int)
abbrev mD:Ty:=(.fn L2 .bool)
abbrev aR:Type:=(Int×WV)
abbrev nj:Type:=(bZ)
abbrev WO:Ty:=(.pair U2 U6)
abbrev aA:Type:=(List aR)
abbrev dX:Ty:=(.pair U2 U9)
abbrev oy:Type:=(aR×Bool)
abbrev kV:Type:=(aA)
abbrev zD:Type:=((V0×DQ)→Option Int)
abbrev WX:Type:=((List WW)×Unit)
abbrev uf:Type:=(aA×Int)
abbrev zw:Ty:=(.pair U5 WN)
abbrev aC:Ty:=(.pair U2 WO)
abbrev bp:Ty:=(.sl aC)
abbrev aY:Ty:=(.pair U2 dX)
abbrev WY:Type:=(aA×ue)
abbrev WZ:Type:=(V3×WX)
abbrev DP:Ty:=(.map aY U2)
abbrev aV:Type:=(V3×WY)
abbrev cA:Type:=(List aV)
abbrev nk:Type:=(aV×Bool)
abbrev WQ:Ty:=(.pair DP .unit)
abbrev W1:Type:=(cA×Unit)
abbrev WR:Ty:=(.pair .str WQ)
abbrev eT:Type:=((aV×Unit)→Option Bool)
abbrev WS:Ty:=(.pair bp dX)
abbrev ae:Type:=(V3×W1)
abbrev ug:Type:=(ae)
abbrev aH:Ty:=(.pair .str WS)
abbrev zE:Type:=(ae×Int×Int)
abbrev c8:Ty:=(.sl aH)
abbrev L3:Ty:=(.pair aH .unit)
abbrev WT:Ty:=(.pair c8 .unit)
abbrev zx:Ty:=(.fn L3 .bool)
abbrev ar:Ty:=(.pair .str WT)
abbrev aI:Type:=(ae×WZ)
abbrev gK:Type:=(aI×Int)
abbrev jW:Type:=(aI×V8)
abbrev bF:Ty:=(.pair ar WR)
instance (n:Nat):OfNat Od n:=⟨.t n⟩
abbrev w (d:Nat) (o:qM):AI:={dst:=some d,op:=o}
abbrev m (d:Nat) (k:Nat):AI:={dst:=some d,op:=.mv (.t k)}
def Qq:AC:=.out [0,3,4,5] (.aa [0,3,4] [w 5 (.ab (.c U2 0))])
def Hp:AC:=(.seq (.seq (.out [0,3,4,5,9] (.aa [0,3,4,5] [m 6 5,m 7 0,w 8 (.bz 7),w 9 (.bin .leq 6 8)])) (.out [0,3,4,5] (.cond (.t 9) .skip (.exit 0)))) (.seq (.out [0,3,4,5] (.block 1 (.seq (.seq (.out [0,3,4,5,20] (.aa [0,3,4,5] [m 12 5,m 13 0,w 14 (.bz 13),w 15 (.bin .eql 12 14),m 16 15,⟨some 17,.mv 4,some (16,true)⟩,⟨some 18,.mv 5,some (16,true)⟩,⟨some 19,.bin .eql 17 18,some (16,true)⟩,w 20 (.pick 16 19 (.c .bool false))])) (.out [0,3,4,5] (.cond (.t 20) (.exit 0) .skip))) (.seq (.out [0,3,4,5,30] (.aa [0,3,4,5] [m 21 5,m 22 0,w 23 (.bz 22),w 24 (.bin .eql 21 23),m 25 24,⟨some 26,.mv 0,some (25,false)⟩,⟨some 27,.mv 5,some (25,false)⟩,⟨some 28,.da 26 27,some (25,false)⟩,⟨some 29,.bin .eql 28 (.c U0 10),some (25,false)⟩,w 30 (.pick 25 (.c .bool true) 29)])) (.out [0,3,4,5] (.cond (.t 30) (.seq (.out [0,3,5] (.aa [0,3,4,5] [m 31 3,m 32 0,m 33 4,m 34 5,w 35 (.iY 32 (some 33) (some 34)),w 36 (.buildSlice 9 .str [35]),w 37 (.append 9 .str 8796093022208 31 36),w 3 (.ab 37)])) (.out [0,3,4,5] (.aa [0,3,5] [m 38 5,w 39 (.bin .add 38 (.c U2 1)),w 4 (.ab 39)]))) .skip)))))) (.out [0,3,4,5] (.aa [0,3,4,5] [m 10 5,w 11 (.bin .add 10 (.c U2 1)),w 5 (.ab 11)]))))
def Hq:AC:=.out [3] (.loop [0,3,4,5] Hp)
def Qr:AC:=.out [3] (.block 0 Hq)
def Qs:AC:=(.seq Qq Qr)
def Qt:AC:=(.seq (.out [2,3] (.aa [3] [m 40 3,w 2 (.ab 40)])) .ret)
def Bm:AC:=(.seq Qs Qt)
def Bn:AC:=(.seq (.out [0] (.aa [0] [w 2 (.ab (.nil 9 .str))])) (.seq (.out [0,3] (.aa [0] [w 3 (.ab (.nil 9 .str))])) (.seq (.out [0,3,4] (.aa [0,3] [w 4 (.ab (.c U2 0))])) Bm)))
def Ho:AC:=Bn
def d92:FD:={nargs:=1,body:=Ho,res:=[.t 2]}
def Qu:AC:=.out [0,3,4,5] (.aa [0,3,4] [w 5 (.ab (.c U2 0))])
def Hs:AC:=(.seq (.seq (.out [0,3,4,5,9] (.aa [0,3,4,5] [m 6 5,m 7 0,w 8 (.bz 7),w 9 (.bin .leq 6 8)])) (.out [0,3,4,5] (.cond (.t 9) .skip (.exit 0)))) (.seq (.out [0,2,3,4,5] (.block 1 (.seq (.out [0,3,4,5,21] (.aa [0,3,4,5] [m 12 5,m 13 0,w 14 (.bz 13),w 15 (.bin .eql 12 14),m 16 15,⟨some 17,.mv 0,some (16,false)⟩,⟨some 18,.mv 5,some (16,false)⟩,⟨some 19,.da 17 18,some (16,false)⟩,⟨some 20,.bin .eql 19 (.c U0 32),some (16,false)⟩,w 21 (.pick 16 (.c .bool true) 20)])) (.out [0,2,3,4,5] (.cond (.t 21) (.seq (.seq (.out [0,3,4,5,24] (.aa [0,3,4,5] [m 22 5,m 23 4,w 24 (.bin .eql 22 23)])) (.out [0,2,3,4,5] (.cond (.t 24) (.seq (.out [2] (.aa [] [w 2 (.ab (.nil 9 .str))])) .ret) .skip))) (.seq (.out [0,3,5] (.aa [0,3,4,5] [m 25 3,m 26 0,m 27 4,m 28 5,w 29 (.iY 26 (some 27) (some 28)),w 30 (.buildSlice 9 .str [29]),w 31 (.append 9 .str 8796093022208 25 30),w 3 (.ab 31)])) (.out [0,3,4,5] (.aa [0,3,5] [m 32 5,w 33 (.bin .add 32 (.c U2 1)),w 4 (.ab 33)])))) .skip))))) (.out [0,3,4,5] (.aa [0,3,4,5] [m 10 5,w 11 (.bin .add 10 (.c U2 1)),w 5 (.ab 11)]))))
def Ht:AC:=.out [2,3] (.loop [0,3,4,5] Hs)
def Qv:AC:=.out [2,3] (.block 0 Ht)
def Qw:AC:=(.seq Qu Qv)
def Qx:AC:=(.seq (.out [2,3] (.aa [3] [m 34 3,w 2 (.ab 34)])) .ret)
def Bo:AC:=(.seq Qw Qx)
def Bp:AC:=(.seq (.out [0] (.aa [0] [w 2 (.ab (.nil 9 .str))])) (.seq (.out [0,3] (.aa [0] [w 3 (.ab (.nil 9 .str))])) (.seq (.out [0,3,4] (.aa [0,3] [w 4 (.ab (.c U2 0))])) Bo)))
def Hr:AC:=Bp
def d93:FD:={nargs:=1,body:=Hr,res:=[.t 2]}
def Ng:AC:=.out [0,3,4] (.aa [0,3] [w 4 (.ab (.c U2 0))])
def ES:AC:=(.seq (.seq (.out [0,3,4,9] (.aa [0,3,4] [m 6 4,m 7 0,w 8 (.bz 7),w 9 (.bin .lss 6 8)])) (.out [0,3,4] (.cond (.t 9) .skip (.exit 0)))) (.seq (.out [0,3,4] (.block 1 (.seq (.out [0,3,4,15] (.aa [0,3,4] [m 12 0,m 13 4,w 14 (.da 12 13),w 15 (.bin .eql 14 (.c U0 32))])) (.out [0,3,4] (.cond (.t 15) (.out [0,3,4] (.aa [0,3,4] [m 16 3,w 17 (.buildSlice 9 .str [(.c .str [])]),w 18 (.append 9 .str 8796093022208 16 17),w 3 (.ab 18)])) (.out [0,3,4] (.draw [0,3,4] [⟨m 19 3,[20,21,22,23,24,25,26,27,28,29,30,31,32,33,34],[19],[],false,[]⟩,⟨m 20 3,[19,23,24,25,26,27,28,29,30,31,32,33,34],[20],[],false,[]⟩,⟨w 21 (.a8 20),[19,23,24,25,26,27,28,29,30,31,32,33,34],[21],[1],false,[]⟩,⟨w 22 (.bin .sub 21 (.c U2 1)),[19,23,24,25,26,27,28,29,30,31,32,33,34],[22],[1,2],false,[]⟩,⟨m 23 3,[19,20,21,22,24,25,26,29,30,31,32,33],[23],[],false,[]⟩,⟨m 24 3,[19,20,21,22,23,29,30,31,32,33],[24],[],false,[]⟩,⟨w 25 (.a8 24),[19,20,21,22,23,29,30,31,32,33],[25],[5],false,[]⟩,⟨w 26 (.bin .sub 25 (.c U2 1)),[19,20,21,22,23,29,30,31,32,33],[26],[5,6],false,[]⟩,⟨w 27 (.indexAddr .str 23 26),[19,20,21,22,29,30,31,32,33],[27],[4,5,6,7],false,[]⟩,⟨w 28 (.load .str 27),[19,20,21,22,29,30,31,32,33],[28],[4,5,6,7,8],false,[]⟩,⟨m 29 0,[19,20,21,22,23,24,25,26,27,28,30,31,32],[29],[],false,[]⟩,⟨m 30 4,[19,20,21,22,23,24,25,26,27,28,29,31,32],[30],[],false,[]⟩,⟨m 31 4,[19,20,21,22,23,24,25,26,27,28,29,30],[31],[],false,[]⟩,⟨w 32 (.bin .add 31 (.c U2 1)),[19,20,21,22,23,24,25,26,27,28,29,30],[32],[12],false,[]⟩,⟨w 33 (.iY 29 (some 30) (some 32)),[19,20,21,22,23,24,25,26,27,28],[33],[10,11,12,13],false,[]⟩,⟨w 34 (.bin .add 28 33),[19,20,21,22],[34],[4,5,6,7,8,9,10,11,12,13,14],false,[]⟩,⟨w 35 (.indexAddr .str 19 22),[],[35],[0,1,2,3,4,5,6,7,8,9,10,11,12,13,14,15],false,[]⟩,⟨⟨none,.store .str 35 34,none⟩,[],[3,19,35],[0,1,2,3,4,5,6,7,8,9,10,11,12,13,14,15,16],true,[]⟩]))))))) (.out [0,3,4] (.aa [0,3,4] [m 10 4,w 11 (.bin .add 10 (.c U2 1)),w 4 (.ab 11)]))))
def ET:AC:=.out [3] (.loop [0,3,4] ES)
def Nh:AC:=.out [3] (.block 0 ET)
def Ni:AC:=(.seq Ng Nh)
def Nj:AC:=(.seq (.out [2,3] (.aa [3] [m 36 3,w 2 (.ab 36)])) .ret)
def Af:AC:=(.seq Ni Nj)
def Ag:AC:=(.seq (.out [0] (.aa [0] [w 2 (.ab (.nil 9 .str))])) (.seq (.out [0,3] (.aa [0] [w 5 (.buildSlice 9 .str [(.c .str [])]),w 3 (.ab 5)])) Af))
def ER:AC:=Ag
def d138:FD:={nargs:=1,body:=ER,res:=[.t 2]}
def ND:AC:=(.seq (.out [] (.aa [] [w 0 (.ab (.c .str []))])) (.seq (.out [0] (.aa [] [w 0 (.ab (.c .str [32,118,100,109,108,110,115,120,103,98]))])) .ret))
def Fc:AC:=ND
def d148:FD:={nargs:=0,body:=Fc,res:=[.t 0]}
def Mw:AC:=(.seq (.out [1] (.aa [0] [w 1 (.box aC 0),w 2 (.ab (.c .bool false))])) (.seq (.out [2] (.aa [1] [w 3 (.fieldAddr aC [.l] 1),w 4 (.load U2 3),w 5 (.bin .eql 4 (.c U2 1)),m 6 5,⟨some 7,.fieldAddr aC [.l] 1,some (6,false)⟩,⟨some 8,.load U2 7,some (6,false)⟩,⟨some 9,.bin .eql 8 (.c U2 2),some (6,false)⟩,w 10 (.pick 6 (.c .bool true) 9),w 2 (.ab 10)])) .ret))
def Ee:AC:=Mw
def d114:FD:={nargs:=1,body:=Ee,res:=[.t 2]}
def Nf:AC:=(.seq (.out [0] (.aa [0] [w 2 (.ab (.c .bool false))])) (.seq (.out [2] (.aa [0] [m 3 0,w 4 (.bin .geq 3 (.c U0 97)),m 5 4,⟨some 6,.mv 0,some (5,true)⟩,⟨some 7,.bin .leq 6 (.c U0 122),some (5,true)⟩,w 8 (.pick 5 7 (.c .bool false)),m 9 8,⟨some 10,.mv 0,some (9,false)⟩,⟨some 11,.bin .geq 10 (.c U0 48),some (9,false)⟩,⟨some 12,.mv 11,some (9,false)⟩,⟨some 13,.mv 0,some (12,true)⟩,⟨some 14,.bin .leq 13 (.c U0 57),some (12,true)⟩,⟨some 15,.pick 12 14 (.c .bool false),some (9,false)⟩,w 16 (.pick 9 (.c .bool true) 15),m 17 16,⟨some 18,.mv 0,some (17,false)⟩,⟨some 19,.bin .eql 18 (.c U0 95),some (17,false)⟩,w 20 (.pick 17 (.c .bool true) 19),m 21 20,⟨some 22,.mv 0,some (21,false)⟩,⟨some 23,.bin .eql 22 (.c U0 94),some (21,false)⟩,w 24 (.pick 21 (.c .bool true) 23),m 25 24,⟨some 26,.mv 0,some (25,false)⟩,⟨some 27,.bin .eql 26 (.c U0 39),some (25,false)⟩,w 28 (.pick 25 (.c .bool true) 27),w 2 (.ab 28)])) .ret))
def EP:AC:=Nf
def d137:FD:={nargs:=1,body:=EP,res:=[.t 2]}
def MD:AC:=.out [1,4] (.aa [1] [w 4 (.ab (.c U2 0))])
def Em:AC:=(.seq (.seq (.out [1,4,46] (.aa [1,4] [m 42 4,w 43 (.fieldAddr aC [.r,.r,.l] 1),w 44 (.load .str 43),w 45 (.bz 44),w 46 (.bin .lss 42 45)])) (.out [1,4] (.cond (.t 46) .skip (.exit 0)))) (.seq (.out [1,2,4] (.block 1 (.seq (.out [1,4,54] (.aa [1,4] [w 49 (.fieldAddr aC [.r,.r,.l] 1),w 50 (.load .str 49),m 51 4,w 52 (.da 50 51),w 53 (.call 137 [52]),w 54 (.un .not 53)])) (.out [1,2,4] (.cond (.t 54) (.seq (.out [2] (.aa [] [w 2 (.ab (.c U2 2))])) .ret) .skip))))) (.out [1,4] (.aa [1,4] [m 47 4,w 48 (.bin .add 47 (.c U2 1)),w 4 (.ab 48)]))))
def En:AC:=.out [2] (.loop [1,4] Em)
def ME:AC:=.out [2] (.block 0 En)
def MF:AC:=(.seq MD ME)
def MG:AC:=(.seq (.out [2] (.aa [] [w 2 (.ab (.c U2 0))])) .ret)
def zY:AC:=(.seq MF MG)
def uz:AC:=(.seq (.seq (.out [1,34] (.aa [1,3] [m 33 3,w 34 (.un .not 33)])) (.out [1,2] (.cond (.t 34) (.seq (.out [2] (.aa [] [w 2 (.ab (.c U2 6))])) .ret) .skip))) (.seq (.seq (.out [1,37] (.aa [1] [w 35 (.fieldAddr aC [.r,.r,.l] 1),w 36 (.load .str 35),w 37 (.bin .eql 36 (.c .str []))])) (.out [1,2] (.cond (.t 37) (.seq (.out [2] (.aa [] [w 2 (.ab (.c U2 7))])) .ret) .skip))) (.seq (.seq (.out [1,41] (.aa [1] [w 38 (.fieldAddr aC [.r,.r,.l] 1),w 39 (.load .str 38),w 40 (.bz 39),w 41 (.bin .gtr 40 (.c U2 8))])) (.out [1,2] (.cond (.t 41) (.seq (.out [2] (.aa [] [w 2 (.ab (.c U2 3))])) .ret) .skip))) zY)))
def zZ:AC:=(.seq (.out [1] (.aa [0] [w 1 (.box aC 0),w 2 (.ab (.c U2 0))])) (.seq (.seq (.out [1,12] (.aa [1] [w 5 (.fieldAddr aC [.l] 1),w 6 (.load U2 5),w 7 (.bin .lss 6 (.c U2 1)),m 8 7,⟨some 9,.fieldAddr aC [.l] 1,some (8,false)⟩,⟨some 10,.load U2 9,some (8,false)⟩,⟨some 11,.bin .gtr 10 (.c U2 9),some (8,false)⟩,w 12 (.pick 8 (.c .bool true) 11)])) (.out [1,2] (.cond (.t 12) (.seq (.out [2] (.aa [] [w 2 (.ab (.c U2 1))])) .ret) .skip))) (.seq (.out [1,3] (.aa [1] [w 13 (.fieldAddr aC [.r,.l] 1),w 14 (.load U2 13),w 15 (.bin .eql 14 (.c U2 0)),w 3 (.ab 15)])) (.seq (.seq (.out [1,3,18] (.aa [1,3] [w 16 (.fieldAddr aC [.l] 1),w 17 (.load U2 16),w 18 (.bin .eql 17 (.c U2 1))])) (.out [1,3] (.cond (.t 18) (.out [1,3] (.aa [1] [w 19 (.fieldAddr aC [.r,.l] 1),w 20 (.load U2 19),w 21 (.bin .geq 20 (.c U2 1)),m 22 21,⟨some 23,.fieldAddr aC [.r,.l] 1,some (22,true)⟩,⟨some 24,.load U2 23,some (22,true)⟩,⟨some 25,.bin .leq 24 (.c U2 3),some (22,true)⟩,w 26 (.pick 22 25 (.c .bool false)),w 3 (.ab 26)])) .skip))) (.seq (.seq (.out [1,3,29] (.aa [1,3] [w 27 (.fieldAddr aC [.l] 1),w 28 (.load U2 27),w 29 (.bin .eql 28 (.c U2 2))])) (.out [1,3] (.cond (.t 29) (.out [1,3] (.aa [1] [w 30 (.fieldAddr aC [.r,.l] 1),w 31 (.load U2 30),w 32 (.bin .eql 31 (.c U2 2)),w 3 (.ab 32)])) .skip))) uz)))))
def El:AC:=zZ
def d117:FD:={nargs:=1,body:=El,res:=[.t 2]}
def EV:AC:=(.seq (.seq (.out [0,2,4,17] (.aa [0,2,4] [m 8 4,m 9 0,w 10 (.bz 9),w 11 (.bin .lss 8 10),m 12 11,⟨some 13,.mv 0,some (12,true)⟩,⟨some 14,.mv 4,some (12,true)⟩,⟨some 15,.da 13 14,some (12,true)⟩,⟨some 16,.bin .neq 15 (.c U0 47),some (12,true)⟩,w 17 (.pick 12 16 (.c .bool false))])) (.out [0,2,4] (.cond (.t 17) .skip (.exit 0)))) (.out [0,2,4] (.block 1 (.out [0,2,4] (.aa [0,2,4] [m 18 4,w 19 (.bin .add 18 (.c U2 1)),w 4 (.ab 19)])))))
def EW:AC:=.out [0,2,4] (.loop [0,2,4] EV)
def Nk:AC:=.out [0,2,4] (.block 0 EW)
def Nl:AC:=.out [2,5,6,7] (.aa [2,5,6] [w 7 (.ab (.c U2 1))])
def EY:AC:=(.seq (.seq (.out [2,5,6,7,38] (.aa [2,5,6,7] [m 35 7,w 36 (.call 148 []),w 37 (.bz 36),w 38 (.bin .lss 35 37)])) (.out [2,5,6,7] (.cond (.t 38) .skip (.exit 2)))) (.seq (.out [2,5,6,7] (.block 3 (.seq (.out [2,5,6,7,46] (.draw [2,5,6,7] [⟨w 41 (.call 148 []),[42,44,45],[41],[],false,[]⟩,⟨m 42 7,[41,44,45],[42],[],false,[]⟩,⟨w 43 (.da 41 42),[44,45],[43],[0,1],false,[]⟩,⟨m 44 5,[41,42,43],[44],[],false,[]⟩,⟨w 45 (.da 44 (.c U2 0)),[41,42,43],[45],[3],false,[]⟩,⟨w 46 (.bin .eql 43 45),[],[46],[0,1,2,3,4],false,[]⟩])) (.out [2,5,6,7] (.cond (.t 46) (.out [2,5,6,7] (.aa [2,5,6,7] [m 47 7,w 48 (.fieldAddr aC [.l] 6),⟨none,.store U2 48 47,none⟩])) .skip))))) (.out [2,5,6,7] (.aa [2,5,6,7] [m 39 7,w 40 (.bin .add 39 (.c U2 1)),w 7 (.ab 40)]))))
def EZ:AC:=.out [2,5,6] (.loop [2,5,6,7] EY)
def Nn:AC:=.out [2,5,6] (.block 2 EZ)
def No:AC:=(.seq Nl Nn)
def Np:AC:=(.seq (.out [2,5,6] (.aa [2,5,6] [m 49 5,w 50 (.iY 49 (some (.c U2 1)) none),w 5 (.ab 50)])) (.seq (.seq (.out [2,5,6,67] (.aa [2,5,6] [w 51 (.load aC 6),w 52 (.call 114 [51]),m 53 52,⟨some 54,.mv 5,some (53,true)⟩,⟨some 55,.bz 54,some (53,true)⟩,⟨some 56,.bin .eql 55 (.c U2 1),some (53,true)⟩,w 57 (.pick 53 56 (.c .bool false)),m 58 57,⟨some 59,.mv 5,some (58,true)⟩,⟨some 60,.da 59 (.c U2 0),some (58,true)⟩,⟨some 61,.bin .geq 60 (.c U0 49),some (58,true)⟩,w 62 (.pick 58 61 (.c .bool false)),m 63 62,⟨some 64,.mv 5,some (63,true)⟩,⟨some 65,.da 64 (.c U2 0),some (63,true)⟩,⟨some 66,.bin .leq 65 (.c U0 51),some (63,true)⟩,w 67 (.pick 63 66 (.c .bool false))])) (.out [2,5,6] (.cond (.t 67) (.seq (.out [2,6] (.aa [2,5,6] [m 68 5,w 69 (.da 68 (.c U2 0)),w 70 (.oF .i64 69),w 71 (.bin .sub 70 (.c U2 48)),w 72 (.fieldAddr aC [.r,.l] 6),⟨none,.store U2 72 71,none⟩])) (.out [2,5,6] (.aa [2,6] [w 5 (.ab (.c .str []))]))) .skip))) (.seq (.out [2,3] (.draw [2,5,6] [⟨w 73 (.load aC 6),[74,75,76,77,78,79,80],[73],[],false,[]⟩,⟨m 74 5,[73],[74],[],false,[]⟩,⟨w 75 (.bin .eql 74 (.c .str [])),[73],[75],[1],false,[]⟩,⟨m 76 75,[73],[76],[1,2],false,[]⟩,⟨⟨some 77,.load aC 6,some (76,true)⟩,[73],[77],[1,2,3],false,[]⟩,⟨⟨some 78,.call 117 [77],some (76,true)⟩,[73],[78],[1,2,3,4],false,[]⟩,⟨⟨some 79,.bin .eql 78 (.c U2 0),some (76,true)⟩,[2,73],[79],[1,2,3,4,5],false,[]⟩,⟨w 80 (.pick 76 79 (.c .bool false)),[2,73],[80],[1,2,3,4,5,6],false,[]⟩,⟨⟨none,.store aC 2 73,none⟩,[79,80],[2],[0,1,2,3,4,5],false,[]⟩,⟨w 3 (.ab 80),[],[3],[0,1,2,3,4,5,6,7,8],false,[]⟩])) .ret)))
def Aj:AC:=(.seq No Np)
def EX:AC:=(.seq (.out [0,2,4,5] (.aa [0,2,4] [w 5 (.ab (.c .str []))])) (.seq (.seq (.out [0,2,4,5,23] (.aa [0,2,4,5] [m 20 4,m 21 0,w 22 (.bz 21),w 23 (.bin .lss 20 22)])) (.out [0,2,4,5] (.cond (.t 23) (.out [0,2,4,5] (.aa [0,2,4] [m 24 0,m 25 4,w 26 (.bin .add 25 (.c U2 1)),w 27 (.iY 24 (some 26) none),w 5 (.ab 27)])) .skip))) (.seq (.seq (.out [0,2,4,5,29] (.aa [0,2,4,5] [m 28 5,w 29 (.bin .eql 28 (.c .str []))])) (.out [0,2,3,4,5] (.cond (.t 29) (.seq (.out [2,3] (.aa [2] [w 30 (.build aC []),⟨none,.store aC 2 30,none⟩,w 3 (.ab (.c .bool false))])) .ret) .skip))) (.seq (.out [2,5,6] (.aa [0,2,4,5] [m 31 0,m 32 4,w 33 (.iY 31 none (some 32)),w 34 (.build aC [([.r,.r,.l],33)]),w 6 (.alloc aC .no),⟨none,.store aC 6 34,none⟩])) Aj))))
def Ah:AC:=(.seq Nk EX)
def Ai:AC:=(.seq (.out [0,2] (.aa [0] [w 2 (.alloc aC .no),w 3 (.ab (.c .bool false))])) (.seq (.out [0,2,4] (.aa [0,2] [w 4 (.ab (.c U2 0))])) Ah))
def EU:AC:=Ai
def d139:FD:={nargs:=1,body:=EU,res:=[.cell 2 aC,.t 3]}
def MH:AC:=.out [4,5,6] (.aa [4,5] [w 6 (.ab (.c U2 0))])
def Ep:AC:=(.seq (.seq (.out [4,5,6,19] (.aa [4,5,6] [m 16 6,m 17 5,w 18 (.a8 17),w 19 (.bin .lss 16 18)])) (.out [4,5,6] (.cond (.t 19) .skip (.exit 0)))) (.seq (.out [2,3,4,5,6] (.block 1 (.seq (.out [4,5,6,7,8] (.aa [4,5,6] [m 23 5,m 24 6,w 25 (.indexAddr .str 23 24),w 26 (.load .str 25),w 27 (.call 139 [26]),m 22 27,w 28 (.extract 22 0),w 29 (.extract 22 1),w 7 (.alloc aC .no),⟨none,.store aC 7 28,none⟩,w 8 (.ab 29)])) (.seq (.seq (.out [4,5,6,7,31] (.aa [4,5,6,7,8] [m 30 8,w 31 (.un .not 30)])) (.out [2,3,4,5,6,7] (.cond (.t 31) (.seq (.out [2,3] (.aa [] [w 2 (.ab (.nil 40 aC)),w 3 (.ab (.c U2 2))])) .ret) .skip))) (.out [4,5,6] (.aa [4,5,6,7] [m 32 4,w 33 (.load aC 7),w 34 (.buildSlice 40 aC [33]),w 35 (.append 40 aC 4398046511104 32 34),w 4 (.ab 35)])))))) (.out [4,5,6] (.aa [4,5,6] [m 20 6,w 21 (.bin .add 20 (.c U2 1)),w 6 (.ab 21)]))))
def Er:AC:=.out [2,3,4] (.loop [4,5,6] Ep)
def MI:AC:=.out [2,3,4] (.block 0 Er)
def MJ:AC:=(.seq MH MI)
def MK:AC:=(.seq (.seq (.out [4,38] (.aa [4] [m 36 4,w 37 (.a8 36),w 38 (.bin .gtr 37 (.c U2 200))])) (.out [2,3,4] (.cond (.t 38) (.seq (.out [2,3] (.aa [] [w 2 (.ab (.nil 40 aC)),w 3 (.ab (.c U2 2))])) .ret) .skip))) (.seq (.out [2,3,4] (.aa [4] [m 39 4,w 2 (.ab 39),w 3 (.ab (.c U2 0))])) .ret))
def z6:AC:=(.seq MJ MK)
def z7:AC:=(.seq (.out [0] (.aa [0] [w 2 (.ab (.nil 40 aC)),w 3 (.ab (.c U2 0))])) (.seq (.seq (.out [0,11] (.aa [0] [m 9 0,w 10 (.bz 9),w 11 (.bin .gtr 10 (.c U2 4000))])) (.out [0,2,3] (.cond (.t 11) (.seq (.out [2,3] (.aa [] [w 2 (.ab (.nil 40 aC)),w 3 (.ab (.c U2 3))])) .ret) .skip))) (.seq (.seq (.out [0,13] (.aa [0] [m 12 0,w 13 (.bin .eql 12 (.c .str []))])) (.out [0,2,3] (.cond (.t 13) (.seq (.out [2,3] (.aa [] [w 2 (.ab (.nil 40 aC)),w 3 (.ab (.c U2 0))])) .ret) .skip))) (.seq (.out [0,4] (.aa [0] [w 4 (.ab (.nil 40 aC))])) (.seq (.out [4,5] (.aa [0,4] [m 14 0,w 15 (.call 138 [14]),w 5 (.ab 15)])) z6)))))
def Eo:AC:=z7
def d118:FD:={nargs:=1,body:=Eo,res:=[.t 2,.t 3]}
def Nc:AC:=(.seq (.out [0] (.aa [0] [w 2 (.ab (.c .bool false))])) (.seq (.out [2] (.aa [0] [m 3 0,w 4 (.bin .geq 3 (.c U0 48)),m 5 4,⟨some 6,.mv 0,some (5,true)⟩,⟨some 7,.bin .leq 6 (.c U0 57),some (5,true)⟩,w 8 (.pick 5 7 (.c .bool false)),w 2 (.ab 8)])) .ret))
def EO:AC:=Nc
def d136:FD:={nargs:=1,body:=EO,res:=[.t 2]}
def E1:AC:=(.seq (.seq (.out [0,3,13] (.aa [0,3] [m 4 3,m 5 0,w 6 (.bz 5),w 7 (.bin .lss 4 6),m 8 7,⟨some 9,.mv 0,some (8,true)⟩,⟨some 10,.mv 3,some (8,true)⟩,⟨some 11,.da 9 10,some (8,true)⟩,⟨some 12,.call 136 [11],some (8,true)⟩,w 13 (.pick 8 12 (.c .bool false))])) (.out [0,3] (.cond (.t 13) .skip (.exit 0)))) (.out [0,3] (.block 1 (.out [0,3] (.aa [0,3] [m 14 3,w 15 (.bin .add 14 (.c U2 1)),w 3 (.ab 15)])))))
def E2:AC:=.out [3] (.loop [0,3] E1)
def Nr:AC:=.out [3] (.block 0 E2)
def Ns:AC:=(.seq (.out [2] (.aa [3] [m 16 3,w 2 (.ab 16)])) .ret)
def Ak:AC:=(.seq Nr Ns)
def Al:AC:=(.seq (.out [0] (.aa [0] [w 2 (.ab (.c U2 0))])) (.seq (.out [0,3] (.aa [0] [w 3 (.ab (.c U2 0))])) Ak))
def E0:AC:=Al
def d140:FD:={nargs:=1,body:=E0,res:=[.t 2]}
def ML:AC:=.out [0,4,5] (.aa [0,4] [w 5 (.ab (.c U2 0))])
def Et:AC:=(.seq (.seq (.out [0,4,5,33] (.aa [0,4,5] [m 30 5,m 31 0,w 32 (.bz 31),w 33 (.bin .lss 30 32)])) (.out [0,4,5] (.cond (.t 33) .skip (.exit 0)))) (.seq (.out [0,4,5] (.block 1 (.out [0,4,5] (.aa [0,4,5] [m 36 4,w 37 (.bin .mul (.c U2 10) 36),m 38 0,m 39 5,w 40 (.da 38 39),w 41 (.bin .sub 40 (.c U0 48)),w 42 (.oF .i64 41),w 43 (.bin .add 37 42),w 4 (.ab 43)])))) (.out [0,4,5] (.aa [0,4,5] [m 34 5,w 35 (.bin .add 34 (.c U2 1)),w 5 (.ab 35)]))))
def Eu:AC:=.out [4] (.loop [0,4,5] Et)
def MM:AC:=.out [4] (.block 0 Eu)
def MN:AC:=(.seq ML MM)
def MO:AC:=(.seq (.out [2,3] (.aa [4] [m 44 4,w 2 (.ab 44),w 3 (.ab (.c .bool true))])) .ret)
def z8:AC:=(.seq MN MO)
def Aa:AC:=(.seq (.out [0] (.aa [0] [w 2 (.ab (.c U2 0)),w 3 (.ab (.c .bool false))])) (.seq (.seq (.out [0,29] (.aa [0] [m 6 0,w 7 (.bin .eql 6 (.c .str [])),m 8 7,⟨some 9,.mv 0,some (8,false)⟩,⟨some 10,.bz 9,some (8,false)⟩,⟨some 11,.bin .gtr 10 (.c U2 6),some (8,false)⟩,w 12 (.pick 8 (.c .bool true) 11),m 13 12,⟨some 14,.mv 0,some (13,false)⟩,⟨some 15,.call 140 [14],some (13,false)⟩,⟨some 16,.mv 0,some (13,false)⟩,⟨some 17,.bz 16,some (13,false)⟩,⟨some 18,.bin .neq 15 17,some (13,false)⟩,w 19 (.pick 13 (.c .bool true) 18),m 20 19,⟨some 21,.mv 0,some (20,false)⟩,⟨some 22,.da 21 (.c U2 0),some (20,false)⟩,⟨some 23,.bin .eql 22 (.c U0 48),some (20,false)⟩,⟨some 24,.mv 23,some (20,false)⟩,⟨some 25,.mv 0,some (24,true)⟩,⟨some 26,.bz 25,some (24,true)⟩,⟨some 27,.bin .gtr 26 (.c U2 1),some (24,true)⟩,⟨some 28,.pick 24 27 (.c .bool false),some (20,false)⟩,w 29 (.pick 20 (.c .bool true) 28)])) (.out [0,2,3] (.cond (.t 29) (.seq (.out [2,3] (.aa [] [w 2 (.ab (.c U2 0)),w 3 (.ab (.c .bool false))])) .ret) .skip))) (.seq (.out [0,4] (.aa [0] [w 4 (.ab (.c U2 0))])) z8)))
def Es:AC:=Aa
def d119:FD:={nargs:=1,body:=Es,res:=[.t 2,.t 3]}
def MQ:AC:=(.seq (.out [0] (.aa [0] [w 2 (.ab (.c .str []))])) (.seq (.out [2] (.aa [0] [w 3 (.buildSlice 9 .str [(.c .str [97,110,121,119,104,101,114,101]),(.c .str [98,101,102,111,114,101]),(.c .str [115,116,97,114,116]),(.c .str [98,101,116,119,101,101,110]),(.c .str [110,111,116])]),m 4 0,w 5 (.indexAddr .str 3 4),w 6 (.load .str 5),w 2 (.ab 6)])) .ret))
def Ew:AC:=MQ
def d120:FD:={nargs:=1,body:=Ew,res:=[.t 2]}
def Qy:AC:=.out [2,4,5,6] (.aa [2,4,5] [w 6 (.ab (.c U2 2))])
def Hv:AC:=(.seq (.seq (.out [2,4,5,6,25] (.aa [2,4,5,6] [m 21 6,m 22 4,w 23 (.a8 22),w 24 (.bin .sub 23 (.c U2 2)),w 25 (.bin .lss 21 24)])) (.out [2,4,5,6] (.cond (.t 25) .skip (.exit 0)))) (.seq (.out [2,4,5,6] (.block 1 (.out [2,4,5,6] (.aa [2,4,5,6] [m 28 5,w 29 (.bin .add 28 (.c .str [32])),m 30 4,m 31 6,w 32 (.indexAddr .str 30 31),w 33 (.load .str 32),w 34 (.bin .add 29 33),w 5 (.ab 34)])))) (.out [2,4,5,6] (.aa [2,4,5,6] [m 26 6,w 27 (.bin .add 26 (.c U2 1)),w 6 (.ab 27)]))))
def Hx:AC:=.out [2,4,5] (.loop [2,4,5,6] Hv)
def QA:AC:=.out [2,4,5] (.block 0 Hx)
def QB:AC:=(.seq Qy QA)
def QC:AC:=.out [2,4,7,9,11] (.aa [2,4,7,9] [w 11 (.ab (.c U2 0))])
def Hy:AC:=(.seq (.seq (.out [2,4,7,9,11,58] (.aa [2,4,7,9,11] [m 57 11,w 58 (.bin .leq 57 (.c U2 4))])) (.out [2,4,7,9,11] (.cond (.t 58) .skip (.exit 2)))) (.seq (.out [2,3,4,7,9,11] (.block 3 (.seq (.out [2,4,7,9,11,69] (.draw [2,4,7,9,11] [⟨m 61 4,[62,63,64,67,68],[61],[],false,[]⟩,⟨m 62 4,[61,67,68],[62],[],false,[]⟩,⟨w 63 (.a8 62),[61,67,68],[63],[1],false,[]⟩,⟨w 64 (.bin .sub 63 (.c U2 1)),[61,67,68],[64],[1,2],false,[]⟩,⟨w 65 (.indexAddr .str 61 64),[67,68],[65],[0,1,2,3],false,[]⟩,⟨w 66 (.load .str 65),[67,68],[66],[0,1,2,3,4],false,[]⟩,⟨m 67 11,[61,62,63,64,65,66],[67],[],false,[]⟩,⟨w 68 (.call 120 [67]),[61,62,63,64,65,66],[68],[6],false,[]⟩,⟨w 69 (.bin .eql 66 68),[],[69],[0,1,2,3,4,5,6,7],false,[]⟩])) (.out [2,3,4,7,9,11] (.cond (.t 69) (.seq (.out [2,3] (.aa [2,4,7,9,11] [m 70 4,w 71 (.indexAddr .str 70 (.c U2 0)),w 72 (.load .str 71),m 73 7,m 74 9,m 75 11,w 76 (.build aH [([.l],72),([.r,.l],73),([.r,.r,.l],74),([.r,.r,.r,.l],75)]),⟨none,.store aH 2 76,none⟩,w 3 (.ab (.c .bool true))])) .ret) .skip))))) (.out [2,4,7,9,11] (.aa [2,4,7,9,11] [m 59 11,w 60 (.bin .add 59 (.c U2 1)),w 11 (.ab 60)]))))
def Hz:AC:=.out [2,3] (.loop [2,4,7,9,11] Hy)
def QD:AC:=.out [2,3] (.block 2 Hz)
def QE:AC:=(.seq QC QD)
def Qz:AC:=(.seq (.out [2,3] (.aa [2] [w 77 (.jX aH (.pair .no (.pair (.own true 40 .no) (.pair .no (.pair .no .no)))) []),⟨none,.store aH 2 77,none⟩,w 3 (.ab (.c .bool false))])) .ret)
def Bq:AC:=(.seq QE Qz)
def Hw:AC:=(.seq (.out [2,4,7,8] (.aa [2,4,5] [m 36 5,w 37 (.call 118 [36]),m 35 37,w 38 (.extract 35 0),w 39 (.extract 35 1),w 7 (.ab 38),w 8 (.ab 39)])) (.seq (.out [2,4,7,8,9,10] (.aa [2,4,7,8] [m 41 4,m 42 4,w 43 (.a8 42),w 44 (.bin .sub 43 (.c U2 2)),w 45 (.indexAddr .str 41 44),w 46 (.load .str 45),w 47 (.call 119 [46]),m 40 47,w 48 (.extract 40 0),w 49 (.extract 40 1),w 9 (.ab 48),w 10 (.ab 49)])) (.seq (.seq (.out [2,4,7,9,55] (.aa [2,4,7,8,9,10] [m 50 8,w 51 (.bin .neq 50 (.c U2 0)),m 52 51,⟨some 53,.mv 10,some (52,false)⟩,⟨some 54,.un .not 53,some (52,false)⟩,w 55 (.pick 52 (.c .bool true) 54)])) (.out [2,3,4,7,9] (.cond (.t 55) (.seq (.out [2,3] (.aa [2] [w 56 (.jX aH (.pair .no (.pair (.own true 40 .no) (.pair .no (.pair .no .no)))) []),⟨none,.store aH 2 56,none⟩,w 3 (.ab (.c .bool false))])) .ret) .skip))) Bq)))
def Br:AC:=(.seq QB Hw)
def Bs:AC:=(.seq (.out [0,2] (.aa [0] [w 2 (.alloc aH (.pair .no (.pair (.own true 40 .no) (.pair .no (.pair .no .no))))),w 3 (.ab (.c .bool false))])) (.seq (.out [2,4] (.aa [0,2] [m 12 0,w 13 (.call 93 [12]),w 4 (.ab 13)])) (.seq (.seq (.out [2,4,16] (.aa [2,4] [m 14 4,w 15 (.a8 14),w 16 (.bin .lss 15 (.c U2 4))])) (.out [2,3,4] (.cond (.t 16) (.seq (.out [2,3] (.aa [2] [w 17 (.jX aH (.pair .no (.pair (.own true 40 .no) (.pair .no (.pair .no .no)))) []),⟨none,.store aH 2 17,none⟩,w 3 (.ab (.c .bool false))])) .ret) .skip))) (.seq (.out [2,4,5] (.aa [2,4] [m 18 4,w 19 (.indexAddr .str 18 (.c U2 1)),w 20 (.load .str 19),w 5 (.ab 20)])) Br))))
def Hu:AC:=Bs
def d94:FD:={nargs:=1,body:=Hu,res:=[.cell 2 aH,.t 3]}
def Nb:AC:=(.seq (.out [0] (.aa [0] [w 2 (.ab (.c .bool false))])) (.seq (.out [2] (.aa [0] [m 3 0,w 4 (.bin .geq 3 (.c U0 97)),m 5 4,⟨some 6,.mv 0,some (5,true)⟩,⟨some 7,.bin .leq 6 (.c U0 122),some (5,true)⟩,w 8 (.pick 5 7 (.c .bool false)),w 2 (.ab 8)])) .ret))
def EN:AC:=Nb
def d135:FD:={nargs:=1,body:=EN,res:=[.t 2]}
def Eg:AC:=(.seq (.seq (.out [0,3,15] (.aa [0,3] [m 12 3,m 13 0,w 14 (.bz 13),w 15 (.bin .lss 12 14)])) (.out [0,3] (.cond (.t 15) .skip (.exit 0)))) (.out [0,3] (.block 1 (.seq (.seq (.out [0,3,25] (.aa [0,3] [m 16 0,m 17 3,w 18 (.da 16 17),w 19 (.call 135 [18]),m 20 19,⟨some 21,.mv 0,some (20,false)⟩,⟨some 22,.mv 3,some (20,false)⟩,⟨some 23,.da 21 22,some (20,false)⟩,⟨some 24,.call 136 [23],some (20,false)⟩,w 25 (.pick 20 (.c .bool true) 24)])) (.out [0,3] (.cond (.t 25) (.seq (.out [0,3] (.aa [0,3] [m 26 3,w 27 (.bin .add 26 (.c U2 1)),w 3 (.ab 27)])) (.exit 1)) .skip))) (.seq (.seq (.out [0,3,54] (.aa [0,3] [m 28 0,m 29 3,w 30 (.da 28 29),w 31 (.bin .neq 30 (.c U0 45)),m 32 31,⟨some 33,.mv 3,some (32,false)⟩,⟨some 34,.bin .add 33 (.c U2 1),some (32,false)⟩,⟨some 35,.mv 0,some (32,false)⟩,⟨some 36,.bz 35,some (32,false)⟩,⟨some 37,.bin .eql 34 36,some (32,false)⟩,w 38 (.pick 32 (.c .bool true) 37),m 39 38,⟨some 40,.mv 0,some (39,false)⟩,⟨some 41,.mv 3,some (39,false)⟩,⟨some 42,.bin .add 41 (.c U2 1),some (39,false)⟩,⟨some 43,.da 40 42,some (39,false)⟩,⟨some 44,.call 135 [43],some (39,false)⟩,⟨some 45,.un .not 44,some (39,false)⟩,⟨some 46,.mv 45,some (39,false)⟩,⟨some 47,.mv 0,some (46,true)⟩,⟨some 48,.mv 3,some (46,true)⟩,⟨some 49,.bin .add 48 (.c U2 1),some (46,true)⟩,⟨some 50,.da 47 49,some (46,true)⟩,⟨some 51,.call 136 [50],some (46,true)⟩,⟨some 52,.un .not 51,some (46,true)⟩,⟨some 53,.pick 46 52 (.c .bool false),some (39,false)⟩,w 54 (.pick 39 (.c .bool true) 53)])) (.out [0,3] (.cond (.t 54) (.exit 0) .skip))) (.out [0,3] (.aa [0,3] [m 55 3,w 56 (.bin .add 55 (.c U2 2)),w 3 (.ab 56)])))))))
def Eh:AC:=.out [3] (.loop [0,3] Eg)
def Mx:AC:=.out [3] (.block 0 Eh)
def My:AC:=(.seq (.out [2] (.aa [3] [m 57 3,w 2 (.ab 57)])) .ret)
def zU:AC:=(.seq Mx My)
def zV:AC:=(.seq (.out [0] (.aa [0] [w 2 (.ab (.c U2 0))])) (.seq (.seq (.out [0,11] (.aa [0] [m 4 0,w 5 (.bin .eql 4 (.c .str [])),m 6 5,⟨some 7,.mv 0,some (6,false)⟩,⟨some 8,.da 7 (.c U2 0),some (6,false)⟩,⟨some 9,.call 135 [8],some (6,false)⟩,⟨some 10,.un .not 9,some (6,false)⟩,w 11 (.pick 6 (.c .bool true) 10)])) (.out [0,2] (.cond (.t 11) (.seq (.out [2] (.aa [] [w 2 (.ab (.c U2 0))])) .ret) .skip))) (.seq (.out [0,3] (.aa [0] [w 3 (.ab (.c U2 1))])) zU)))
def Ef:AC:=zV
def d115:FD:={nargs:=1,body:=Ef,res:=[.t 2]}
def Ql:AC:=(.seq (.out [0] (.aa [0] [w 2 (.ab (.c .bool false))])) (.seq (.out [2] (.aa [0] [m 3 0,w 4 (.bin .neq 3 (.c .str [])),m 5 4,⟨some 6,.mv 0,some (5,true)⟩,⟨some 7,.bz 6,some (5,true)⟩,⟨some 8,.bin .leq 7 (.c U2 20),some (5,true)⟩,w 9 (.pick 5 8 (.c .bool false)),m 10 9,⟨some 11,.mv 0,some (10,true)⟩,⟨some 12,.call 115 [11],some (10,true)⟩,⟨some 13,.mv 0,some (10,true)⟩,⟨some 14,.bz 13,some (10,true)⟩,⟨some 15,.bin .eql 12 14,some (10,true)⟩,w 16 (.pick 10 15 (.c .bool false)),w 2 (.ab 16)])) .ret))
def Hk:AC:=Ql
def d90:FD:={nargs:=1,body:=Hk,res:=[.t 2]}
def Ms:AC:=.out [0,3] (.aa [0] [w 3 (.ab (.c U2 0))])
def Ec:AC:=(.seq (.seq (.out [0,3,11] (.aa [0,3] [m 10 3,w 11 (.bin .lss 10 (.c U2 15))])) (.out [0,3] (.cond (.t 11) .skip (.exit 0)))) (.seq (.out [0,2,3] (.block 1 (.seq (.out [0,3,17] (.aa [0,3] [m 14 3,w 15 (.da (.c .str [32,46,44,59,58,33,63,34,45,91,93,60,62,123,125]) 14),m 16 0,w 17 (.bin .eql 15 16)])) (.out [0,2,3] (.cond (.t 17) (.seq (.out [2] (.aa [] [w 2 (.ab (.c .bool false))])) .ret) .skip))))) (.out [0,3] (.aa [0,3] [m 12 3,w 13 (.bin .add 12 (.c U2 1)),w 3 (.ab 13)]))))
def Ed:AC:=.out [2] (.loop [0,3] Ec)
def Mt:AC:=.out [2] (.block 0 Ed)
def Mu:AC:=(.seq Ms Mt)
def Mv:AC:=(.seq (.out [2] (.aa [] [w 2 (.ab (.c .bool true))])) .ret)
def zS:AC:=(.seq Mu Mv)
def zT:AC:=(.seq (.out [0] (.aa [0] [w 2 (.ab (.c .bool false))])) (.seq (.seq (.out [0,9] (.aa [0] [m 4 0,w 5 (.bin .lss 4 (.c U0 32)),m 6 5,⟨some 7,.mv 0,some (6,false)⟩,⟨some 8,.bin .gtr 7 (.c U0 126),some (6,false)⟩,w 9 (.pick 6 (.c .bool true) 8)])) (.out [0,2] (.cond (.t 9) (.seq (.out [2] (.aa [] [w 2 (.ab (.c .bool false))])) .ret) .skip))) zS))
def Eb:AC:=zT
def d111:FD:={nargs:=1,body:=Eb,res:=[.t 2]}
def Mz:AC:=.out [0,3] (.aa [0] [w 3 (.ab (.c U2 0))])
def Ej:AC:=(.seq (.seq (.out [0,3,12] (.aa [0,3] [m 9 3,m 10 0,w 11 (.bz 10),w 12 (.bin .lss 9 11)])) (.out [0,3] (.cond (.t 12) .skip (.exit 0)))) (.seq (.out [0,2,3] (.block 1 (.seq (.out [0,3,31] (.aa [0,3] [m 15 0,m 16 3,w 17 (.da 15 16),w 18 (.call 111 [17]),w 19 (.un .not 18),m 20 19,⟨some 21,.mv 0,some (20,false)⟩,⟨some 22,.mv 3,some (20,false)⟩,⟨some 23,.da 21 22,some (20,false)⟩,⟨some 24,.bin .geq 23 (.c U0 65),some (20,false)⟩,⟨some 25,.mv 24,some (20,false)⟩,⟨some 26,.mv 0,some (25,true)⟩,⟨some 27,.mv 3,some (25,true)⟩,⟨some 28,.da 26 27,some (25,true)⟩,⟨some 29,.bin .leq 28 (.c U0 90),some (25,true)⟩,⟨some 30,.pick 25 29 (.c .bool false),some (20,false)⟩,w 31 (.pick 20 (.c .bool true) 30)])) (.out [0,2,3] (.cond (.t 31) (.seq (.out [2] (.aa [] [w 2 (.ab (.c U2 2))])) .ret) .skip))))) (.out [0,3] (.aa [0,3] [m 13 3,w 14 (.bin .add 13 (.c U2 1)),w 3 (.ab 14)]))))
def Ek:AC:=.out [2] (.loop [0,3] Ej)
def MA:AC:=.out [2] (.block 0 Ek)
def MB:AC:=(.seq Mz MA)
def MC:AC:=(.seq (.out [2] (.aa [] [w 2 (.ab (.c U2 0))])) .ret)
def zW:AC:=(.seq MB MC)
def zX:AC:=(.seq (.out [0] (.aa [0] [w 2 (.ab (.c U2 0))])) (.seq (.seq (.out [0,5] (.aa [0] [m 4 0,w 5 (.bin .eql 4 (.c .str []))])) (.out [0,2] (.cond (.t 5) (.seq (.out [2] (.aa [] [w 2 (.ab (.c U2 7))])) .ret) .skip))) (.seq (.seq (.out [0,8] (.aa [0] [m 6 0,w 7 (.bz 6),w 8 (.bin .gtr 7 (.c U2 4))])) (.out [0,2] (.cond (.t 8) (.seq (.out [2] (.aa [] [w 2 (.ab (.c U2 3))])) .ret) .skip))) zW)))
def Ei:AC:=zX
def d116:FD:={nargs:=1,body:=Ei,res:=[.t 2]}
def Qm:AC:=.out [1,4] (.aa [1] [w 4 (.ab (.c U2 0))])
def Hm:AC:=(.seq (.seq (.out [1,4,24] (.aa [1,4] [m 20 4,w 21 (.fieldAddr aH [.r,.l] 1),w 22 (.load bp 21),w 23 (.a8 22),w 24 (.bin .lss 20 23)])) (.out [1,4] (.cond (.t 24) .skip (.exit 0)))) (.seq (.out [1,2,4] (.block 1 (.seq (.out [1,4,5] (.aa [1,4] [w 27 (.fieldAddr aH [.r,.l] 1),w 28 (.load bp 27),m 29 4,w 30 (.indexAddr aC 28 29),w 31 (.load aC 30),w 32 (.call 117 [31]),w 5 (.ab 32)])) (.seq (.out [1,4,5,34] (.aa [1,4,5] [m 33 5,w 34 (.bin .neq 33 (.c U2 0))])) (.out [1,2,4] (.cond (.t 34) (.seq (.out [2] (.aa [5] [m 35 5,w 2 (.ab 35)])) .ret) .skip)))))) (.out [1,4] (.aa [1,4] [m 25 4,w 26 (.bin .add 25 (.c U2 1)),w 4 (.ab 26)]))))
def Hn:AC:=.out [1,2] (.loop [1,4] Hm)
def Qn:AC:=.out [1,2] (.block 0 Hn)
def Qo:AC:=(.seq Qm Qn)
def Qp:AC:=(.seq (.seq (.out [53] (.aa [1] [w 36 (.fieldAddr aH [.r,.r,.l] 1),w 37 (.load U2 36),w 38 (.bin .lss 37 (.c U2 0)),m 39 38,⟨some 40,.fieldAddr aH [.r,.r,.l] 1,some (39,false)⟩,⟨some 41,.load U2 40,some (39,false)⟩,⟨some 42,.bin .gtr 41 (.c U2 99),some (39,false)⟩,w 43 (.pick 39 (.c .bool true) 42),m 44 43,⟨some 45,.fieldAddr aH [.r,.r,.r,.l] 1,some (44,false)⟩,⟨some 46,.load U2 45,some (44,false)⟩,⟨some 47,.bin .lss 46 (.c U2 0),some (44,false)⟩,w 48 (.pick 44 (.c .bool true) 47),m 49 48,⟨some 50,.fieldAddr aH [.r,.r,.r,.l] 1,some (49,false)⟩,⟨some 51,.load U2 50,some (49,false)⟩,⟨some 52,.bin .gtr 51 (.c U2 4),some (49,false)⟩,w 53 (.pick 49 (.c .bool true) 52)])) (.out [2] (.cond (.t 53) (.seq (.out [2] (.aa [] [w 2 (.ab (.c U2 6))])) .ret) .skip))) (.seq (.out [2] (.aa [] [w 2 (.ab (.c U2 0))])) .ret))
def Bk:AC:=(.seq Qo Qp)
def Bl:AC:=(.seq (.out [1] (.aa [0] [w 1 (.box aH 0),w 2 (.ab (.c U2 0))])) (.seq (.seq (.out [1,3] (.aa [1] [w 6 (.fieldAddr aH [.l] 1),w 7 (.load .str 6),w 8 (.call 116 [7]),w 3 (.ab 8)])) (.seq (.out [1,3,10] (.aa [1,3] [m 9 3,w 10 (.bin .neq 9 (.c U2 0))])) (.out [1,2] (.cond (.t 10) (.seq (.out [2] (.aa [3] [m 11 3,w 2 (.ab 11)])) .ret) .skip)))) (.seq (.seq (.out [1,15] (.aa [1] [w 12 (.fieldAddr aH [.r,.l] 1),w 13 (.load bp 12),w 14 (.a8 13),w 15 (.bin .eql 14 (.c U2 0))])) (.out [1,2] (.cond (.t 15) (.seq (.out [2] (.aa [] [w 2 (.ab (.c U2 7))])) .ret) .skip))) (.seq (.seq (.out [1,19] (.aa [1] [w 16 (.fieldAddr aH [.r,.l] 1),w 17 (.load bp 16),w 18 (.a8 17),w 19 (.bin .gtr 18 (.c U2 2))])) (.out [1,2] (.cond (.t 19) (.seq (.out [2] (.aa [] [w 2 (.ab (.c U2 3))])) .ret) .skip))) Bk))))
def Hl:AC:=Bl
def d91:FD:={nargs:=1,body:=Hl,res:=[.t 2]}
def Qj:AC:=(.seq (.out [0,1] (.aa [0,1] [w 4 (.ab (.c U2 0))])) (.seq (.seq (.out [0,1,7] (.aa [0,1] [m 5 0,m 6 1,w 7 (.bin .lss 5 6)])) (.out [0,1,4] (.cond (.t 7) (.seq (.out [4] (.aa [] [w 4 (.ab (.c U2 (-1)))])) .ret) .skip))) (.seq (.seq (.out [10] (.aa [0,1] [m 8 0,m 9 1,w 10 (.bin .gtr 8 9)])) (.out [4] (.cond (.t 10) (.seq (.out [4] (.aa [] [w 4 (.ab (.c U2 1))])) .ret) .skip))) (.seq (.out [4] (.aa [] [w 4 (.ab (.c U2 0))])) .ret))))
def Hi:AC:=Qj
def d86:FD:={nargs:=2,body:=Hi,res:=[.t 4]}
def Pt:AC:=(.seq (.out [2,3] (.aa [0,1] [w 2 (.box aC 0),w 3 (.box aC 1),w 4 (.ab (.c U2 0))])) (.seq (.seq (.out [2,3,5] (.aa [2,3] [w 7 (.fieldAddr aC [.l] 2),w 8 (.load U2 7),w 9 (.fieldAddr aC [.l] 3),w 10 (.load U2 9),w 11 (.call 86 [8,10]),w 5 (.ab 11)])) (.seq (.out [2,3,5,13] (.aa [2,3,5] [m 12 5,w 13 (.bin .neq 12 (.c U2 0))])) (.out [2,3,4] (.cond (.t 13) (.seq (.out [4] (.aa [5] [m 14 5,w 4 (.ab 14)])) .ret) .skip)))) (.seq (.seq (.out [2,3,6] (.aa [2,3] [w 15 (.fieldAddr aC [.r,.l] 2),w 16 (.load U2 15),w 17 (.fieldAddr aC [.r,.l] 3),w 18 (.load U2 17),w 19 (.call 86 [16,18]),w 6 (.ab 19)])) (.seq (.out [2,3,6,21] (.aa [2,3,6] [m 20 6,w 21 (.bin .neq 20 (.c U2 0))])) (.out [2,3,4] (.cond (.t 21) (.seq (.out [4] (.aa [6] [m 22 6,w 4 (.ab 22)])) .ret) .skip)))) (.seq (.seq (.out [2,3,27] (.aa [2,3] [w 23 (.fieldAddr aC [.r,.r,.l] 2),w 24 (.load .str 23),w 25 (.fieldAddr aC [.r,.r,.l] 3),w 26 (.load .str 25),w 27 (.bin .lss 24 26)])) (.out [2,3,4] (.cond (.t 27) (.seq (.out [4] (.aa [] [w 4 (.ab (.c U2 (-1)))])) .ret) .skip))) (.seq (.seq (.out [32] (.aa [2,3] [w 28 (.fieldAddr aC [.r,.r,.l] 2),w 29 (.load .str 28),w 30 (.fieldAddr aC [.r,.r,.l] 3),w 31 (.load .str 30),w 32 (.bin .gtr 29 31)])) (.out [4] (.cond (.t 32) (.seq (.out [4] (.aa [] [w 4 (.ab (.c U2 1))])) .ret) .skip))) (.seq (.out [4] (.aa [] [w 4 (.ab (.c U2 0))])) .ret))))))
def GK:AC:=Pt
def d59:FD:={nargs:=2,body:=GK,res:=[.t 4]}
def OD:AC:=.out [0,1,5] (.aa [0,1] [w 5 (.ab (.c U2 0))])
def F0:AC:=(.seq (.seq (.out [0,1,5,14] (.aa [0,1,5] [m 11 5,m 12 0,w 13 (.a8 12),w 14 (.bin .lss 11 13)])) (.out [0,1,5] (.cond (.t 14) .skip (.exit 0)))) (.seq (.out [0,1,4,5] (.block 1 (.seq (.out [0,1,5,26] (.draw [0,1,5] [⟨m 17 0,[18,21,22,23,24],[17],[],false,[]⟩,⟨m 18 5,[17,21,22,23,24],[18],[],false,[]⟩,⟨w 19 (.indexAddr aC 17 18),[21,22,23,24],[19],[0,1],false,[]⟩,⟨w 20 (.load aC 19),[21,22,23,24],[20],[0,1,2],false,[]⟩,⟨m 21 1,[17,18,19,20,22],[21],[],false,[]⟩,⟨m 22 5,[17,18,19,20,21],[22],[],false,[]⟩,⟨w 23 (.indexAddr aC 21 22),[17,18,19,20],[23],[4,5],false,[]⟩,⟨w 24 (.load aC 23),[17,18,19,20],[24],[4,5,6],false,[]⟩,⟨w 25 (.call 59 [20,24]),[],[25],[0,1,2,3,4,5,6,7],false,[]⟩,⟨w 26 (.bin .neq 25 (.c U2 0)),[],[26],[0,1,2,3,4,5,6,7,8],false,[]⟩])) (.out [0,1,4,5] (.cond (.t 26) (.seq (.out [4] (.aa [] [w 4 (.ab (.c .bool false))])) .ret) .skip))))) (.out [0,1,5] (.aa [0,1,5] [m 15 5,w 16 (.bin .add 15 (.c U2 1)),w 5 (.ab 16)]))))
def F1:AC:=.out [4] (.loop [0,1,5] F0)
def OE:AC:=.out [4] (.block 0 F1)
def OF:AC:=(.seq OD OE)
def OG:AC:=(.seq (.out [4] (.aa [] [w 4 (.ab (.c .bool true))])) .ret)
def AL:AC:=(.seq OF OG)
def AM:AC:=(.seq (.out [0,1] (.aa [0,1] [w 4 (.ab (.c .bool false))])) (.seq (.seq (.out [0,1,10] (.aa [0,1] [m 6 0,w 7 (.a8 6),m 8 1,w 9 (.a8 8),w 10 (.bin .neq 7 9)])) (.out [0,1,4] (.cond (.t 10) (.seq (.out [4] (.aa [] [w 4 (.ab (.c .bool false))])) .ret) .skip))) AL))
def FZ:AC:=AM
def d28:FD:={nargs:=2,body:=FZ,res:=[.t 4]}
def PF:AC:=.out [1,4] (.aa [1] [w 4 (.ab (.c U2 0))])
def GR:AC:=(.seq (.seq (.out [1,4,6,40] (.aa [1,4,6] [m 38 6,m 39 4,w 40 (.bin .lss 38 39)])) (.out [1,4,6] (.cond (.t 40) .skip (.exit 2)))) (.seq (.out [1,2,3,4,6] (.block 3 (.seq (.out [1,4,6,7,8] (.draw [1,4,6] [⟨w 43 (.fieldAddr ar [.r,.l] 1),[7,8,45,48,49,50,51,52],[43],[],false,[]⟩,⟨w 44 (.load c8 43),[7,8,45,48,49,50,51,52],[44],[0],false,[]⟩,⟨m 45 4,[7,8,43,44,48,49,50,51,52],[45],[],false,[]⟩,⟨w 46 (.indexAddr aH 44 45),[7,8,48,49,50,51,52],[46],[0,1,2],false,[]⟩,⟨w 47 (.load aH 46),[7,8,48,49,50,51,52],[47],[0,1,2,3],false,[]⟩,⟨w 48 (.fieldAddr ar [.r,.l] 1),[7,8,43,44,45,46,47,50],[48],[],false,[]⟩,⟨w 49 (.load c8 48),[7,8,43,44,45,46,47,50],[49],[5],false,[]⟩,⟨m 50 6,[7,8,43,44,45,46,47,48,49],[50],[],false,[]⟩,⟨w 51 (.indexAddr aH 49 50),[7,8,43,44,45,46,47],[51],[5,6,7],false,[]⟩,⟨w 52 (.load aH 51),[7,8,43,44,45,46,47],[52],[5,6,7,8],false,[]⟩,⟨w 7 (.alloc aH .no),[8,43,44,45,46,47,48,49,50,51,52],[7],[],false,[]⟩,⟨w 8 (.alloc aH (.pair .no (.pair (.own true 40 .no) (.pair .no (.pair .no .no))))),[7,43,44,45,46,47,48,49,50,51,52],[8],[],false,[]⟩,⟨⟨none,.store aH 7 47,none⟩,[48,49,50,51,52],[7],[0,1,2,3,4,10,11],false,[]⟩,⟨⟨none,.store aH 8 52,none⟩,[],[8],[0,1,2,3,4,5,6,7,8,9,10,11,12],true,[]⟩])) (.seq (.out [1,4,6,71] (.aa [1,4,6,7,8] [w 53 (.fieldAddr aH [.l] 7),w 54 (.load .str 53),w 55 (.fieldAddr aH [.l] 8),w 56 (.load .str 55),w 57 (.bin .eql 54 56),m 58 57,⟨some 59,.fieldAddr aH [.r,.r,.r,.l] 7,some (58,true)⟩,⟨some 60,.load U2 59,some (58,true)⟩,⟨some 61,.fieldAddr aH [.r,.r,.r,.l] 8,some (58,true)⟩,⟨some 62,.load U2 61,some (58,true)⟩,⟨some 63,.bin .eql 60 62,some (58,true)⟩,w 64 (.pick 58 63 (.c .bool false)),m 65 64,⟨some 66,.fieldAddr aH [.r,.l] 7,some (65,true)⟩,⟨some 67,.load bp 66,some (65,true)⟩,⟨some 68,.fieldAddr aH [.r,.l] 8,some (65,true)⟩,⟨some 69,.load bp 68,some (65,true)⟩,⟨some 70,.call 28 [67,69],some (65,true)⟩,w 71 (.pick 65 70 (.c .bool false))])) (.out [1,2,3,4,6] (.cond (.t 71) (.seq (.out [2,3] (.aa [4] [m 72 4,w 2 (.ab 72),w 3 (.ab (.c U2 5))])) .ret) .skip)))))) (.out [1,4,6] (.aa [1,4,6] [m 41 6,w 42 (.bin .add 41 (.c U2 1)),w 6 (.ab 42)]))))
def GS:AC:=.out [1,2,3,4] (.loop [1,4,6] GR)
def A9:AC:=.out [1,2,3,4] (.block 2 GS)
def GU:AC:=(.seq (.seq (.out [1,4,5] (.aa [1,4] [w 28 (.fieldAddr ar [.r,.l] 1),w 29 (.load c8 28),m 30 4,w 31 (.indexAddr aH 29 30),w 32 (.load aH 31),w 33 (.call 91 [32]),w 5 (.ab 33)])) (.seq (.out [1,4,5,35] (.aa [1,4,5] [m 34 5,w 35 (.bin .neq 34 (.c U2 0))])) (.out [1,2,3,4] (.cond (.t 35) (.seq (.out [2,3] (.aa [4,5] [m 36 4,m 37 5,w 2 (.ab 36),w 3 (.ab 37)])) .ret) .skip)))) (.seq (.out [1,4,6] (.aa [1,4] [w 6 (.ab (.c U2 0))])) A9))
def PJ:AC:=.out [1,2,3,4] (.block 1 GU)
def PK:AC:=.out [1,4] (.aa [1,4] [m 26 4,w 27 (.bin .add 26 (.c U2 1)),w 4 (.ab 27)])
def Ba:AC:=(.seq PJ PK)
def uE:AC:=(.seq (.seq (.out [1,4,25] (.aa [1,4] [m 21 4,w 22 (.fieldAddr ar [.r,.l] 1),w 23 (.load c8 22),w 24 (.a8 23),w 25 (.bin .lss 21 24)])) (.out [1,4] (.cond (.t 25) .skip (.exit 0)))) Ba)
def GV:AC:=.out [2,3] (.loop [1,4] uE)
def PG:AC:=.out [2,3] (.block 0 GV)
def PH:AC:=(.seq PF PG)
def PI:AC:=(.seq (.out [2,3] (.aa [] [w 2 (.ab (.c U2 (-1))),w 3 (.ab (.c U2 0))])) .ret)
def A7:AC:=(.seq PH PI)
def A8:AC:=(.seq (.out [1] (.aa [0] [w 1 (.box ar 0),w 2 (.ab (.c U2 0)),w 3 (.ab (.c U2 0))])) (.seq (.seq (.out [1,12] (.aa [1] [w 9 (.fieldAddr ar [.l] 1),w 10 (.load .str 9),w 11 (.call 90 [10]),w 12 (.un .not 11)])) (.out [1,2,3] (.cond (.t 12) (.seq (.out [2,3] (.aa [] [w 2 (.ab (.c U2 (-1))),w 3 (.ab (.c U2 2))])) .ret) .skip))) (.seq (.seq (.out [1,16] (.aa [1] [w 13 (.fieldAddr ar [.r,.l] 1),w 14 (.load c8 13),w 15 (.a8 14),w 16 (.bin .eql 15 (.c U2 0))])) (.out [1,2,3] (.cond (.t 16) (.seq (.out [2,3] (.aa [] [w 2 (.ab (.c U2 (-1))),w 3 (.ab (.c U2 7))])) .ret) .skip))) (.seq (.seq (.out [1,20] (.aa [1] [w 17 (.fieldAddr ar [.r,.l] 1),w 18 (.load c8 17),w 19 (.a8 18),w 20 (.bin .gtr 19 (.c U2 120))])) (.out [1,2,3] (.cond (.t 20) (.seq (.out [2,3] (.aa [] [w 2 (.ab (.c U2 (-1))),w 3 (.ab (.c U2 3))])) .ret) .skip))) A7))))
def GQ:AC:=A8
def d67:FD:={nargs:=1,body:=GQ,res:=[.t 2,.t 3]}
def PL:AC:=.out [0,2,5,6,7] (.aa [0,2,5,6] [w 7 (.ab (.c U2 0))])
def PM:AC:=(.seq (.out [0,2,5,6,7,28] (.aa [0,2,5,6,7] [m 25 7,m 26 5,w 27 (.a8 26),w 28 (.bin .lss 25 27)])) (.out [0,2,5,6,7] (.cond (.t 28) .skip (.exit 0))))
def PR:AC:=.out [0,2,5,6,7,8] (.aa [0,2,5,6,7] [m 31 7,m 32 5,w 33 (.a8 32),w 34 (.bin .sub 33 (.c U2 1)),w 35 (.bin .eql 31 34),m 36 35,⟨some 37,.mv 0,some (36,true)⟩,⟨some 38,.mv 0,some (36,true)⟩,⟨some 39,.bz 38,some (36,true)⟩,⟨some 40,.bin .sub 39 (.c U2 1),some (36,true)⟩,⟨some 41,.da 37 40,some (36,true)⟩,⟨some 42,.bin .neq 41 (.c U0 10),some (36,true)⟩,w 43 (.pick 36 42 (.c .bool false)),w 8 (.ab 43)])
def PS:AC:=(.seq (.out [0,2,5,6,7,8,9] (.aa [0,2,5,6,7,8] [m 44 5,m 45 7,w 46 (.indexAddr .str 44 45),w 47 (.load .str 46),w 48 (.call 93 [47]),w 9 (.ab 48)])) (.seq (.out [0,2,5,6,7,8,9,10,11] (.aa [0,2,5,6,7,8,9] [m 50 5,m 51 7,w 52 (.indexAddr .str 50 51),w 53 (.load .str 52),w 54 (.call 94 [53]),m 49 54,w 55 (.extract 49 0),w 56 (.extract 49 1),w 10 (.alloc aH (.pair .no (.pair (.own true 40 .no) (.pair .no (.pair .no .no))))),⟨none,.store aH 10 55,none⟩,w 11 (.ab 56)])) (.seq (.seq (.out [0,2,5,6,7,8,9,10,11,58] (.aa [0,2,5,6,7,8,9,10,11] [m 57 7,w 58 (.bin .eql 57 (.c U2 0))])) (.out [0,2,5,6,7,8,9,10,11] (.cond (.t 58) (.out [0,2,5,6,7,8,9,10,11] (.aa [0,2,5,6,7,8,9,10] [m 59 9,w 60 (.a8 59),w 61 (.bin .eql 60 (.c U2 2)),m 62 61,⟨some 63,.mv 9,some (62,true)⟩,⟨some 64,.indexAddr .str 63 (.c U2 0),some (62,true)⟩,⟨some 65,.load .str 64,some (62,true)⟩,⟨some 66,.bin .eql 65 (.c .str [111,114,116,104,111,103,114,97,112,104,121]),some (62,true)⟩,w 67 (.pick 62 66 (.c .bool false)),w 11 (.ab 67)])) .skip))) (.seq (.seq (.out [0,2,5,6,7,9,10,72] (.aa [0,2,5,6,7,8,9,10,11] [m 68 8,m 69 68,⟨some 70,.mv 11,some (69,false)⟩,⟨some 71,.un .not 70,some (69,false)⟩,w 72 (.pick 69 (.c .bool true) 71)])) (.out [0,2,3,4,5,6,7,9,10] (.cond (.t 72) (.seq (.out [2,3,4] (.aa [2,7] [w 73 (.jX ar (.pair .no (.pair (.own true 43 .no) .no)) []),m 74 7,w 75 (.bin .add 74 (.c U2 1)),⟨none,.store ar 2 73,none⟩,w 3 (.ab 75),w 4 (.ab (.c U2 2))])) .ret) .skip))) (.seq (.out [0,2,5,6,7,9,10,77] (.aa [0,2,5,6,7,9,10] [m 76 7,w 77 (.bin .eql 76 (.c U2 0))])) (.out [0,2,5,6,7] (.cond (.t 77) (.out [0,2,5,6,7] (.aa [0,2,5,6,7,9] [m 78 9,w 79 (.indexAddr .str 78 (.c U2 1)),w 80 (.load .str 79),w 81 (.fieldAddr ar [.l] 6),⟨none,.store .str 81 80,none⟩])) (.out [0,2,5,6,7] (.aa [0,2,5,6,7,10] [w 82 (.fieldAddr ar [.r,.l] 6),w 83 (.load c8 82),w 84 (.load aH 10),w 85 (.buildSlice 43 aH [84]),w 86 (.append 43 aH 2513169434916 83 85),w 87 (.fieldAddr ar [.r,.l] 6),⟨none,.store c8 87 86,none⟩])))))))))
def PT:AC:=(.seq PR PS)
def PU:AC:=.out [0,2,3,4,5,6,7] (.block 1 PT)
def PV:AC:=.out [0,2,5,6,7] (.aa [0,2,5,6,7] [m 29 7,w 30 (.bin .add 29 (.c U2 1)),w 7 (.ab 30)])
def PW:AC:=(.seq PU PV)
def Bd:AC:=(.seq PM PW)
def GX:AC:=.out [2,3,4,6] (.loop [0,2,5,6,7] Bd)
def PN:AC:=.out [2,3,4,6] (.block 0 GX)
def PO:AC:=(.seq PL PN)
def PQ:AC:=(.seq (.seq (.out [2,6,12,13] (.aa [2,6] [w 89 (.load ar 6),w 90 (.call 67 [89]),m 88 90,w 91 (.extract 88 0),w 92 (.extract 88 1),w 12 (.ab 91),w 13 (.ab 92)])) (.seq (.out [2,6,12,13,94] (.aa [2,6,12,13] [m 93 13,w 94 (.bin .neq 93 (.c U2 0))])) (.out [2,3,4,6] (.cond (.t 94) (.seq (.out [2,12,13,14] (.aa [2,12,13] [w 14 (.ab (.c U2 1))])) (.seq (.seq (.out [2,12,13,14,96] (.aa [2,12,13,14] [m 95 12,w 96 (.bin .geq 95 (.c U2 0))])) (.out [2,13,14] (.cond (.t 96) (.out [2,13,14] (.aa [2,12,13] [m 97 12,w 98 (.bin .add 97 (.c U2 2)),w 14 (.ab 98)])) .skip))) (.seq (.out [2,3,4] (.aa [2,13,14] [w 99 (.jX ar (.pair .no (.pair (.own true 43 .no) .no)) []),m 100 14,m 101 13,⟨none,.store ar 2 99,none⟩,w 3 (.ab 100),w 4 (.ab 101)])) .ret))) .skip)))) (.seq (.out [2,3,4] (.aa [2,6] [w 102 (.load ar 6),⟨none,.store ar 2 102,none⟩,w 3 (.ab (.c U2 0)),w 4 (.ab (.c U2 0))])) .ret))
def Bb:AC:=(.seq PO PQ)
def Bc:AC:=(.seq (.out [0,2] (.aa [0] [w 2 (.alloc ar (.pair .no (.pair (.own true 43 .no) .no))),w 3 (.ab (.c U2 0)),w 4 (.ab (.c U2 0))])) (.seq (.seq (.out [0,2,17] (.aa [0,2] [m 15 0,w 16 (.bz 15),w 17 (.bin .gtr 16 (.c U2 20000))])) (.out [0,2,3,4] (.cond (.t 17) (.seq (.out [2,3,4] (.aa [2] [w 18 (.jX ar (.pair .no (.pair (.own true 43 .no) .no)) []),⟨none,.store ar 2 18,none⟩,w 3 (.ab (.c U2 0)),w 4 (.ab (.c U2 3))])) .ret) .skip))) (.seq (.out [0,2,5] (.aa [0,2] [m 19 0,w 20 (.call 92 [19]),w 5 (.ab 20)])) (.seq (.seq (.out [0,2,5,23] (.aa [0,2,5] [m 21 5,w 22 (.a8 21),w 23 (.bin .eql 22 (.c U2 0))])) (.out [0,2,3,4,5] (.cond (.t 23) (.seq (.out [2,3,4] (.aa [2] [w 24 (.jX ar (.pair .no (.pair (.own true 43 .no) .no)) []),⟨none,.store ar 2 24,none⟩,w 3 (.ab (.c U2 1)),w 4 (.ab (.c U2 2))])) .ret) .skip))) (.seq (.out [0,2,5,6] (.aa [0,2,5] [w 6 (.alloc ar (.pair .no (.pair (.own true 43 .no) .no)))])) Bb)))))
def GW:AC:=Bc
def d69:FD:={nargs:=1,body:=GW,res:=[.cell 2 ar,.t 3,.t 4]}
def OM:AC:=(.seq (.out [0] (.aa [] [w 0 (.alloc ar (.pair .no (.pair (.own true 43 .no) .no)))])) (.seq (.out [0,1] (.aa [0] [w 5 (.call 69 [(.c .str [111,114,116,104,111,103,114,97,112,104,121,32,108,97,116,105,110,10,97,32,97,47,118,51,32,49,32,97,110,121,119,104,101,114,101,10,101,32,101,47,118,51,32,49,32,97,110,121,119,104,101,114,101,10,105,32,105,47,118,51,32,49,32,97,110,121,119,104,101,114,101,10,111,32,111,47,118,51,32,49,32,97,110,121,119,104,101,114,101,10,117,32,117,47,118,51,32,49,32,97,110,121,119,104,101,114,101,10,121,32,121,47,118,51,32,49,32,97,110,121,119,104,101,114,101,10,97,95,32,97,95,47,118,50,32,49,32,97,110,121,119,104,101,114,101,10,101,95,32,101,95,47,118,50,32,49,32,97,110,121,119,104,101,114,101,10,105,95,32,105,95,47,118,50,32,49,32,97,110,121,119,104,101,114,101,10,111,95,32,111,95,47,118,50,32,49,32,97,110,121,119,104,101,114,101,10,117,95,32,117,95,47,118,50,32,49,32,97,110,121,119,104,101,114,101,10,121,95,32,121,95,47,118,50,32,49,32,97,110,121,119,104,101,114,101,10,97,94,32,97,94,47,118,49,32,49,32,97,110,121,119,104,101,114,101,10,101,94,32,101,94,47,118,49,32,49,32,97,110,121,119,104,101,114,101,10,105,94,32,105,94,47,118,49,32,49,32,97,110,121,119,104,101,114,101,10,111,94,32,111,94,47,118,49,32,49,32,97,110,121,119,104,101,114,101,10,117,94,32,117,94,47,118,49,32,49,32,97,110,121,119,104,101,114,101,10,121,94,32,121,94,47,118,49,32,49,32,97,110,121,119,104,101,114,101,10,97,101,32,97,101,47,100,50,32,49,32,97,110,121,119,104,101,114,101,10,97,117,32,97,117,47,100,50,32,49,32,97,110,121,119,104,101,114,101,10,111,101,32,111,101,47,100,50,32,49,32,97,110,121,119,104,101,114,101,10,101,117,32,101,117,47,100,50,32,51,32,97,110,121,119,104,101,114,101,10,105,32,105,47,103,32,48,32,115,116,97,114,116,10,105,32,105,47,103,32,105,47,103,32,48,32,98,101,116,119,101,101,110,10,117,32,117,47,103,32,48,32,115,116,97,114,116,10,117,32,117,47,103,32,48,32,98,101,116,119,101,101,110,10,106,32,106,47,103,32,48,32,97,110,121,119,104,101,114,101,10,118,32,118,47,103,32,48,32,97,110,121,119,104,101,114,101,10,113,117,32,113,117,47,109,32,48,32,98,101,102,111,114,101,10,103,117,32,103,117,47,109,32,50,32,98,101,102,111,114,101,10,115,117,32,115,47,115,32,117,47,103,32,51,32,98,101,102,111,114,101,10,98,32,98,47,109,32,48,32,97,110,121,119,104,101,114,101,10,99,32,99,47,109,32,48,32,97,110,121,119,104,101,114,101,10,100,32,100,47,109,32,48,32,97,110,121,119,104,101,114,101,10,102,32,102,47,109,32,48,32,97,110,121,119,104,101,114,101,10,103,32,103,47,109,32,48,32,97,110,121,119,104,101,114,101,10,107,32,107,47,109,32,48,32,97,110,121,119,104,101,114,101,10,112,32,112,47,109,32,48,32,97,110,121,119,104,101,114,101,10,116,32,116,47,109,32,48,32,97,110,121,119,104,101,114,101,10,108,32,108,47,108,32,48,32,97,110,121,119,104,101,114,101,10,114,32,114,47,108,32,48,32,97,110,121,119,104,101,114,101,10,109,32,109,47,110,32,48,32,97,110,121,119,104,101,114,101,10,110,32,110,47,110,32,48,32,97,110,121,119,104,101,114,101,10,115,32,115,47,115,32,48,32,97,110,121,119,104,101,114,101,10,120,32,120,47,120,32,48,32,97,110,121,119,104,101,114,101,10,122,32,122,47,120,32,48,32,97,110,121,119,104,101,114,101,10,104,32,104,47,98,32,48,32,97,110,121,119,104,101,114,101,10])]),m 4 5,w 6 (.extract 4 0),w 7 (.extract 4 1),w 8 (.extract 4 2),w 1 (.alloc ar (.pair .no (.pair (.own true 43 .no) .no))),⟨none,.store ar 1 6,none⟩,w 2 (.ab 7),w 3 (.ab 8)])) (.seq (.out [0] (.aa [0,1] [w 9 (.load ar 1),⟨none,.store ar 0 9,none⟩])) .ret)))
def F6:AC:=OM
def d37:FD:={nargs:=0,body:=F6,res:=[.cell 0 ar]}
def NF:AC:=(.seq (.out [0] (.aa [0] [w 2 (.ab (.c .bool false))])) (.seq (.out [2] (.aa [0] [m 3 0,w 4 (.bin .geq 3 (.c U0 97)),m 5 4,⟨some 6,.mv 0,some (5,true)⟩,⟨some 7,.bin .leq 6 (.c U0 122),some (5,true)⟩,w 8 (.pick 5 7 (.c .bool false)),w 2 (.ab 8)])) .ret))
def Fe:AC:=NF
def d149:FD:={nargs:=1,body:=Fe,res:=[.t 2]}
def NG:AC:=(.seq (.out [0] (.aa [0] [w 2 (.ab (.c .bool false))])) (.seq (.out [2] (.aa [0] [m 3 0,w 4 (.bin .geq 3 (.c U0 48)),m 5 4,⟨some 6,.mv 0,some (5,true)⟩,⟨some 7,.bin .leq 6 (.c U0 57),some (5,true)⟩,w 8 (.pick 5 7 (.c .bool false)),w 2 (.ab 8)])) .ret))
def Fg:AC:=NG
def d150:FD:={nargs:=1,body:=Fg,res:=[.t 2]}
def E4:AC:=(.seq (.seq (.out [0,3,16] (.aa [0,3] [m 13 3,m 14 0,w 15 (.bz 14),w 16 (.bin .lss 13 15)])) (.out [0,3] (.cond (.t 16) .skip (.exit 0)))) (.out [0,2,3] (.block 1 (.seq (.out [0,3,4] (.aa [0,3] [m 17 0,m 18 3,w 19 (.da 17 18),w 4 (.ab 19)])) (.out [0,2,3] (.block 2 (.seq (.out [0,3,4,21] (.aa [0,3,4] [m 22 4,w 23 (.call 149 [22]),m 24 23,⟨some 25,.mv 4,some (24,false)⟩,⟨some 26,.call 150 [25],some (24,false)⟩,w 27 (.pick 24 (.c .bool true) 26),w 21 (.ab 27)])) (.out [0,2,3] (.cond (.t 21) (.out [0,3] (.aa [0,3] [m 28 3,w 29 (.bin .add 28 (.c U2 1)),w 3 (.ab 29)])) (.seq (.out [0,3,30] (.aa [0,3,4] [m 31 4,w 32 (.bin .eql 31 (.c U0 45)),m 33 32,⟨some 34,.mv 3,some (33,true)⟩,⟨some 35,.bin .add 34 (.c U2 1),some (33,true)⟩,⟨some 36,.mv 0,some (33,true)⟩,⟨some 37,.bz 36,some (33,true)⟩,⟨some 38,.bin .lss 35 37,some (33,true)⟩,w 39 (.pick 33 38 (.c .bool false)),m 40 39,⟨some 41,.mv 0,some (40,true)⟩,⟨some 42,.mv 3,some (40,true)⟩,⟨some 43,.bin .add 42 (.c U2 1),some (40,true)⟩,⟨some 44,.da 41 43,some (40,true)⟩,⟨some 45,.call 149 [44],some (40,true)⟩,⟨some 46,.mv 45,some (40,true)⟩,⟨some 47,.mv 0,some (46,false)⟩,⟨some 48,.mv 3,some (46,false)⟩,⟨some 49,.bin .add 48 (.c U2 1),some (46,false)⟩,⟨some 50,.da 47 49,some (46,false)⟩,⟨some 51,.call 150 [50],some (46,false)⟩,⟨some 52,.pick 46 (.c .bool true) 51,some (40,true)⟩,w 53 (.pick 40 52 (.c .bool false)),w 30 (.ab 53)])) (.out [0,2,3] (.cond (.t 30) (.out [0,3] (.aa [0,3] [m 54 3,w 55 (.bin .add 54 (.c U2 2)),w 3 (.ab 55)])) (.seq (.out [2] (.aa [3] [m 20 3,w 2 (.ab 20)])) .ret)))))))))))))
def E5:AC:=.out [2,3] (.loop [0,3] E4)
def Nt:AC:=.out [2,3] (.block 0 E5)
def Nu:AC:=(.seq (.out [2] (.aa [3] [m 56 3,w 2 (.ab 56)])) .ret)
def Am:AC:=(.seq Nt Nu)
def Ao:AC:=(.seq (.out [0] (.aa [0] [w 2 (.ab (.c U2 0))])) (.seq (.seq (.out [0,12] (.aa [0] [m 5 0,w 6 (.bin .eql 5 (.c .str [])),m 7 6,⟨some 8,.mv 0,some (7,false)⟩,⟨some 9,.da 8 (.c U2 0),some (7,false)⟩,⟨some 10,.call 149 [9],some (7,false)⟩,⟨some 11,.un .not 10,some (7,false)⟩,w 12 (.pick 7 (.c .bool true) 11)])) (.out [0,2] (.cond (.t 12) (.seq (.out [2] (.aa [] [w 2 (.ab (.c U2 0))])) .ret) .skip))) (.seq (.out [0,3] (.aa [0] [w 3 (.ab (.c U2 1))])) Am)))
def E3:AC:=Ao
def d141:FD:={nargs:=1,body:=E3,res:=[.t 2]}
def MR:AC:=(.seq (.out [0] (.aa [0] [w 2 (.ab (.c .bool false))])) (.seq (.out [2] (.aa [0] [m 3 0,w 4 (.bin .neq 3 (.c .str [])),m 5 4,⟨some 6,.mv 0,some (5,true)⟩,⟨some 7,.bz 6,some (5,true)⟩,⟨some 8,.bin .leq 7 (.c U2 20),some (5,true)⟩,w 9 (.pick 5 8 (.c .bool false)),m 10 9,⟨some 11,.mv 0,some (10,true)⟩,⟨some 12,.call 141 [11],some (10,true)⟩,⟨some 13,.mv 0,some (10,true)⟩,⟨some 14,.bz 13,some (10,true)⟩,⟨some 15,.bin .eql 12 14,some (10,true)⟩,w 16 (.pick 10 15 (.c .bool false)),w 2 (.ab 16)])) .ret))
def Ey:AC:=MR
def d121:FD:={nargs:=1,body:=Ey,res:=[.t 2]}
def P4:AC:=.out [3,8,9,10] (.aa [3] [m 8 3,w 9 (.a8 8),w 10 (.mv (.c U2 0))])
def G7:AC:=(.seq (.out [3,8,9,10,11] (.aa [3,8,9,10] [w 11 (.bin .lss 10 9)])) (.seq (.out [3,8,9,10] (.cond (.t 11) .skip (.exit 0))) (.seq (.out [3,8,9,10] (.block 1 (.seq (.out [3,4,5,8,9,10] (.aa [3,8,9,10] [m 12 10,w 13 (.indexAddr U0 8 10),w 14 (.load U0 13),w 4 (.ab 12),w 5 (.ab 14)])) (.seq (.out [3,4,5,8,9,10,20] (.aa [3,4,5,8,9,10] [m 15 5,w 16 (.bin .geq 15 (.c U0 65)),m 17 16,⟨some 18,.mv 5,some (17,true)⟩,⟨some 19,.bin .leq 18 (.c U0 90),some (17,true)⟩,w 20 (.pick 17 19 (.c .bool false))])) (.out [3,8,9,10] (.cond (.t 20) (.out [3,8,9,10] (.aa [3,4,5,8,9,10] [m 21 3,m 22 4,m 23 5,w 24 (.bin .sub 23 (.c U0 65)),w 25 (.bin .add 24 (.c U0 97)),w 26 (.indexAddr U0 21 22),⟨none,.store U0 26 25,none⟩])) .skip)))))) (.out [3,8,9,10] (.aa [3,8,9,10] [w 27 (.bin .add 10 (.c U2 1)),m 10 27])))))
def G8:AC:=.out [3] (.loop [3,8,9,10] G7)
def P5:AC:=.out [3] (.block 0 G8)
def P6:AC:=(.seq P4 P5)
def P7:AC:=(.seq (.out [2] (.aa [3] [m 28 3,w 29 (.toStr 28),w 2 (.ab 29)])) .ret)
def Be:AC:=(.seq P6 P7)
def Bf:AC:=(.seq (.out [0] (.aa [0] [w 2 (.ab (.c .str []))])) (.seq (.out [3] (.aa [0] [m 6 0,w 7 (.qJ 6),w 3 (.ab 7)])) Be))
def G6:AC:=Bf
def d72:FD:={nargs:=1,body:=G6,res:=[.t 2]}
def NP:AC:=.out [9,10,11] (.aa [0] [m 8 0,w 9 (.qJ 8),w 10 (.a8 9),w 11 (.mv (.c U2 0))])
def Fq:AC:=(.seq (.out [9,10,11,12] (.aa [9,10,11] [w 12 (.bin .lss 11 10)])) (.seq (.out [9,10,11] (.cond (.t 12) .skip (.exit 0))) (.seq (.out [2,9,10,11] (.block 1 (.seq (.out [4,9,10,11] (.aa [9,10,11] [w 13 (.indexAddr U0 9 11),w 14 (.load U0 13),w 4 (.ab 14)])) (.seq (.out [9,10,11,20] (.aa [4,9,10,11] [m 15 4,w 16 (.bin .lss 15 (.c U0 32)),m 17 16,⟨some 18,.mv 4,some (17,false)⟩,⟨some 19,.bin .gtr 18 (.c U0 126),some (17,false)⟩,w 20 (.pick 17 (.c .bool true) 19)])) (.out [2,9,10,11] (.cond (.t 20) (.seq (.out [2] (.aa [] [w 2 (.ab (.c U2 2))])) .ret) .skip)))))) (.out [9,10,11] (.aa [9,10,11] [w 21 (.bin .add 11 (.c U2 1)),m 11 21])))))
def Fs:AC:=.out [2] (.loop [9,10,11] Fq)
def NQ:AC:=.out [2] (.block 0 Fs)
def NR:AC:=(.seq NP NQ)
def NS:AC:=(.seq (.out [2] (.aa [] [w 2 (.ab (.c U2 0))])) .ret)
def Ar:AC:=(.seq NR NS)
def As:AC:=(.seq (.out [0] (.aa [0] [w 2 (.ab (.c U2 0))])) (.seq (.seq (.out [0,7] (.aa [0] [m 5 0,w 6 (.bz 5),w 7 (.bin .gtr 6 (.c U2 120))])) (.out [0,2] (.cond (.t 7) (.seq (.out [2] (.aa [] [w 2 (.ab (.c U2 3))])) .ret) .skip))) Ar))
def Fp:AC:=As
def d158:FD:={nargs:=1,body:=Fp,res:=[.t 2]}
def M9:AC:=(.seq (.out [0,1] (.aa [0,1] [w 4 (.ab (.c U2 0))])) (.seq (.out [4] (.aa [0,1] [m 5 0,m 6 1,w 7 (.call 145 [5,6]),w 4 (.ab 7)])) .ret))
def EL:AC:=M9
def d127:FD:={nargs:=2,body:=EL,res:=[.t 4]}
def QL:AC:=(.seq (.out [0] (.aa [0] [w 2 (.ab (.c .bool false))])) (.seq (.out [2] (.aa [0] [m 3 0,w 4 (.bin .geq 3 (.c U0 32)),m 5 4,⟨some 6,.mv 0,some (5,true)⟩,⟨some 7,.bin .leq 6 (.c U0 126),some (5,true)⟩,w 8 (.pick 5 7 (.c .bool false)),m 9 8,⟨some 10,.mv 0,some (9,true)⟩,⟨some 11,.call 127 [(.c .str [32,46,44,59,58,33,63,34,45,91,93,60,62,123,125]),10],some (9,true)⟩,⟨some 12,.bin .lss 11 (.c U2 0),some (9,true)⟩,w 13 (.pick 9 12 (.c .bool false)),w 2 (.ab 13)])) .ret))
def HF:AC:=QL
def d98:FD:={nargs:=1,body:=HF,res:=[.t 2]}
def NH:AC:=.out [5,15,16,17] (.aa [0,5] [m 14 0,w 15 (.qJ 14),w 16 (.a8 15),w 17 (.mv (.c U2 0))])
def Fi:AC:=(.seq (.out [5,15,16,17,18] (.aa [5,15,16,17] [w 18 (.bin .lss 17 16)])) (.seq (.out [5,15,16,17] (.cond (.t 18) .skip (.exit 0))) (.seq (.out [5,15,16,17] (.block 1 (.seq (.out [5,6,7,15,16,17] (.aa [5,15,16,17] [m 19 17,w 20 (.indexAddr U0 15 17),w 21 (.load U0 20),w 6 (.ab 19),w 7 (.ab 21)])) (.seq (.out [5,6,7,8,15,16,17] (.aa [5,6,7,15,16,17] [m 22 5,w 23 (.a8 22),w 8 (.ab 23)])) (.out [5,15,16,17] (.block 2 (.seq (.out [5,6,8,15,16,17,31] (.aa [5,6,7,8,15,16,17] [m 32 7,w 33 (.call 98 [32]),w 34 (.un .not 33),w 31 (.ab 34)])) (.out [5,15,16,17] (.cond (.t 31) .skip (.seq (.out [5,6,8,15,16,17,35] (.aa [5,6,8,15,16,17] [m 36 8,w 37 (.bin .gtr 36 (.c U2 0)),m 38 37,⟨some 39,.mv 5,some (38,true)⟩,⟨some 40,.mv 8,some (38,true)⟩,⟨some 41,.bin .sub 40 (.c U2 1),some (38,true)⟩,⟨some 42,.indexAddr dX 39 41,some (38,true)⟩,⟨some 43,.fieldAddr dX [.r,.l] 42,some (38,true)⟩,⟨some 44,.load U2 43,some (38,true)⟩,⟨some 45,.mv 6,some (38,true)⟩,⟨some 46,.bin .eql 44 45,some (38,true)⟩,w 47 (.pick 38 46 (.c .bool false)),w 35 (.ab 47)])) (.out [5,15,16,17] (.cond (.t 35) (.out [5,15,16,17] (.aa [5,8,15,16,17] [m 48 5,m 49 8,w 50 (.bin .sub 49 (.c U2 1)),w 51 (.indexAddr dX 48 50),w 52 (.fieldAddr dX [.r,.l] 51),w 53 (.load U2 52),w 54 (.bin .add 53 (.c U2 1)),w 55 (.indexAddr dX 48 50),w 56 (.fieldAddr dX [.r,.l] 55),⟨none,.store U2 56 54,none⟩])) (.out [5,15,16,17] (.aa [5,6,15,16,17] [m 24 5,m 25 6,m 26 6,w 27 (.bin .add 26 (.c U2 1)),w 28 (.build dX [([.l],25),([.r,.l],27)]),w 29 (.buildSlice 179 dX [28]),w 30 (.append 179 dX 8796093022208 24 29),w 5 (.ab 30)])))))))))))))) (.out [5,15,16,17] (.aa [5,15,16,17] [w 57 (.bin .add 17 (.c U2 1)),m 17 57])))))
def Fj:AC:=.out [5] (.loop [5,15,16,17] Fi)
def NI:AC:=.out [5] (.block 0 Fj)
def NJ:AC:=(.seq NH NI)
def NK:AC:=(.seq (.out [2,3,5] (.aa [5] [m 58 5,w 2 (.ab 58),w 3 (.ab (.c U2 0))])) .ret)
def Ap:AC:=(.seq NJ NK)
def Aq:AC:=(.seq (.out [0] (.aa [0] [w 2 (.ab (.nil 179 dX)),w 3 (.ab (.c U2 0))])) (.seq (.seq (.out [0,4] (.aa [0] [m 9 0,w 10 (.call 158 [9]),w 4 (.ab 10)])) (.seq (.out [0,4,12] (.aa [0,4] [m 11 4,w 12 (.bin .neq 11 (.c U2 0))])) (.out [0,2,3] (.cond (.t 12) (.seq (.out [2,3] (.aa [4] [m 13 4,w 2 (.ab (.nil 179 dX)),w 3 (.ab 13)])) .ret) .skip)))) (.seq (.out [0,5] (.aa [0] [w 5 (.ab (.nil 179 dX))])) Ap)))
def Fh:AC:=Aq
def d151:FD:={nargs:=1,body:=Fh,res:=[.t 2,.t 3]}
def Nv:AC:=(.seq (.out [0] (.aa [0] [w 2 (.ab (.c U2 0))])) (.seq (.out [0,2] (.block 0 (.seq (.out [0,5] (.aa [0] [m 6 0,w 7 (.bin .eql 6 (.c .str [])),w 5 (.ab 7)])) (.out [0,2] (.cond (.t 5) (.seq (.out [2] (.aa [] [w 2 (.ab (.c U2 7))])) .ret) (.seq (.out [0,8] (.aa [0] [m 9 0,w 10 (.bz 9),w 11 (.bin .gtr 10 (.c U2 4)),w 8 (.ab 11)])) (.out [0,2] (.cond (.t 8) (.seq (.out [2] (.aa [] [w 2 (.ab (.c U2 3))])) .ret) (.seq (.out [0,12] (.aa [0] [m 13 0,w 14 (.call 72 [13]),m 15 0,w 16 (.bin .neq 14 15),w 12 (.ab 16)])) (.out [0,2] (.cond (.t 12) (.seq (.out [2] (.aa [] [w 2 (.ab (.c U2 2))])) .ret) .skip))))))))))) (.seq (.out [0,3,4] (.aa [0] [m 18 0,w 19 (.call 151 [18]),m 17 19,w 20 (.extract 17 0),w 21 (.extract 17 1),w 3 (.ab 20),w 4 (.ab 21)])) (.seq (.seq (.out [42] (.draw [0,3,4] [⟨m 22 4,[],[22],[],false,[]⟩,⟨w 23 (.bin .neq 22 (.c U2 0)),[],[23],[0],false,[]⟩,⟨m 24 23,[],[24],[0,1],false,[]⟩,⟨⟨some 25,.mv 3,some (24,false)⟩,[],[25],[0,1,2],false,[]⟩,⟨⟨some 26,.a8 25,some (24,false)⟩,[],[26],[0,1,2,3],false,[]⟩,⟨⟨some 27,.bin .neq 26 (.c U2 1),some (24,false)⟩,[],[27],[0,1,2,3,4],false,[]⟩,⟨w 28 (.pick 24 (.c .bool true) 27),[],[28],[0,1,2,3,4,5],false,[]⟩,⟨m 29 28,[],[29],[0,1,2,3,4,5,6],false,[]⟩,⟨⟨some 30,.mv 3,some (29,false)⟩,[34,35,36,37,39,40],[30],[0,1,2,3,4,5,6,7],false,[]⟩,⟨⟨some 31,.indexAddr dX 30 (.c U2 0),some (29,false)⟩,[34,35,36,37,39,40],[31],[0,1,2,3,4,5,6,7,8],false,[]⟩,⟨⟨some 32,.fieldAddr dX [.r,.l] 31,some (29,false)⟩,[34,35,36,37,39,40],[32],[0,1,2,3,4,5,6,7,8,9],false,[]⟩,⟨⟨some 33,.load U2 32,some (29,false)⟩,[34,35,36,37,39,40],[33],[0,1,2,3,4,5,6,7,8,9,10],false,[]⟩,⟨⟨some 34,.mv 3,some (29,false)⟩,[30,31,32,33,39,40],[34],[0,1,2,3,4,5,6,7],false,[]⟩,⟨⟨some 35,.indexAddr dX 34 (.c U2 0),some (29,false)⟩,[30,31,32,33,39,40],[35],[0,1,2,3,4,5,6,7,12],false,[]⟩,⟨⟨some 36,.fieldAddr dX [.l] 35,some (29,false)⟩,[30,31,32,33,39,40],[36],[0,1,2,3,4,5,6,7,12,13],false,[]⟩,⟨⟨some 37,.load U2 36,some (29,false)⟩,[30,31,32,33,39,40],[37],[0,1,2,3,4,5,6,7,12,13,14],false,[]⟩,⟨⟨some 38,.bin .sub 33 37,some (29,false)⟩,[39,40],[38],[0,1,2,3,4,5,6,7,8,9,10,11,12,13,14,15],false,[]⟩,⟨⟨some 39,.mv 0,some (29,false)⟩,[30,31,32,33,34,35,36,37,38],[39],[0,1,2,3,4,5,6,7],false,[]⟩,⟨⟨some 40,.bz 39,some (29,false)⟩,[30,31,32,33,34,35,36,37,38],[40],[0,1,2,3,4,5,6,7,17],false,[]⟩,⟨⟨some 41,.bin .neq 38 40,some (29,false)⟩,[],[41],[0,1,2,3,4,5,6,7,8,9,10,11,12,13,14,15,16,17,18],false,[]⟩,⟨w 42 (.pick 29 (.c .bool true) 41),[],[42],[0,1,2,3,4,5,6,7,8,9,10,11,12,13,14,15,16,17,18,19],false,[]⟩])) (.out [2] (.cond (.t 42) (.seq (.out [2] (.aa [] [w 2 (.ab (.c U2 2))])) .ret) .skip))) (.seq (.out [2] (.aa [] [w 2 (.ab (.c U2 0))])) .ret)))))
def E6:AC:=Nv
def d142:FD:={nargs:=1,body:=E6,res:=[.t 2]}
def NL:AC:=(.seq (.out [1] (.aa [0] [w 1 (.box aC 0),w 2 (.ab (.c .bool false))])) (.seq (.seq (.out [1,4] (.aa [1] [w 3 (.fieldAddr aC [.l] 1),w 4 (.load U2 3)])) (.out [1,2] (.block 0 (.seq (.out [1,4,5] (.aa [1,4] [w 6 (.bin .eql 4 (.c U2 1)),w 5 (.ab 6)])) (.out [1,2] (.cond (.t 5) (.seq (.out [2] (.aa [1] [w 7 (.fieldAddr aC [.r,.l] 1),w 8 (.load U2 7),w 9 (.bin .geq 8 (.c U2 1)),m 10 9,⟨some 11,.fieldAddr aC [.r,.l] 1,some (10,true)⟩,⟨some 12,.load U2 11,some (10,true)⟩,⟨some 13,.bin .leq 12 (.c U2 3),some (10,true)⟩,w 14 (.pick 10 13 (.c .bool false)),w 2 (.ab 14)])) .ret) (.seq (.out [1,15] (.aa [1,4] [w 16 (.bin .eql 4 (.c U2 2)),w 15 (.ab 16)])) (.out [1,2] (.cond (.t 15) (.seq (.out [2] (.aa [1] [w 17 (.fieldAddr aC [.r,.l] 1),w 18 (.load U2 17),w 19 (.bin .eql 18 (.c U2 2)),w 2 (.ab 19)])) .ret) .skip))))))))) (.seq (.out [2] (.aa [1] [w 20 (.fieldAddr aC [.r,.l] 1),w 21 (.load U2 20),w 22 (.bin .eql 21 (.c U2 0)),w 2 (.ab 22)])) .ret)))
def Fk:AC:=NL
def d152:FD:={nargs:=1,body:=Fk,res:=[.t 2]}
def NO:AC:=(.seq (.out [0] (.aa [0] [w 2 (.ab (.c .bool false))])) (.seq (.out [2] (.aa [0] [m 3 0,w 4 (.bin .geq 3 (.c U3 97)),m 5 4,⟨some 6,.mv 0,some (5,true)⟩,⟨some 7,.bin .leq 6 (.c U3 122),some (5,true)⟩,w 8 (.pick 5 7 (.c .bool false)),m 9 8,⟨some 10,.mv 0,some (9,false)⟩,⟨some 11,.bin .geq 10 (.c U3 48),some (9,false)⟩,⟨some 12,.mv 11,some (9,false)⟩,⟨some 13,.mv 0,some (12,true)⟩,⟨some 14,.bin .leq 13 (.c U3 57),some (12,true)⟩,⟨some 15,.pick 12 14 (.c .bool false),some (9,false)⟩,w 16 (.pick 9 (.c .bool true) 15),m 17 16,⟨some 18,.mv 0,some (17,false)⟩,⟨some 19,.bin .eql 18 (.c U3 95),some (17,false)⟩,w 20 (.pick 17 (.c .bool true) 19),m 21 20,⟨some 22,.mv 0,some (21,false)⟩,⟨some 23,.bin .eql 22 (.c U3 94),some (21,false)⟩,w 24 (.pick 21 (.c .bool true) 23),m 25 24,⟨some 26,.mv 0,some (25,false)⟩,⟨some 27,.bin .eql 26 (.c U3 39),some (25,false)⟩,w 28 (.pick 25 (.c .bool true) 27),w 2 (.ab 28)])) .ret))
def Fo:AC:=NO
def d155:FD:={nargs:=1,body:=Fo,res:=[.t 2]}
def NN:AC:=(.seq (.out [0] (.aa [0] [w 2 (.ab (.c .bool false))])) (.seq (.out [2] (.aa [0] [m 3 0,w 4 (.call 155 [3]),w 5 (.un .not 4),w 2 (.ab 5)])) .ret))
def Fm:AC:=NN
def d154:FD:={nargs:=1,body:=Fm,res:=[.t 2]}
def NY:AC:=.out [0,1,2] (.aa [0,1,2] [w 6 (.ab (.c U2 0))])
def NZ:AC:=.out [1,2,10] (.aa [0,1,2] [m 9 0,w 10 (.Dg 9)])
def FA:AC:=(.seq (.out [1,2,10,11,12] (.aa [1,2,10] [w 11 (.dQ 10),w 12 (.extract 11 0)])) (.seq (.out [1,2,10,11] (.cond (.t 12) .skip (.exit 0))) (.out [1,2,6,10] (.block 1 (.seq (.out [1,2,7,8,10] (.aa [1,2,10,11] [w 13 (.extract 11 1),w 14 (.extract 11 2),w 7 (.ab 13),w 8 (.ab 14)])) (.seq (.out [1,2,7,10,19] (.aa [1,2,7,8,10] [m 15 1,m 16 8,w 17 (.ns 15 [16]),m 18 2,w 19 (.mP false .bool 17 18)])) (.out [1,2,6,10] (.cond (.t 19) (.seq (.out [6] (.aa [7] [m 20 7,w 6 (.ab 20)])) .ret) .skip))))))))
def FB:AC:=.out [6] (.loop [1,2,10] FA)
def N0:AC:=.out [6] (.block 0 FB)
def N1:AC:=(.seq NZ N0)
def N2:AC:=(.seq (.out [6] (.aa [] [w 6 (.ab (.c U2 (-1)))])) .ret)
def N3:AC:=(.seq N1 N2)
def FC:AC:=(.seq NY N3)
def Fy:AC:=FC
def d160:FD:={nargs:=3,body:=Fy,res:=[.t 6]}
def NT:AC:=(.seq (.out [0,1] (.aa [0,1] [w 4 (.ab (.c U2 0))])) (.seq (.out [4] (.aa [0,1] [m 5 0,m 6 1,w 7 (.call 160 [5,6,(.c .bool true)]),w 4 (.ab 7)])) .ret))
def Ft:AC:=NT
def d159:FD:={nargs:=2,body:=Ft,res:=[.t 4]}
def NM:AC:=(.seq (.out [0,1] (.aa [0,1] [w 4 (.ab (.c .bool false))])) (.seq (.out [4] (.aa [0,1] [m 5 0,m 6 1,w 7 (.call 159 [5,6]),w 8 (.bin .geq 7 (.c U2 0)),w 4 (.ab 8)])) .ret))
def Fl:AC:=NM
def d153:FD:={nargs:=2,body:=Fl,res:=[.t 4]}
def Nw:AC:=(.seq (.out [1] (.aa [0] [w 1 (.box aC 0),w 2 (.ab (.c U2 0))])) (.seq (.out [2] (.block 0 (.seq (.out [1,3] (.aa [1] [w 4 (.fieldAddr aC [.l] 1),w 5 (.load U2 4),w 6 (.bin .lss 5 (.c U2 1)),m 7 6,⟨some 8,.fieldAddr aC [.l] 1,some (7,false)⟩,⟨some 9,.load U2 8,some (7,false)⟩,⟨some 10,.bin .gtr 9 (.c U2 9),some (7,false)⟩,w 11 (.pick 7 (.c .bool true) 10),w 3 (.ab 11)])) (.out [2] (.cond (.t 3) (.seq (.out [2] (.aa [] [w 2 (.ab (.c U2 1))])) .ret) (.seq (.out [1,12] (.aa [1] [w 13 (.load aC 1),w 14 (.call 152 [13]),w 15 (.un .not 14),w 12 (.ab 15)])) (.out [2] (.cond (.t 12) (.seq (.out [2] (.aa [] [w 2 (.ab (.c U2 6))])) .ret) (.seq (.out [1,16] (.aa [1] [w 17 (.fieldAddr aC [.r,.r,.l] 1),w 18 (.load .str 17),w 19 (.bin .eql 18 (.c .str [])),w 16 (.ab 19)])) (.out [2] (.cond (.t 16) (.seq (.out [2] (.aa [] [w 2 (.ab (.c U2 7))])) .ret) (.seq (.out [1,20] (.aa [1] [w 21 (.fieldAddr aC [.r,.r,.l] 1),w 22 (.load .str 21),w 23 (.bz 22),w 24 (.bin .gtr 23 (.c U2 8)),w 20 (.ab 24)])) (.out [2] (.cond (.t 20) (.seq (.out [2] (.aa [] [w 2 (.ab (.c U2 3))])) .ret) (.seq (.out [25] (.aa [1] [w 26 (.fieldAddr aC [.r,.r,.l] 1),w 27 (.load .str 26),w 28 (.call 153 [27,(.fn 154 L2 .bool)]),w 25 (.ab 28)])) (.out [2] (.cond (.t 25) (.seq (.out [2] (.aa [] [w 2 (.ab (.c U2 2))])) .ret) .skip))))))))))))))))) (.seq (.out [2] (.aa [] [w 2 (.ab (.c U2 0))])) .ret)))
def E7:AC:=Nw
def d143:FD:={nargs:=1,body:=E7,res:=[.t 2]}
def MS:AC:=.out [1,22,23,24] (.aa [1] [w 21 (.fieldAddr aH [.r,.l] 1),w 22 (.load bp 21),w 23 (.a8 22),w 24 (.mv (.c U2 0))])
def EA:AC:=(.seq (.out [1,22,23,24,25] (.aa [1,22,23,24] [w 25 (.bin .lss 24 23)])) (.seq (.out [1,22,23,24] (.cond (.t 25) .skip (.exit 0))) (.seq (.out [1,2,22,23,24] (.block 1 (.seq (.out [1,5,22,23,24] (.aa [1,22,23,24] [w 26 (.indexAddr aC 22 24),w 27 (.load aC 26),w 5 (.alloc aC .no),⟨none,.store aC 5 27,none⟩])) (.seq (.out [1,6,22,23,24] (.aa [1,5,22,23,24] [w 28 (.load aC 5),w 29 (.call 143 [28]),w 6 (.ab 29)])) (.seq (.out [1,6,22,23,24,31] (.aa [1,6,22,23,24] [m 30 6,w 31 (.bin .neq 30 (.c U2 0))])) (.out [1,2,22,23,24] (.cond (.t 31) (.seq (.out [2] (.aa [6] [m 32 6,w 2 (.ab 32)])) .ret) .skip))))))) (.out [1,22,23,24] (.aa [1,22,23,24] [w 33 (.bin .add 24 (.c U2 1)),m 24 33])))))
def EB:AC:=.out [1,2] (.loop [1,22,23,24] EA)
def MT:AC:=.out [1,2] (.block 0 EB)
def MU:AC:=(.seq MS MT)
def MV:AC:=(.seq (.seq (.out [51] (.aa [1] [w 34 (.fieldAddr aH [.r,.r,.l] 1),w 35 (.load U2 34),w 36 (.bin .lss 35 (.c U2 0)),m 37 36,⟨some 38,.fieldAddr aH [.r,.r,.l] 1,some (37,false)⟩,⟨some 39,.load U2 38,some (37,false)⟩,⟨some 40,.bin .gtr 39 (.c U2 99),some (37,false)⟩,w 41 (.pick 37 (.c .bool true) 40),m 42 41,⟨some 43,.fieldAddr aH [.r,.r,.r,.l] 1,some (42,false)⟩,⟨some 44,.load U2 43,some (42,false)⟩,⟨some 45,.bin .lss 44 (.c U2 0),some (42,false)⟩,w 46 (.pick 42 (.c .bool true) 45),m 47 46,⟨some 48,.fieldAddr aH [.r,.r,.r,.l] 1,some (47,false)⟩,⟨some 49,.load U2 48,some (47,false)⟩,⟨some 50,.bin .gtr 49 (.c U2 4),some (47,false)⟩,w 51 (.pick 47 (.c .bool true) 50)])) (.out [2] (.cond (.t 51) (.seq (.out [2] (.aa [] [w 2 (.ab (.c U2 6))])) .ret) .skip))) (.seq (.out [2] (.aa [] [w 2 (.ab (.c U2 0))])) .ret))
def Ab:AC:=(.seq MU MV)
def Ac:AC:=(.seq (.out [1] (.aa [0] [w 1 (.box aH 0),w 2 (.ab (.c U2 0))])) (.seq (.seq (.out [1,3] (.aa [1] [w 7 (.fieldAddr aH [.l] 1),w 8 (.load .str 7),w 9 (.call 142 [8]),w 3 (.ab 9)])) (.seq (.out [1,3,11] (.aa [1,3] [m 10 3,w 11 (.bin .neq 10 (.c U2 0))])) (.out [1,2] (.cond (.t 11) (.seq (.out [2] (.aa [3] [m 12 3,w 2 (.ab 12)])) .ret) .skip)))) (.seq (.seq (.out [1,16] (.aa [1] [w 13 (.fieldAddr aH [.r,.l] 1),w 14 (.load bp 13),w 15 (.a8 14),w 16 (.bin .eql 15 (.c U2 0))])) (.out [1,2] (.cond (.t 16) (.seq (.out [2] (.aa [] [w 2 (.ab (.c U2 7))])) .ret) .skip))) (.seq (.seq (.out [1,20] (.aa [1] [w 17 (.fieldAddr aH [.r,.l] 1),w 18 (.load bp 17),w 19 (.a8 18),w 20 (.bin .gtr 19 (.c U2 2))])) (.out [1,2] (.cond (.t 20) (.seq (.out [2] (.aa [] [w 2 (.ab (.c U2 3))])) .ret) .skip))) Ab))))
def Ez:AC:=Ac
def d122:FD:={nargs:=1,body:=Ez,res:=[.t 2]}
def MY:AC:=.out [0,1,12,13] (.aa [0,1] [m 11 0,w 12 (.a8 11),w 13 (.mv (.c U2 0))])
def EF:AC:=(.seq (.out [0,1,12,13,14] (.aa [0,1,12,13] [w 14 (.bin .lss 13 12)])) (.seq (.out [0,1,12,13] (.cond (.t 14) .skip (.exit 0))) (.seq (.out [0,1,4,12,13] (.block 1 (.seq (.out [0,1,5,12,13] (.aa [0,1,12,13] [m 15 13,w 5 (.ab 15)])) (.seq (.out [0,1,12,13,24] (.draw [0,1,5,12,13] [⟨m 16 0,[17,20,21,22,23],[16],[],false,[]⟩,⟨m 17 5,[16,20,21,22,23],[17],[],false,[]⟩,⟨w 18 (.indexAddr aC 16 17),[20,21,22,23],[18],[0,1],false,[]⟩,⟨w 19 (.load aC 18),[20,21,22,23],[19],[0,1,2],false,[]⟩,⟨m 20 1,[16,17,18,19,21],[20],[],false,[]⟩,⟨m 21 5,[16,17,18,19,20],[21],[],false,[]⟩,⟨w 22 (.indexAddr aC 20 21),[16,17,18,19],[22],[4,5],false,[]⟩,⟨w 23 (.load aC 22),[16,17,18,19],[23],[4,5,6],false,[]⟩,⟨w 24 (.mP true aC 19 23),[],[24],[0,1,2,3,4,5,6,7],false,[]⟩])) (.out [0,1,4,12,13] (.cond (.t 24) (.seq (.out [4] (.aa [] [w 4 (.ab (.c .bool false))])) .ret) .skip)))))) (.out [0,1,12,13] (.aa [0,1,12,13] [w 25 (.bin .add 13 (.c U2 1)),m 13 25])))))
def EG:AC:=.out [4] (.loop [0,1,12,13] EF)
def MZ:AC:=.out [4] (.block 0 EG)
def M0:AC:=(.seq MY MZ)
def M1:AC:=(.seq (.out [4] (.aa [] [w 4 (.ab (.c .bool true))])) .ret)
def Ad:AC:=(.seq M0 M1)
def Ae:AC:=(.seq (.out [0,1] (.aa [0,1] [w 4 (.ab (.c .bool false))])) (.seq (.seq (.out [0,1,10] (.aa [0,1] [m 6 0,w 7 (.a8 6),m 8 1,w 9 (.a8 8),w 10 (.bin .neq 7 9)])) (.out [0,1,4] (.cond (.t 10) (.seq (.out [4] (.aa [] [w 4 (.ab (.c .bool false))])) .ret) .skip))) Ad))
def EE:AC:=Ae
def d125:FD:={nargs:=2,body:=EE,res:=[.t 4]}
def MX:AC:=(.seq (.out [1,2] (.aa [0,1] [w 2 (.box aH 0),w 3 (.ab (.c .bool false))])) (.seq (.out [3] (.aa [1,2] [w 4 (.fieldAddr aH [.l] 2),w 5 (.load .str 4),w 6 (.fieldAddr aH [.l] 1),w 7 (.load .str 6),w 8 (.bin .eql 5 7),m 9 8,⟨some 10,.fieldAddr aH [.r,.r,.r,.l] 2,some (9,true)⟩,⟨some 11,.load U2 10,some (9,true)⟩,⟨some 12,.fieldAddr aH [.r,.r,.r,.l] 1,some (9,true)⟩,⟨some 13,.load U2 12,some (9,true)⟩,⟨some 14,.bin .eql 11 13,some (9,true)⟩,w 15 (.pick 9 14 (.c .bool false)),m 16 15,⟨some 17,.fieldAddr aH [.r,.l] 2,some (16,true)⟩,⟨some 18,.load bp 17,some (16,true)⟩,⟨some 19,.fieldAddr aH [.r,.l] 1,some (16,true)⟩,⟨some 20,.load bp 19,some (16,true)⟩,⟨some 21,.call 125 [18,20],some (16,true)⟩,w 22 (.pick 16 21 (.c .bool false)),w 3 (.ab 22)])) .ret))
def ED:AC:=MX
def d124:FD:={nargs:=2,body:=ED,res:=[.t 3]}
def Nx:AC:=.out [0,1] (.aa [0,1] [w 4 (.ab (.c U2 0))])
def Ny:AC:=.out [0,1,7,8] (.aa [0,1] [m 6 0,w 7 (.a8 6),w 8 (.mv (.c U2 0))])
def E9:AC:=(.seq (.out [0,1,7,8,9] (.aa [0,1,7,8] [w 9 (.bin .lss 8 7)])) (.seq (.out [0,1,7,8] (.cond (.t 9) .skip (.exit 0))) (.seq (.out [0,1,4,7,8] (.block 1 (.seq (.out [0,1,5,7,8] (.aa [0,1,7,8] [m 10 8,w 5 (.ab 10)])) (.seq (.out [0,1,5,7,8,16] (.aa [0,1,5,7,8] [m 11 1,m 12 0,m 13 5,w 14 (.indexAddr aH 12 13),w 15 (.load aH 14),w 16 (.ns 11 [15])])) (.out [0,1,4,7,8] (.cond (.t 16) (.seq (.out [4] (.aa [5] [m 17 5,w 4 (.ab 17)])) .ret) .skip)))))) (.out [0,1,7,8] (.aa [0,1,7,8] [w 18 (.bin .add 8 (.c U2 1)),m 8 18])))))
def Fa:AC:=.out [4] (.loop [0,1,7,8] E9)
def Nz:AC:=.out [4] (.block 0 Fa)
def NA:AC:=(.seq Ny Nz)
def NB:AC:=(.seq (.out [4] (.aa [] [w 4 (.ab (.c U2 (-1)))])) .ret)
def NC:AC:=(.seq NA NB)
def Fb:AC:=(.seq Nx NC)
def E8:AC:=Fb
def d144:FD:={nargs:=2,body:=E8,res:=[.t 4]}
def MW:AC:=(.seq (.out [0,1] (.aa [0,1] [w 4 (.ab (.c .bool false))])) (.seq (.out [4] (.aa [0,1] [m 5 0,m 6 1,w 7 (.call 144 [5,6]),w 8 (.bin .geq 7 (.c U2 0)),w 4 (.ab 8)])) .ret))
def EC:AC:=MW
def d123:FD:={nargs:=2,body:=EC,res:=[.t 4]}
def QF:AC:=.out [1,24,25,26] (.aa [1] [w 23 (.fieldAddr ar [.r,.l] 1),w 24 (.load c8 23),w 25 (.a8 24),w 26 (.mv (.c U2 0))])
def HB:AC:=(.seq (.out [1,24,25,26,27] (.aa [1,24,25,26] [w 27 (.bin .lss 26 25)])) (.seq (.out [1,24,25,26] (.cond (.t 27) .skip (.exit 1))) (.seq (.out [1,2,3,24,25,26] (.block 2 (.seq (.out [1,4,5,24,25,26] (.aa [1,24,25,26] [m 28 26,w 29 (.indexAddr aH 24 26),w 30 (.load aH 29),w 5 (.alloc aH (.pair .no (.pair (.own true 40 .no) (.pair .no (.pair .no .no))))),w 4 (.ab 28),⟨none,.store aH 5 30,none⟩])) (.seq (.seq (.out [1,4,5,6,24,25,26] (.aa [1,4,5,24,25,26] [w 31 (.load aH 5),w 32 (.call 122 [31]),w 6 (.ab 32)])) (.seq (.out [1,4,5,6,24,25,26,34] (.aa [1,4,5,6,24,25,26] [m 33 6,w 34 (.bin .neq 33 (.c U2 0))])) (.out [1,2,3,4,5,24,25,26] (.cond (.t 34) (.seq (.out [2,3] (.aa [4,6] [m 35 4,m 36 6,w 2 (.ab 35),w 3 (.ab 36)])) .ret) .skip)))) (.seq (.out [1,4,7,24,25,26] (.aa [1,4,5,24,25,26] [w 37 (.fieldAddr ar [.r,.l] 1),w 38 (.load c8 37),m 39 4,w 40 (.mn aH 38 none (some 39) none),w 41 (.qw 124 L3 .bool [5]),w 42 (.call 123 [40,41]),w 7 (.ab 42)])) (.seq (.out [1,4,24,25,26,43] (.aa [1,4,7,24,25,26] [m 43 7])) (.out [1,2,3,24,25,26] (.cond (.t 43) (.seq (.out [2,3] (.aa [4] [m 44 4,w 2 (.ab 44),w 3 (.ab (.c U2 5))])) .ret) .skip)))))))) (.out [1,24,25,26] (.aa [1,24,25,26] [w 45 (.bin .add 26 (.c U2 1)),m 26 45])))))
def HC:AC:=.out [2,3] (.loop [1,24,25,26] HB)
def QG:AC:=.out [2,3] (.block 1 HC)
def QH:AC:=(.seq QF QG)
def QI:AC:=(.seq (.out [2,3] (.aa [] [w 2 (.ab (.c U2 (-1))),w 3 (.ab (.c U2 0))])) .ret)
def Bt:AC:=(.seq QH QI)
def Bu:AC:=(.seq (.out [1] (.aa [0] [w 1 (.box ar 0),w 2 (.ab (.c U2 0)),w 3 (.ab (.c U2 0))])) (.seq (.out [1,2,3] (.block 0 (.seq (.out [1,8] (.aa [1] [w 9 (.fieldAddr ar [.l] 1),w 10 (.load .str 9),w 11 (.call 121 [10]),w 12 (.un .not 11),w 8 (.ab 12)])) (.out [1,2,3] (.cond (.t 8) (.seq (.out [2,3] (.aa [] [w 2 (.ab (.c U2 (-1))),w 3 (.ab (.c U2 2))])) .ret) (.seq (.out [1,13] (.aa [1] [w 14 (.fieldAddr ar [.r,.l] 1),w 15 (.load c8 14),w 16 (.a8 15),w 17 (.bin .eql 16 (.c U2 0)),w 13 (.ab 17)])) (.out [1,2,3] (.cond (.t 13) (.seq (.out [2,3] (.aa [] [w 2 (.ab (.c U2 (-1))),w 3 (.ab (.c U2 7))])) .ret) (.seq (.out [1,18] (.aa [1] [w 19 (.fieldAddr ar [.r,.l] 1),w 20 (.load c8 19),w 21 (.a8 20),w 22 (.bin .gtr 21 (.c U2 120)),w 18 (.ab 22)])) (.out [1,2,3] (.cond (.t 18) (.seq (.out [2,3] (.aa [] [w 2 (.ab (.c U2 (-1))),w 3 (.ab (.c U2 3))])) .ret) .skip))))))))))) Bt))
def HA:AC:=Bu
def d95:FD:={nargs:=1,body:=HA,res:=[.t 2,.t 3]}
def PX:AC:=(.seq (.out [1] (.aa [0] [w 1 (.box ar 0),w 2 (.ab (.c U2 0))])) (.seq (.out [4] (.aa [1] [w 6 (.load ar 1),w 7 (.call 95 [6]),m 5 7,w 8 (.extract 5 0),w 9 (.extract 5 1),w 3 (.ab 8),w 4 (.ab 9)])) (.seq (.out [2] (.aa [4] [m 10 4,w 2 (.ab 10)])) .ret)))
def GY:AC:=PX
def d70:FD:={nargs:=1,body:=GY,res:=[.t 2]}
def QK:AC:=(.seq (.out [0] (.aa [0] [w 2 (.ab (.c .bool false))])) (.seq (.out [2] (.aa [0] [m 3 0,w 4 (.call 98 [3]),w 5 (.un .not 4),w 2 (.ab 5)])) .ret))
def HE:AC:=QK
def d97:FD:={nargs:=1,body:=HE,res:=[.t 2]}
def M3:AC:=.out [0,1] (.aa [0,1] [w 4 (.ab (.c U2 0))])
def M4:AC:=.out [0,1,7,8] (.aa [0,1] [m 6 0,w 7 (.a8 6),w 8 (.mv (.c U2 0))])
def EI:AC:=(.seq (.out [0,1,7,8,9] (.aa [0,1,7,8] [w 9 (.bin .lss 8 7)])) (.seq (.out [0,1,7,8] (.cond (.t 9) .skip (.exit 0))) (.seq (.out [0,1,4,7,8] (.block 1 (.seq (.out [0,1,5,7,8] (.aa [0,1,7,8] [m 10 8,w 5 (.ab 10)])) (.seq (.out [0,1,5,7,8,16] (.aa [0,1,5,7,8] [m 11 1,m 12 0,m 13 5,w 14 (.indexAddr U0 12 13),w 15 (.load U0 14),w 16 (.ns 11 [15])])) (.out [0,1,4,7,8] (.cond (.t 16) (.seq (.out [4] (.aa [5] [m 17 5,w 4 (.ab 17)])) .ret) .skip)))))) (.out [0,1,7,8] (.aa [0,1,7,8] [w 18 (.bin .add 8 (.c U2 1)),m 8 18])))))
def EJ:AC:=.out [4] (.loop [0,1,7,8] EI)
def M5:AC:=.out [4] (.block 0 EJ)
def M6:AC:=(.seq M4 M5)
def M7:AC:=(.seq (.out [4] (.aa [] [w 4 (.ab (.c U2 (-1)))])) .ret)
def M8:AC:=(.seq M6 M7)
def EK:AC:=(.seq M3 M8)
def EH:AC:=EK
def d126:FD:={nargs:=2,body:=EH,res:=[.t 4]}
def QJ:AC:=(.seq (.out [0,1] (.aa [0,1] [w 4 (.ab (.c .bool false))])) (.seq (.out [4] (.aa [0,1] [m 5 0,m 6 1,w 7 (.call 126 [5,6]),w 8 (.bin .geq 7 (.c U2 0)),w 4 (.ab 8)])) .ret))
def HD:AC:=QJ
def d96:FD:={nargs:=2,body:=HD,res:=[.t 4]}
def QM:AC:=.out [0,1,5,39,40,41] (.aa [0,1,5] [m 39 0,w 40 (.a8 39),w 41 (.mv (.c U2 0))])
def HH:AC:=(.seq (.out [0,1,5,39,40,41,42] (.aa [0,1,5,39,40,41] [w 42 (.bin .lss 41 40)])) (.seq (.out [0,1,5,39,40,41] (.cond (.t 42) .skip (.exit 1))) (.seq (.out [0,1,5,39,40,41] (.block 2 (.seq (.out [0,1,5,7,39,40,41] (.aa [0,1,5,39,40,41] [w 43 (.indexAddr .str 39 41),w 44 (.load .str 43),w 7 (.ab 44)])) (.seq (.seq (.out [0,1,5,7,39,40,41,49] (.aa [0,1,5,7,39,40,41] [m 45 7,w 46 (.bz 45),m 47 5,w 48 (.bin .sub (.c U2 9223372036854775807) 47),w 49 (.bin .gtr 46 48)])) (.out [0,1,5,7,39,40,41] (.cond (.t 49) (.out [] (.aa [0,1,5,7,39,40,41] [w 50 (.bad),⟨none,.bad,none⟩])) .skip))) (.out [0,1,5,39,40,41] (.aa [0,1,5,7,39,40,41] [m 51 5,m 52 7,w 53 (.bz 52),w 54 (.bin .add 51 53),w 5 (.ab 54)])))))) (.out [0,1,5,39,40,41] (.aa [0,1,5,39,40,41] [w 55 (.bin .add 41 (.c U2 1)),m 41 55])))))
def HI:AC:=.out [0,1,5] (.loop [0,1,5,39,40,41] HH)
def QO:AC:=.out [0,1,5] (.block 1 HI)
def QP:AC:=(.seq QM QO)
def QN:AC:=(.seq (.seq (.out [] (.aa [] [m 62 0,w 63 (.mn .str 62 (some (.c U2 1)) none none),w 64 (.a8 63),w 65 (.mv (.c U2 0))])) (.out [] (.block 3 (.out [] (.loop [] (.seq (.out [] (.aa [] [w 66 (.bin .lss 65 64)])) (.seq (.out [] (.cond (.t 66) .skip (.exit 3))) (.seq (.out [] (.block 4 (.seq (.out [] (.aa [] [w 67 (.indexAddr .str 63 65),w 68 (.load .str 67),w 10 (.ab 68)])) (.seq (.out [] (.aa [] [m 69 1,w 70 (.iA 84 8 69)])) (.out [] (.aa [] [m 71 10,w 72 (.iA 84 8 71)])))))) (.out [] (.aa [] [w 73 (.bin .add 65 (.c U2 1)),m 65 73])))))))))) (.seq (.out [] (.aa [] [w 74 (.jC 85 8),w 4 (.ab 74)])) .ret))
def HJ:AC:=(.seq (.out [0,1,5,8] (.aa [0,1,5] [w 8 (.yM 123 5)])) (.seq (.out [] (.aa [0,1,5,8] [m 56 5,w 57 (.kG 128 8 [56])])) (.seq (.out [] (.aa [] [m 58 0,w 59 (.indexAddr .str 58 (.c U2 0)),w 60 (.load .str 59),w 61 (.iA 84 8 60)])) QN)))
def Bv:AC:=(.seq QP HJ)
def Bw:AC:=(.seq (.out [0,1] (.aa [0,1] [w 4 (.ab (.c .str []))])) (.seq (.seq (.out [0,1,12] (.aa [0,1] [m 11 0,w 12 (.a8 11)])) (.out [0,1,4] (.block 0 (.seq (.out [0,1,12,13] (.aa [0,1,12] [w 14 (.bin .eql 12 (.c U2 0)),w 13 (.ab 14)])) (.out [0,1,4] (.cond (.t 13) (.seq (.out [4] (.aa [] [w 4 (.ab (.c .str []))])) .ret) (.seq (.out [0,1,15] (.aa [0,1,12] [w 16 (.bin .eql 12 (.c U2 1)),w 15 (.ab 16)])) (.out [0,1,4] (.cond (.t 15) (.seq (.out [4] (.aa [0] [m 17 0,w 18 (.indexAddr .str 17 (.c U2 0)),w 19 (.load .str 18),w 4 (.ab 19)])) .ret) .skip))))))))) (.seq (.out [0,1,5] (.aa [0,1] [w 5 (.ab (.c U2 0))])) (.seq (.seq (.out [0,1,5,22] (.aa [0,1,5] [m 20 1,w 21 (.bz 20),w 22 (.bin .gtr 21 (.c U2 0))])) (.out [0,1,5] (.cond (.t 22) (.seq (.seq (.out [0,1,5,29] (.aa [0,1,5] [m 23 1,w 24 (.bz 23),m 25 0,w 26 (.a8 25),w 27 (.bin .sub 26 (.c U2 1)),w 28 (.bin .quo (.c U2 9223372036854775807) 27),w 29 (.bin .geq 24 28)])) (.out [0,1,5] (.cond (.t 29) (.out [] (.aa [0,1,5] [w 30 (.bad),⟨none,.bad,none⟩])) .skip))) (.out [0,1,5] (.aa [0,1,5] [m 31 5,m 32 1,w 33 (.bz 32),m 34 0,w 35 (.a8 34),w 36 (.bin .sub 35 (.c U2 1)),w 37 (.bin .mul 33 36),w 38 (.bin .add 31 37),w 5 (.ab 38)]))) .skip))) Bv))))
def HG:AC:=Bw
def d99:FD:={nargs:=2,body:=HG,res:=[.t 4]}
def PY:AC:=.out [0] (.aa [0] [w 2 (.ab (.c .str [])),w 3 (.ab (.c U2 0))])
def PZ:AC:=.out [0,7,8,9] (.aa [0] [m 7 0,w 8 (.a8 7),w 9 (.mv (.c U2 0))])
def G3:AC:=(.seq (.out [0,7,8,9,10] (.aa [0,7,8,9] [w 10 (.bin .lss 9 8)])) (.seq (.out [0,7,8,9] (.cond (.t 10) .skip (.exit 0))) (.seq (.out [0,2,3,7,8,9] (.block 1 (.seq (.out [0,5,7,8,9] (.aa [0,7,8,9] [w 11 (.indexAddr .str 7 9),w 12 (.load .str 11),w 5 (.ab 12)])) (.seq (.seq (.out [0,5,7,8,9,14] (.aa [0,5,7,8,9] [m 13 5,w 14 (.bin .eql 13 (.c .str []))])) (.out [0,2,3,5,7,8,9] (.cond (.t 14) (.seq (.out [2,3] (.aa [] [w 2 (.ab (.c .str [])),w 3 (.ab (.c U2 7))])) .ret) .skip))) (.seq (.out [0,7,8,9,17] (.aa [0,5,7,8,9] [m 15 5,w 16 (.qJ 15),w 17 (.call 96 [16,(.fn 97 U8 .bool)])])) (.out [0,2,3,7,8,9] (.cond (.t 17) (.seq (.out [2,3] (.aa [] [w 2 (.ab (.c .str [])),w 3 (.ab (.c U2 2))])) .ret) .skip))))))) (.out [0,7,8,9] (.aa [0,7,8,9] [w 18 (.bin .add 9 (.c U2 1)),m 9 18])))))
def G4:AC:=.out [0,2,3] (.loop [0,7,8,9] G3)
def P0:AC:=.out [0,2,3] (.block 0 G4)
def P1:AC:=(.seq PZ P0)
def P2:AC:=(.seq (.out [6] (.aa [0] [m 19 0,w 20 (.call 99 [19,(.c .str [32])]),w 6 (.ab 20)])) (.seq (.seq (.out [6,23] (.aa [6] [m 21 6,w 22 (.bz 21),w 23 (.bin .gtr 22 (.c U2 120))])) (.out [2,3,6] (.cond (.t 23) (.seq (.out [2,3] (.aa [] [w 2 (.ab (.c .str [])),w 3 (.ab (.c U2 3))])) .ret) .skip))) (.seq (.out [2,3] (.aa [6] [m 24 6,w 2 (.ab 24),w 3 (.ab (.c U2 0))])) .ret)))
def P3:AC:=(.seq P1 P2)
def G5:AC:=(.seq PY P3)
def GZ:AC:=G5
def d71:FD:={nargs:=1,body:=GZ,res:=[.t 2,.t 3]}
def OR:AC:=(.seq (.out [1,2] (.aa [0,1] [w 2 (.box ar 0),w 4 (.ab (.c U2 0))])) (.seq (.seq (.out [1,5] (.aa [1,2] [w 8 (.load ar 2),w 9 (.call 70 [8]),w 5 (.ab 9)])) (.seq (.out [1,5,11] (.aa [1,5] [m 10 5,w 11 (.bin .neq 10 (.c U2 0))])) (.out [1,4] (.cond (.t 11) (.seq (.out [4] (.aa [5] [m 12 5,w 4 (.ab 12)])) .ret) .skip)))) (.seq (.out [1,4] (.block 0 (.seq (.out [1,13] (.aa [1] [m 14 1,w 15 (.bin .eql 14 (.c .str [])),w 13 (.ab 15)])) (.out [1,4] (.cond (.t 13) (.seq (.out [4] (.aa [] [w 4 (.ab (.c U2 7))])) .ret) (.seq (.out [1,16] (.aa [1] [m 17 1,w 18 (.bz 17),w 19 (.bin .gtr 18 (.c U2 16)),w 16 (.ab 19)])) (.out [1,4] (.cond (.t 16) (.seq (.out [4] (.aa [] [w 4 (.ab (.c U2 3))])) .ret) .skip)))))))) (.seq (.seq (.out [1,7] (.aa [1] [m 21 1,w 22 (.buildSlice 9 .str [21]),w 23 (.call 71 [22]),m 20 23,w 24 (.extract 20 0),w 25 (.extract 20 1),w 6 (.ab 24),w 7 (.ab 25)])) (.seq (.out [33] (.aa [1,7] [m 26 7,w 27 (.bin .neq 26 (.c U2 0)),m 28 27,⟨some 29,.mv 1,some (28,false)⟩,⟨some 30,.call 72 [29],some (28,false)⟩,⟨some 31,.mv 1,some (28,false)⟩,⟨some 32,.bin .neq 30 31,some (28,false)⟩,w 33 (.pick 28 (.c .bool true) 32)])) (.out [4] (.cond (.t 33) (.seq (.out [4] (.aa [] [w 4 (.ab (.c U2 2))])) .ret) .skip)))) (.seq (.out [4] (.aa [] [w 4 (.ab (.c U2 0))])) .ret)))))
def Ga:AC:=OR
def d40:FD:={nargs:=2,body:=Ga,res:=[.t 4]}
def P8:AC:=(.seq (.out [0,1] (.aa [0,1] [w 4 (.ab (.nil 40 aC))])) (.seq (.seq (.out [0,1,6] (.aa [0,1] [m 5 1,w 6 (.bin .lss 5 (.c U2 0))])) (.out [0,1,4] (.cond (.t 6) (.seq (.out [4] (.aa [] [w 4 (.ab (.nil 40 aC))])) .ret) .skip))) (.seq (.out [4] (.aa [0,1] [m 7 0,w 8 (.jy 7),w 9 (.fieldAddr bF [.l] 8),w 10 (.fieldAddr ar [.r,.l] 9),w 11 (.load c8 10),m 12 1,w 13 (.indexAddr aH 11 12),w 14 (.fieldAddr aH [.r,.l] 13),w 15 (.load bp 14),w 4 (.ab 15)])) .ret)))
def G9:AC:=P8
def d73:FD:={nargs:=2,body:=G9,res:=[.p 4]}
def Qk:AC:=(.seq (.out [1] (.aa [0] [w 1 (.box aC 0),w 2 (.ab (.c .bool false))])) (.seq (.out [2] (.aa [1] [w 3 (.fieldAddr aC [.l] 1),w 4 (.load U2 3),w 5 (.bin .eql 4 (.c U2 1)),m 6 5,⟨some 7,.fieldAddr aC [.l] 1,some (6,false)⟩,⟨some 8,.load U2 7,some (6,false)⟩,⟨some 9,.bin .eql 8 (.c U2 2),some (6,false)⟩,w 10 (.pick 6 (.c .bool true) 9),w 2 (.ab 10)])) .ret))
def Hj:AC:=Qk
def d87:FD:={nargs:=1,body:=Hj,res:=[.t 2]}
def Pv:AC:=.out [1,2,3,4] (.aa [0,1,2,3] [w 4 (.box ar 0),w 8 (.ab (.c .bool false))])
def Pw:AC:=(.seq (.out [1,2,3,4,18] (.aa [1,2,3,4] [m 10 1,w 11 (.bin .lss 10 (.c U2 0)),m 12 11,⟨some 13,.mv 1,some (12,false)⟩,⟨some 14,.fieldAddr ar [.r,.l] 4,some (12,false)⟩,⟨some 15,.load c8 14,some (12,false)⟩,⟨some 16,.a8 15,some (12,false)⟩,⟨some 17,.bin .geq 13 16,some (12,false)⟩,w 18 (.pick 12 (.c .bool true) 17)])) (.out [1,2,3,4,8] (.cond (.t 18) (.seq (.out [8] (.aa [] [w 8 (.ab (.c .bool false))])) .ret) .skip)))
def Px:AC:=.out [1,2,4,9] (.aa [1,2,3,4] [m 19 3,w 20 (.a8 19),w 21 (.bin .gtr 20 (.c U2 0)),m 22 21,⟨some 23,.mv 3,some (22,true)⟩,⟨some 24,.indexAddr aC 23 (.c U2 0),some (22,true)⟩,⟨some 25,.load aC 24,some (22,true)⟩,⟨some 26,.call 87 [25],some (22,true)⟩,w 27 (.pick 22 26 (.c .bool false)),w 9 (.ab 27)])
def Py:AC:=(.seq (.seq (.out [2,9,33] (.aa [1,2,4,9] [w 28 (.fieldAddr ar [.r,.l] 4),w 29 (.load c8 28),m 30 1,w 31 (.indexAddr aH 29 30),w 32 (.fieldAddr aH [.r,.r,.r,.l] 31),w 33 (.load U2 32)])) (.out [8] (.block 0 (.seq (.out [2,9,33,34] (.aa [2,9,33] [w 35 (.bin .eql 33 (.c U2 0)),w 34 (.ab 35)])) (.out [8] (.cond (.t 34) (.seq (.out [8] (.aa [] [w 8 (.ab (.c .bool true))])) .ret) (.seq (.out [2,9,33,36] (.aa [2,9,33] [w 37 (.bin .eql 33 (.c U2 1)),w 36 (.ab 37)])) (.out [8] (.cond (.t 36) (.seq (.out [8] (.aa [9] [m 38 9,w 8 (.ab 38)])) .ret) (.seq (.out [2,9,33,39] (.aa [2,9,33] [w 40 (.bin .eql 33 (.c U2 2)),w 39 (.ab 40)])) (.out [8] (.cond (.t 39) (.seq (.out [8] (.aa [2,9] [m 41 9,m 42 41,⟨some 43,.mv 2,some (42,true)⟩,⟨some 44,.a8 43,some (42,true)⟩,⟨some 45,.bin .eql 44 (.c U2 0),some (42,true)⟩,w 46 (.pick 42 45 (.c .bool false)),w 8 (.ab 46)])) .ret) (.seq (.out [2,9,33,47] (.aa [2,9,33] [w 48 (.bin .eql 33 (.c U2 3)),w 47 (.ab 48)])) (.out [8] (.cond (.t 47) (.seq (.out [8] (.aa [2,9] [m 49 9,m 50 49,⟨some 51,.mv 2,some (50,true)⟩,⟨some 52,.a8 51,some (50,true)⟩,⟨some 53,.bin .gtr 52 (.c U2 0),some (50,true)⟩,w 54 (.pick 50 53 (.c .bool false)),m 55 54,⟨some 56,.mv 2,some (55,true)⟩,⟨some 57,.mv 2,some (55,true)⟩,⟨some 58,.a8 57,some (55,true)⟩,⟨some 59,.bin .sub 58 (.c U2 1),some (55,true)⟩,⟨some 60,.indexAddr aC 56 59,some (55,true)⟩,⟨some 61,.load aC 60,some (55,true)⟩,⟨some 62,.call 87 [61],some (55,true)⟩,w 63 (.pick 55 62 (.c .bool false)),w 8 (.ab 63)])) .ret) (.seq (.out [9,64] (.aa [9,33] [w 65 (.bin .eql 33 (.c U2 4)),w 64 (.ab 65)])) (.out [8] (.cond (.t 64) (.seq (.out [8] (.aa [9] [m 66 9,w 67 (.un .not 66),w 8 (.ab 67)])) .ret) .skip)))))))))))))))))) (.seq (.out [8] (.aa [] [w 8 (.ab (.c .bool false))])) .ret))
def Pz:AC:=(.seq Px Py)
def PA:AC:=(.seq Pw Pz)
def GM:AC:=(.seq Pv PA)
def GL:AC:=GM
def d60:FD:={nargs:=4,body:=GL,res:=[.t 8]}
def Qi:AC:=(.seq (.out [0,1] (.aa [0,1] [w 4 (.ab (.c .bool false))])) (.seq (.out [4] (.aa [0,1] [m 5 0,w 6 (.bz 5),m 7 1,w 8 (.bz 7),w 9 (.bin .geq 6 8),m 10 9,⟨some 11,.mv 0,some (10,true)⟩,⟨some 12,.mv 1,some (10,true)⟩,⟨some 13,.bz 12,some (10,true)⟩,⟨some 14,.iY 11 none (some 13),some (10,true)⟩,⟨some 15,.mv 1,some (10,true)⟩,⟨some 16,.bin .eql 14 15,some (10,true)⟩,w 17 (.pick 10 16 (.c .bool false)),w 4 (.ab 17)])) .ret))
def Hh:AC:=Qi
def d83:FD:={nargs:=2,body:=Hh,res:=[.t 4]}
def Pn:AC:=(.seq (.out [0,1] (.aa [0,1] [w 4 (.ab (.c .bool false))])) (.seq (.out [4] (.aa [0,1] [m 5 0,m 6 1,w 7 (.call 83 [5,6]),w 4 (.ab 7)])) .ret))
def GF:AC:=Pn
def d54:FD:={nargs:=2,body:=GF,res:=[.t 4]}
def P9:AC:=.out [0,3,5,12,13,14] (.aa [0,3,5] [m 8 0,w 9 (.jy 8),w 10 (.fieldAddr bF [.l] 9),w 11 (.fieldAddr ar [.r,.l] 10),w 12 (.load c8 11),w 13 (.a8 12),w 14 (.mv (.c U2 0))])
def Hb:AC:=(.seq (.out [0,3,5,12,13,14,15] (.aa [0,3,5,12,13,14] [w 15 (.bin .lss 14 13)])) (.seq (.out [0,3,5,12,13,14] (.cond (.t 15) .skip (.exit 0))) (.seq (.out [0,3,5,12,13,14] (.block 1 (.seq (.out [0,3,5,6,7,12,13,14] (.aa [0,3,5,12,13,14] [m 16 14,w 17 (.indexAddr aH 12 14),w 18 (.load aH 17),w 7 (.alloc aH (.pair .no (.pair (.own true 40 .no) (.pair .no (.pair .no .no))))),w 6 (.ab 16),⟨none,.store aH 7 18,none⟩])) (.seq (.out [0,3,5,6,7,12,13,14,48] (.draw [0,3,5,6,7,12,13,14] [⟨m 19 0,[23,24,26,27],[19],[],false,[]⟩,⟨w 20 (.jy 19),[23,24,26,27],[20],[0],false,[]⟩,⟨w 21 (.fieldAddr bF [.r,.l] 20),[23,24,26,27],[21],[0,1],false,[]⟩,⟨w 22 (.load .str 21),[23,24,26,27],[22],[0,1,2],false,[]⟩,⟨w 23 (.fieldAddr aY [.r,.r,.l] 3),[19,20,21,22,26,27],[23],[],false,[]⟩,⟨w 24 (.load U2 23),[19,20,21,22,26,27],[24],[4],false,[]⟩,⟨w 25 (.iY 22 (some 24) none),[26,27],[25],[0,1,2,3,4,5],false,[]⟩,⟨w 26 (.fieldAddr aH [.l] 7),[19,20,21,22,23,24,25],[26],[],false,[]⟩,⟨w 27 (.load .str 26),[19,20,21,22,23,24,25],[27],[7],false,[]⟩,⟨w 28 (.call 54 [25,27]),[],[28],[0,1,2,3,4,5,6,7,8],false,[]⟩,⟨m 29 28,[],[29],[0,1,2,3,4,5,6,7,8,9],false,[]⟩,⟨⟨some 30,.fieldAddr aY [.r,.l] 3,some (29,true)⟩,[],[30],[0,1,2,3,4,5,6,7,8,9,10],false,[]⟩,⟨⟨some 31,.load U2 30,some (29,true)⟩,[],[31],[0,1,2,3,4,5,6,7,8,9,10,11],false,[]⟩,⟨⟨some 32,.bin .lss 31 (.c U2 0),some (29,true)⟩,[],[32],[0,1,2,3,4,5,6,7,8,9,10,11,12],false,[]⟩,⟨⟨some 33,.mv 32,some (29,true)⟩,[],[33],[0,1,2,3,4,5,6,7,8,9,10,11,12,13],false,[]⟩,⟨⟨some 34,.mv 0,some (33,false)⟩,[38,39,40,41,42,43,44,45],[34],[0,1,2,3,4,5,6,7,8,9,10,11,12,13,14],false,[]⟩,⟨⟨some 35,.jy 34,some (33,false)⟩,[38,39,40,41,42,43,44,45],[35],[0,1,2,3,4,5,6,7,8,9,10,11,12,13,14,15],false,[]⟩,⟨⟨some 36,.fieldAddr bF [.l] 35,some (33,false)⟩,[38,39,40,41,42,43,44,45],[36],[0,1,2,3,4,5,6,7,8,9,10,11,12,13,14,15,16],false,[]⟩,⟨⟨some 37,.load ar 36,some (33,false)⟩,[38,39,40,41,42,43,44,45],[37],[0,1,2,3,4,5,6,7,8,9,10,11,12,13,14,15,16,17],false,[]⟩,⟨⟨some 38,.fieldAddr aY [.r,.l] 3,some (33,false)⟩,[34,35,36,37,40,41,42,43,44,45],[38],[0,1,2,3,4,5,6,7,8,9,10,11,12,13,14],false,[]⟩,⟨⟨some 39,.load U2 38,some (33,false)⟩,[34,35,36,37,40,41,42,43,44,45],[39],[0,1,2,3,4,5,6,7,8,9,10,11,12,13,14,19],false,[]⟩,⟨⟨some 40,.mv 0,some (33,false)⟩,[34,35,36,37,38,39,41,42,44,45],[40],[0,1,2,3,4,5,6,7,8,9,10,11,12,13,14],false,[]⟩,⟨⟨some 41,.fieldAddr aY [.l] 3,some (33,false)⟩,[34,35,36,37,38,39,40,44,45],[41],[0,1,2,3,4,5,6,7,8,9,10,11,12,13,14],false,[]⟩,⟨⟨some 42,.load U2 41,some (33,false)⟩,[34,35,36,37,38,39,40,44,45],[42],[0,1,2,3,4,5,6,7,8,9,10,11,12,13,14,22],false,[]⟩,⟨⟨some 43,.call 73 [40,42],some (33,false)⟩,[34,35,36,37,38,39,44,45],[43],[0,1,2,3,4,5,6,7,8,9,10,11,12,13,14,21,22,23],false,[]⟩,⟨⟨some 44,.fieldAddr aH [.r,.l] 7,some (33,false)⟩,[34,35,36,37,38,39,40,41,42,43],[44],[0,1,2,3,4,5,6,7,8,9,10,11,12,13,14],false,[]⟩,⟨⟨some 45,.load bp 44,some (33,false)⟩,[34,35,36,37,38,39,40,41,42,43],[45],[0,1,2,3,4,5,6,7,8,9,10,11,12,13,14,25],false,[]⟩,⟨⟨some 46,.call 60 [37,39,43,45],some (33,false)⟩,[],[46],[0,1,2,3,4,5,6,7,8,9,10,11,12,13,14,15,16,17,18,19,20,21,22,23,24,25,26],false,[]⟩,⟨⟨some 47,.pick 33 (.c .bool true) 46,some (29,true)⟩,[],[47],[0,1,2,3,4,5,6,7,8,9,10,11,12,13,14,15,16,17,18,19,20,21,22,23,24,25,26,27],false,[]⟩,⟨w 48 (.pick 29 47 (.c .bool false)),[],[48],[0,1,2,3,4,5,6,7,8,9,10,11,12,13,14,15,16,17,18,19,20,21,22,23,24,25,26,27,28],false,[]⟩])) (.out [0,3,5,12,13,14] (.cond (.t 48) (.out [0,3,5,12,13,14] (.aa [0,3,5,6,7,12,13,14] [m 49 5,w 50 (.fieldAddr aY [.r,.l] 3),w 51 (.load U2 50),m 52 6,w 53 (.fieldAddr aY [.r,.r,.l] 3),w 54 (.load U2 53),w 55 (.fieldAddr aH [.l] 7),w 56 (.load .str 55),w 57 (.bz 56),w 58 (.bin .add 54 57),w 59 (.build aY [([.l],51),([.r,.l],52),([.r,.r,.l],58)]),w 60 (.buildSlice 73 aY [59]),w 61 (.append 73 aY 5864062014805 49 60),w 5 (.ab 61)])) .skip)))))) (.out [0,3,5,12,13,14] (.aa [0,3,5,12,13,14] [w 62 (.bin .add 14 (.c U2 1)),m 14 62])))))
def Hc:AC:=.out [5] (.loop [0,3,5,12,13,14] Hb)
def Qa:AC:=.out [5] (.block 0 Hc)
def Qb:AC:=(.seq P9 Qa)
def Qc:AC:=(.seq (.out [4,5] (.aa [5] [m 63 5,w 4 (.ab 63)])) .ret)
def Bg:AC:=(.seq Qb Qc)
def Bh:AC:=(.seq (.out [0,3] (.aa [0,1] [w 3 (.box aY 1),w 4 (.ab (.nil 73 aY))])) (.seq (.out [0,3,5] (.aa [0,3] [w 5 (.ab (.nil 73 aY))])) Bg))
def Ha:AC:=Bh
def d74:FD:={nargs:=2,body:=Ha,res:=[.t 4]}
def OS:AC:=.out [0,3,7,47,48,49] (.aa [0,3,7] [m 45 0,w 46 (.load aY 3),w 47 (.call 74 [45,46]),w 48 (.a8 47),w 49 (.mv (.c U2 0))])
def Gc:AC:=(.seq (.out [0,3,7,47,48,49,50] (.aa [0,3,7,47,48,49] [w 50 (.bin .lss 49 48)])) (.seq (.out [0,3,7,47,48,49] (.cond (.t 50) .skip (.exit 0))) (.seq (.out [0,3,7,47,48,49] (.block 1 (.seq (.out [0,3,7,9,47,48,49] (.aa [0,3,7,47,48,49] [w 51 (.indexAddr aY 47 49),w 52 (.load aY 51),w 9 (.alloc aY .no),⟨none,.store aY 9 52,none⟩])) (.out [0,3,7,47,48,49] (.aa [0,3,7,9,47,48,49] [m 53 7,m 54 0,w 55 (.load aY 9),w 56 (.kG 41 54 [55]),w 57 (.bin .add 53 56),w 58 (.mm false 57 (.c U2 201)),w 7 (.ab 58)]))))) (.out [0,3,7,47,48,49] (.aa [0,3,7,47,48,49] [w 59 (.bin .add 49 (.c U2 1)),m 49 59])))))
def Ge:AC:=.out [0,3,7] (.loop [0,3,7,47,48,49] Gc)
def OT:AC:=.out [0,3,7] (.block 0 Ge)
def OU:AC:=(.seq OS OT)
def OV:AC:=(.seq (.out [0,7] (.draw [0,3,7] [⟨m 60 0,[64,65],[60],[],false,[]⟩,⟨w 61 (.jy 60),[64,65],[61],[0],false,[]⟩,⟨w 62 (.fieldAddr bF [.r,.r,.l] 61),[64,65],[62],[0,1],false,[]⟩,⟨w 63 (.load DP 62),[64,65],[63],[0,1,2],false,[]⟩,⟨w 64 (.load aY 3),[60,61,62,63,65],[64],[],false,[]⟩,⟨m 65 7,[60,61,62,63,64],[65],[],false,[]⟩,⟨⟨none,.C6 aY U2 63 64 65,none⟩,[],[0,60,61,62,63],[0,1,2,3,4,5],true,[]⟩])) (.seq (.out [0,4] (.aa [0,7] [m 66 7,w 4 (.ab 66)])) .ret))
def AR:AC:=(.seq OU OV)
def AS:AC:=(.seq (.out [0,3] (.aa [0,1] [w 3 (.box aY 1),w 4 (.ab (.c U2 0))])) (.seq (.seq (.out [0,3,17] (.draw [0,3] [⟨w 10 (.fieldAddr aY [.r,.r,.l] 3),[12,13,14,15,16],[10],[],false,[]⟩,⟨w 11 (.load U2 10),[12,13,14,15,16],[11],[0],false,[]⟩,⟨m 12 0,[10,11],[12],[],false,[]⟩,⟨w 13 (.jy 12),[10,11],[13],[2],false,[]⟩,⟨w 14 (.fieldAddr bF [.r,.l] 13),[10,11],[14],[2,3],false,[]⟩,⟨w 15 (.load .str 14),[10,11],[15],[2,3,4],false,[]⟩,⟨w 16 (.bz 15),[10,11],[16],[2,3,4,5],false,[]⟩,⟨w 17 (.bin .eql 11 16),[],[17],[0,1,2,3,4,5,6],false,[]⟩])) (.out [0,3,4] (.cond (.t 17) (.seq (.seq (.out [0,33] (.draw [0,3] [⟨w 18 (.fieldAddr aY [.r,.l] 3),[],[18],[],false,[]⟩,⟨w 19 (.load U2 18),[],[19],[0],false,[]⟩,⟨w 20 (.bin .geq 19 (.c U2 0)),[],[20],[0,1],false,[]⟩,⟨m 21 20,[],[21],[0,1,2],false,[]⟩,⟨⟨some 22,.mv 0,some (21,true)⟩,[26,27,28,29,30,31],[22],[0,1,2,3],false,[]⟩,⟨⟨some 23,.jy 22,some (21,true)⟩,[26,27,28,29,30,31],[23],[0,1,2,3,4],false,[]⟩,⟨⟨some 24,.fieldAddr bF [.l] 23,some (21,true)⟩,[26,27,28,29,30,31],[24],[0,1,2,3,4,5],false,[]⟩,⟨⟨some 25,.load ar 24,some (21,true)⟩,[26,27,28,29,30,31],[25],[0,1,2,3,4,5,6],false,[]⟩,⟨⟨some 26,.fieldAddr aY [.r,.l] 3,some (21,true)⟩,[22,23,24,25,28,29,30,31],[26],[0,1,2,3],false,[]⟩,⟨⟨some 27,.load U2 26,some (21,true)⟩,[22,23,24,25,28,29,30,31],[27],[0,1,2,3,8],false,[]⟩,⟨⟨some 28,.mv 0,some (21,true)⟩,[22,23,24,25,26,27,29,30],[28],[0,1,2,3],false,[]⟩,⟨⟨some 29,.fieldAddr aY [.l] 3,some (21,true)⟩,[22,23,24,25,26,27,28],[29],[0,1,2,3],false,[]⟩,⟨⟨some 30,.load U2 29,some (21,true)⟩,[22,23,24,25,26,27,28],[30],[0,1,2,3,11],false,[]⟩,⟨⟨some 31,.call 73 [28,30],some (21,true)⟩,[22,23,24,25,26,27],[31],[0,1,2,3,10,11,12],false,[]⟩,⟨⟨some 32,.call 60 [25,27,31,(.nil 40 aC)],some (21,true)⟩,[],[32],[0,1,2,3,4,5,6,7,8,9,10,11,12,13],false,[]⟩,⟨w 33 (.pick 21 32 (.c .bool false)),[],[33],[0,1,2,3,4,5,6,7,8,9,10,11,12,13,14],false,[]⟩])) (.out [0,4] (.cond (.t 33) (.seq (.out [0,4] (.aa [0] [w 4 (.ab (.c U2 1))])) .ret) .skip))) (.seq (.out [0,4] (.aa [0] [w 4 (.ab (.c U2 0))])) .ret)) .skip))) (.seq (.seq (.out [0,3,5,6] (.draw [0,3] [⟨m 35 0,[39],[35],[],false,[]⟩,⟨w 36 (.jy 35),[39],[36],[0],false,[]⟩,⟨w 37 (.fieldAddr bF [.r,.r,.l] 36),[39],[37],[0,1],false,[]⟩,⟨w 38 (.load DP 37),[39],[38],[0,1,2],false,[]⟩,⟨w 39 (.load aY 3),[35,36,37,38],[39],[],false,[]⟩,⟨w 40 (.C4 aY U2 38 39),[],[40],[0,1,2,3,4],true,[]⟩,⟨m 34 40,[],[34],[0,1,2,3,4,5],true,[]⟩,⟨w 41 (.extract 34 0),[42],[41],[0,1,2,3,4,5,6],false,[]⟩,⟨w 42 (.extract 34 1),[5,41],[42],[0,1,2,3,4,5,6],false,[]⟩,⟨w 5 (.ab 41),[42],[5],[0,1,2,3,4,5,6,7],false,[]⟩,⟨w 6 (.ab 42),[],[6],[0,1,2,3,4,5,6,7,8,9],false,[]⟩])) (.seq (.out [0,3,5,43] (.aa [0,3,5,6] [m 43 6])) (.out [0,3,4] (.cond (.t 43) (.seq (.out [0,4] (.aa [0,5] [m 44 5,w 4 (.ab 44)])) .ret) .skip)))) (.seq (.out [0,3,7] (.aa [0,3] [w 7 (.ab (.c U2 0))])) AR))))
def Gb:AC:=AS
def d41:FD:={nargs:=2,body:=Gb,res:=[.t 4],lend:=true}
def OW:AC:=.out [0,5,21,22,23] (.aa [0,3,5] [m 19 0,w 20 (.load aY 3),w 21 (.call 74 [19,20]),w 22 (.a8 21),w 23 (.mv (.c U2 0))])
def Gg:AC:=(.seq (.out [0,5,7,21,22,23,33,34,35,36] (.aa [0,5,7,21,22,23,33,34,35] [w 36 (.bin .lss 35 34)])) (.seq (.out [0,5,7,21,22,23,33,34,35] (.cond (.t 36) .skip (.exit 2))) (.seq (.out [0,5,7,21,22,23,33,34,35] (.block 3 (.seq (.out [0,5,7,9,21,22,23,33,34,35] (.aa [0,5,7,21,22,23,33,34,35] [w 37 (.indexAddr U5 33 35),w 38 (.load U5 37),w 9 (.ab 38)])) (.out [0,5,7,21,22,23,33,34,35] (.aa [0,5,7,9,21,22,23,33,34,35] [m 39 5,w 40 (.fieldAddr aY [.r,.l] 7),w 41 (.load U2 40),w 42 (.buildSlice 3 U2 [41]),m 43 9,w 44 (.append 3 U2 17592186044416 42 43),w 45 (.buildSlice 27 U5 [44]),w 46 (.append 27 U5 5864062014805 39 45),w 5 (.ab 46)]))))) (.out [0,5,7,21,22,23,33,34,35] (.aa [0,5,7,21,22,23,33,34,35] [w 47 (.bin .add 35 (.c U2 1)),m 35 47])))))
def Gh:AC:=.out [0,5,21,22,23] (.loop [0,5,7,21,22,23,33,34,35] Gg)
def AV:AC:=.out [0,5,21,22,23] (.block 2 Gh)
def Gi:AC:=(.seq (.out [0,5,7,21,22,23] (.aa [0,5,21,22,23] [w 25 (.indexAddr aY 21 23),w 26 (.load aY 25),w 7 (.alloc aY .no),⟨none,.store aY 7 26,none⟩])) (.seq (.seq (.out [0,5,7,21,22,23,30] (.aa [0,5,7,21,22,23] [m 27 0,w 28 (.load aY 7),w 29 (.kG 41 27 [28]),w 30 (.bin .eql 29 (.c U2 0))])) (.out [0,5,7,21,22,23] (.cond (.t 30) (.exit 1) .skip))) (.seq (.out [0,5,7,21,22,23,33,34,35] (.aa [0,5,7,21,22,23] [m 31 0,w 32 (.load aY 7),w 33 (.kG 42 31 [32]),w 34 (.a8 33),w 35 (.mv (.c U2 0))])) AV)))
def Gj:AC:=.out [0,5,21,22,23] (.block 1 Gi)
def O0:AC:=.out [0,5,21,22,23] (.aa [0,5,21,22,23] [w 48 (.bin .add 23 (.c U2 1)),m 23 48])
def AW:AC:=(.seq Gj O0)
def uD:AC:=(.seq (.out [0,5,21,22,23,24] (.aa [0,5,21,22,23] [w 24 (.bin .lss 23 22)])) (.seq (.out [0,5,21,22,23] (.cond (.t 24) .skip (.exit 0))) AW))
def Gk:AC:=.out [0,5] (.loop [0,5,21,22,23] uD)
def OX:AC:=.out [0,5] (.block 0 Gk)
def OY:AC:=(.seq OW OX)
def OZ:AC:=(.seq (.out [0,4,5] (.aa [0,5] [m 49 5,w 4 (.ab 49)])) .ret)
def AT:AC:=(.seq OY OZ)
def AU:AC:=(.seq (.out [0,3] (.aa [0,1] [w 3 (.box aY 1),w 4 (.ab (.nil 27 U5))])) (.seq (.seq (.out [0,3,17] (.draw [0,3] [⟨w 10 (.fieldAddr aY [.r,.r,.l] 3),[12,13,14,15,16],[10],[],false,[]⟩,⟨w 11 (.load U2 10),[12,13,14,15,16],[11],[0],false,[]⟩,⟨m 12 0,[10,11],[12],[],false,[]⟩,⟨w 13 (.jy 12),[10,11],[13],[2],false,[]⟩,⟨w 14 (.fieldAddr bF [.r,.l] 13),[10,11],[14],[2,3],false,[]⟩,⟨w 15 (.load .str 14),[10,11],[15],[2,3,4],false,[]⟩,⟨w 16 (.bz 15),[10,11],[16],[2,3,4,5],false,[]⟩,⟨w 17 (.bin .eql 11 16),[],[17],[0,1,2,3,4,5,6],false,[]⟩])) (.out [0,3,4] (.cond (.t 17) (.seq (.out [0,4] (.aa [0] [w 18 (.buildSlice 27 U5 [(.nil 3 U2)]),w 4 (.ab 18)])) .ret) .skip))) (.seq (.out [0,3,5] (.aa [0,3] [w 5 (.ab (.nil 27 U5))])) AT)))
def Gf:AC:=AU
def d42:FD:={nargs:=2,body:=Gf,res:=[.t 4],lend:=true}
def ON:AC:=.out [2,5,8,9,10] (.aa [1,2,5] [m 8 1,w 9 (.a8 8),w 10 (.mv (.c U2 0))])
def F8:AC:=(.seq (.out [2,5,8,9,10,11] (.aa [2,5,8,9,10] [w 11 (.bin .lss 10 9)])) (.seq (.out [2,5,8,9,10] (.cond (.t 11) .skip (.exit 0))) (.seq (.out [2,5,8,9,10] (.block 1 (.seq (.out [2,5,7,8,9,10] (.aa [2,5,8,9,10] [w 12 (.indexAddr U2 8 10),w 13 (.load U2 12),w 7 (.ab 13)])) (.out [2,5,8,9,10] (.aa [2,5,7,8,9,10] [m 14 5,w 15 (.fieldAddr ar [.r,.l] 2),w 16 (.load c8 15),m 17 7,w 18 (.indexAddr aH 16 17),w 19 (.fieldAddr aH [.r,.r,.l] 18),w 20 (.load U2 19),w 21 (.bin .add 14 20),w 5 (.ab 21)]))))) (.out [2,5,8,9,10] (.aa [2,5,8,9,10] [w 22 (.bin .add 10 (.c U2 1)),m 10 22])))))
def F9:AC:=.out [5] (.loop [2,5,8,9,10] F8)
def OO:AC:=.out [5] (.block 0 F9)
def OP:AC:=(.seq ON OO)
def OQ:AC:=(.seq (.out [4] (.aa [5] [m 23 5,w 4 (.ab 23)])) .ret)
def AP:AC:=(.seq OP OQ)
def AQ:AC:=(.seq (.out [1,2] (.aa [0,1] [w 2 (.box ar 0),w 4 (.ab (.c U2 0))])) (.seq (.out [1,2,5] (.aa [1,2] [w 5 (.ab (.c U2 0))])) AP))
def F7:AC:=AQ
def d38:FD:={nargs:=2,body:=F7,res:=[.t 4]}
def Qd:AC:=(.seq (.out [0] (.aa [0] [w 2 (.ab (.c .bool false))])) (.seq (.out [2] (.aa [0] [m 3 0,m 4 0,w 5 (.bin .neq 3 4),w 2 (.ab 5)])) .ret))
def Hd:AC:=Qd
def d77:FD:={nargs:=1,body:=Hd,res:=[.t 2]}
def O6:AC:=(.seq (.out [0,1] (.aa [0,1] [w 4 (.ab (.c U2 0))])) (.seq (.out [0,1,5] (.aa [0,1] [m 7 0,w 8 (.call 77 [7]),w 5 (.ab 8)])) (.seq (.out [0,1,5,6] (.aa [0,1,5] [m 9 1,w 10 (.call 77 [9]),w 6 (.ab 10)])) (.seq (.seq (.out [0,1,6,11] (.aa [0,1,5,6] [m 11 5])) (.out [0,1,4,6] (.cond (.t 11) (.seq (.seq (.out [12] (.aa [6] [m 12 6])) (.out [4] (.cond (.t 12) (.seq (.out [4] (.aa [] [w 4 (.ab (.c U2 0))])) .ret) .skip))) (.seq (.out [4] (.aa [] [w 4 (.ab (.c U2 (-1)))])) .ret)) .skip))) (.seq (.seq (.out [0,1,13] (.aa [0,1,6] [m 13 6])) (.out [0,1,4] (.cond (.t 13) (.seq (.out [4] (.aa [] [w 4 (.ab (.c U2 1))])) .ret) .skip))) (.seq (.seq (.out [0,1,16] (.aa [0,1] [m 14 0,m 15 1,w 16 (.bin .lss 14 15)])) (.out [0,1,4] (.cond (.t 16) (.seq (.out [4] (.aa [] [w 4 (.ab (.c U2 (-1)))])) .ret) .skip))) (.seq (.seq (.out [19] (.aa [0,1] [m 17 0,m 18 1,w 19 (.bin .gtr 17 18)])) (.out [4] (.cond (.t 19) (.seq (.out [4] (.aa [] [w 4 (.ab (.c U2 1))])) .ret) .skip))) (.seq (.out [4] (.aa [] [w 4 (.ab (.c U2 0))])) .ret))))))))
def Gs:AC:=O6
def d46:FD:={nargs:=2,body:=Gs,res:=[.t 4]}
def O7:AC:=.out [0,1] (.aa [0,1] [w 4 (.ab (.c U2 0))])
def O8:AC:=.out [0,1,9,10,11] (.aa [0,1] [m 9 0,w 10 (.a8 9),w 11 (.mv (.c U2 0))])
def Gu:AC:=(.seq (.out [0,1,9,10,11,12] (.aa [0,1,9,10,11] [w 12 (.bin .lss 11 10)])) (.seq (.out [0,1,9,10,11] (.cond (.t 12) .skip (.exit 0))) (.seq (.out [0,1,4,9,10,11] (.block 1 (.seq (.out [0,1,5,6,9,10,11] (.aa [0,1,9,10,11] [m 13 11,w 14 (.indexAddr U2 9 11),w 15 (.load U2 14),w 5 (.ab 13),w 6 (.ab 15)])) (.seq (.seq (.out [0,1,5,6,9,10,11,19] (.aa [0,1,5,6,9,10,11] [m 16 5,m 17 1,w 18 (.a8 17),w 19 (.bin .geq 16 18)])) (.out [0,1,4,5,6,9,10,11] (.cond (.t 19) (.seq (.out [4] (.aa [] [w 4 (.ab (.c U2 1))])) .ret) .skip))) (.seq (.out [0,1,6,7,9,10,11] (.aa [0,1,5,6,9,10,11] [m 20 1,m 21 5,w 22 (.indexAddr U2 20 21),w 23 (.load U2 22),w 7 (.ab 23)])) (.seq (.out [0,1,8,9,10,11] (.aa [0,1,6,7,9,10,11] [m 24 6,m 25 7,w 26 (.call 46 [24,25]),w 8 (.ab 26)])) (.seq (.out [0,1,8,9,10,11,28] (.aa [0,1,8,9,10,11] [m 27 8,w 28 (.bin .neq 27 (.c U2 0))])) (.out [0,1,4,9,10,11] (.cond (.t 28) (.seq (.out [4] (.aa [8] [m 29 8,w 4 (.ab 29)])) .ret) .skip))))))))) (.out [0,1,9,10,11] (.aa [0,1,9,10,11] [w 30 (.bin .add 11 (.c U2 1)),m 11 30])))))
def Gv:AC:=.out [0,1,4] (.loop [0,1,9,10,11] Gu)
def O9:AC:=.out [0,1,4] (.block 0 Gv)
def Pa:AC:=(.seq O8 O9)
def Pb:AC:=(.seq (.seq (.out [35] (.aa [0,1] [m 31 0,w 32 (.a8 31),m 33 1,w 34 (.a8 33),w 35 (.bin .lss 32 34)])) (.out [4] (.cond (.t 35) (.seq (.out [4] (.aa [] [w 4 (.ab (.c U2 (-1)))])) .ret) .skip))) (.seq (.out [4] (.aa [] [w 4 (.ab (.c U2 0))])) .ret))
def Pc:AC:=(.seq Pa Pb)
def Gw:AC:=(.seq O7 Pc)
def Gt:AC:=Gw
def d47:FD:={nargs:=2,body:=Gt,res:=[.t 4]}
def O2:AC:=.out [3,6,7,8] (.aa [0,3] [m 6 0,w 7 (.a8 6),w 8 (.mv (.c U2 0))])
def Gp:AC:=(.seq (.out [3,6,7,8,9] (.aa [3,6,7,8] [w 9 (.bin .lss 8 7)])) (.seq (.out [3,6,7,8] (.cond (.t 9) .skip (.exit 0))) (.seq (.out [2,3,6,7,8] (.block 1 (.seq (.out [3,5,6,7,8] (.aa [3,6,7,8] [w 10 (.indexAddr U2 6 8),w 11 (.load U2 10),w 5 (.ab 11)])) (.seq (.out [3,5,6,7,8,14] (.aa [3,5,6,7,8] [m 12 5,m 13 3,w 14 (.bin .neq 12 13)])) (.out [2,3,6,7,8] (.cond (.t 14) (.seq (.out [2] (.aa [5] [m 15 5,w 2 (.ab 15)])) .ret) .skip)))))) (.out [3,6,7,8] (.aa [3,6,7,8] [w 16 (.bin .add 8 (.c U2 1)),m 8 16])))))
def Gq:AC:=.out [2,3] (.loop [3,6,7,8] Gp)
def O3:AC:=.out [2,3] (.block 0 Gq)
def O4:AC:=(.seq O2 O3)
def O5:AC:=(.seq (.out [2] (.aa [3] [m 17 3,w 2 (.ab 17)])) .ret)
def AX:AC:=(.seq O4 O5)
def AY:AC:=(.seq (.out [0] (.aa [0] [w 2 (.ab (.c U2 0))])) (.seq (.out [0,3] (.aa [0] [w 3 (.ab (.c U2 0))])) AX))
def Gn:AC:=AY
def d45:FD:={nargs:=1,body:=Gn,res:=[.t 2]}
def O1:AC:=(.seq (.out [0,1,2] (.aa [0,1,2] [w 5 (.ab (.c U2 0))])) (.seq (.out [5] (.draw [0,1,2] [⟨w 6 (.load ar 2),[7,9,10,13,14],[6],[],false,[]⟩,⟨m 7 0,[6,9,10,13,14],[7],[],false,[]⟩,⟨w 8 (.call 38 [6,7]),[9,10,13,14],[8],[0,1],false,[]⟩,⟨w 9 (.load ar 2),[6,7,8,10,13,14],[9],[],false,[]⟩,⟨m 10 1,[6,7,8,9,13,14],[10],[],false,[]⟩,⟨w 11 (.call 38 [9,10]),[13,14],[11],[0,1,2,3,4],false,[]⟩,⟨w 12 (.call 46 [8,11]),[13,14],[12],[0,1,2,3,4,5],false,[]⟩,⟨m 13 0,[6,7,8,9,10,11,12,14],[13],[],false,[]⟩,⟨m 14 1,[6,7,8,9,10,11,12,13],[14],[],false,[]⟩,⟨w 15 (.call 47 [13,14]),[],[15],[0,1,2,3,4,5,6,7,8],false,[]⟩,⟨w 16 (.buildSlice 3 U2 [12,15]),[],[16],[0,1,2,3,4,5,6,7,8,9],false,[]⟩,⟨w 17 (.call 45 [16]),[],[17],[0,1,2,3,4,5,6,7,8,9,10],false,[]⟩,⟨w 5 (.ab 17),[],[5],[0,1,2,3,4,5,6,7,8,9,10,11],false,[]⟩])) .ret))
def Gm:AC:=O1
def d44:FD:={nargs:=3,body:=Gm,res:=[.t 5]}
def N4:AC:=(.seq (.out [1,2] (.aa [0,1] [w 2 (.box ar 0),w 4 (.ab (.nil 27 U5)),w 5 (.ab (.c U2 0))])) (.seq (.seq (.out [1,2,6] (.aa [1,2] [w 11 (.load ar 2),m 12 1,w 13 (.call 40 [11,12]),w 6 (.ab 13)])) (.seq (.out [1,2,6,15] (.aa [1,2,6] [m 14 6,w 15 (.bin .neq 14 (.c U2 0))])) (.out [1,2,4,5] (.cond (.t 15) (.seq (.out [4,5] (.aa [6] [m 16 6,w 4 (.ab (.nil 27 U5)),w 5 (.ab 16)])) .ret) .skip)))) (.seq (.out [2,7,21] (.aa [1,2] [w 17 (.load ar 2),m 18 1,w 19 (.C5 aY U2),w 20 (.zP bF [.r,.r,.l] 19 [([.l],17),([.r,.l],18)]),w 21 (.zO bF 20),w 7 (.ab 21)])) (.seq (.out [2,7,8,21] (.aa [2,7,21] [w 22 (.build aY [([.l],(.c U2 (-1))),([.r,.l],(.c U2 (-1))),([.r,.r,.l],(.c U2 0))]),w 8 (.alloc aY .no),⟨none,.store aY 8 22,none⟩])) (.seq (.seq (.out [2,7,8,9,21] (.aa [2,7,8,21] [m 23 7,w 24 (.load aY 8),w 25 (.kG 41 23 [24]),w 9 (.ab 25)])) (.out [2,4,5,7,8,21] (.block 0 (.seq (.out [2,7,8,9,21,26] (.aa [2,7,8,9,21] [m 27 9,w 28 (.bin .eql 27 (.c U2 0)),w 26 (.ab 28)])) (.out [2,4,5,7,8,21] (.cond (.t 26) (.seq (.out [4,5] (.aa [] [w 4 (.ab (.nil 27 U5)),w 5 (.ab (.c U2 9))])) .ret) (.seq (.out [2,7,8,21,29] (.aa [2,7,8,9,21] [m 30 9,w 31 (.bin .gtr 30 (.c U2 200)),w 29 (.ab 31)])) (.out [2,4,5,7,8,21] (.cond (.t 29) (.seq (.out [4,5] (.aa [] [w 4 (.ab (.nil 27 U5)),w 5 (.ab (.c U2 3))])) .ret) .skip))))))))) (.seq (.out [2,10] (.aa [2,7,8,21] [m 32 7,w 33 (.load aY 8),w 34 (.kG 42 32 [33]),w 10 (.ab 34)])) (.seq (.out [10] (.aa [2,10] [m 35 10,w 36 (.qw 44 zw U2 [2]),w 37 (.iT 43 35 36)])) (.seq (.out [4,5,10] (.aa [10] [m 38 10,w 4 (.ab 38),w 5 (.ab (.c U2 0))])) .ret))))))))
def Fx:AC:=N4
def d16:FD:={nargs:=2,body:=Fx,res:=[.t 4,.t 5]}
def Nq:AC:=(.seq (.out [1,2] (.aa [0,1] [w 2 (.box ar 0),w 4 (.ab (.nil 3 U2)),w 5 (.ab (.c U2 0)),w 6 (.ab (.c U2 0))])) (.seq (.out [2,7,8] (.aa [1,2] [w 10 (.load ar 2),m 11 1,w 12 (.call 16 [10,11]),m 9 12,w 13 (.extract 9 0),w 14 (.extract 9 1),w 7 (.ab 13),w 8 (.ab 14)])) (.seq (.seq (.out [2,7,8,16] (.aa [2,7,8] [m 15 8,w 16 (.bin .neq 15 (.c U2 0))])) (.out [2,4,5,6,7] (.cond (.t 16) (.seq (.out [4,5,6] (.aa [8] [m 17 8,w 4 (.ab (.nil 3 U2)),w 5 (.ab (.c U2 0)),w 6 (.ab 17)])) .ret) .skip))) (.seq (.out [4,5,6] (.draw [2,7] [⟨m 18 7,[21,22,23,24,25],[18],[],false,[]⟩,⟨w 19 (.indexAddr U5 18 (.c U2 0)),[21,22,23,24,25],[19],[0],false,[]⟩,⟨w 20 (.load U5 19),[21,22,23,24,25],[20],[0,1],false,[]⟩,⟨w 21 (.load ar 2),[18,19,20,22,23,24],[21],[],false,[]⟩,⟨m 22 7,[18,19,20,21],[22],[],false,[]⟩,⟨w 23 (.indexAddr U5 22 (.c U2 0)),[18,19,20,21],[23],[4],false,[]⟩,⟨w 24 (.load U5 23),[18,19,20,21],[24],[4,5],false,[]⟩,⟨w 25 (.call 38 [21,24]),[18,19,20],[25],[3,4,5,6],false,[]⟩,⟨w 4 (.ab 20),[],[4],[0,1,2,3,4,5,6,7],true,[]⟩,⟨w 5 (.ab 25),[],[5],[0,1,2,3,4,5,6,7,8],false,[]⟩,⟨w 6 (.ab (.c U2 0)),[],[6],[0,1,2,3,4,5,6,7,8,9],false,[]⟩])) .ret))))
def EM:AC:=Nq
def d13:FD:={nargs:=2,body:=EM,res:=[.p 4,.t 5,.t 6]}
def Pp:AC:=.out [2,6,9,10,11] (.aa [1,2,6] [m 9 1,w 10 (.a8 9),w 11 (.mv (.c U2 0))])
def GI:AC:=(.seq (.out [2,6,9,10,11,12] (.aa [2,6,9,10,11] [w 12 (.bin .lss 11 10)])) (.seq (.out [2,6,9,10,11] (.cond (.t 12) .skip (.exit 0))) (.seq (.out [2,4,5,6,9,10,11] (.block 1 (.seq (.out [2,6,8,9,10,11] (.aa [2,6,9,10,11] [w 13 (.indexAddr U2 9 11),w 14 (.load U2 13),w 8 (.ab 14)])) (.seq (.seq (.out [2,6,8,9,10,11,23] (.aa [2,6,8,9,10,11] [m 15 8,w 16 (.bin .lss 15 (.c U2 0)),m 17 16,⟨some 18,.mv 8,some (17,false)⟩,⟨some 19,.fieldAddr ar [.r,.l] 2,some (17,false)⟩,⟨some 20,.load c8 19,some (17,false)⟩,⟨some 21,.a8 20,some (17,false)⟩,⟨some 22,.bin .geq 18 21,some (17,false)⟩,w 23 (.pick 17 (.c .bool true) 22)])) (.out [2,4,5,6,8,9,10,11] (.cond (.t 23) (.seq (.out [4,5] (.aa [] [w 4 (.ab (.c .str [])),w 5 (.ab (.c .bool false))])) .ret) .skip))) (.out [2,6,9,10,11] (.aa [2,6,8,9,10,11] [w 24 (.fieldAddr ar [.r,.l] 2),w 25 (.load c8 24),m 26 8,w 27 (.indexAddr aH 25 26),w 28 (.fieldAddr aH [.l] 27),w 29 (.load .str 28),w 30 (.iA 84 6 29)])))))) (.out [2,6,9,10,11] (.aa [2,6,9,10,11] [w 31 (.bin .add 11 (.c U2 1)),m 11 31])))))
def GJ:AC:=.out [4,5,6] (.loop [2,6,9,10,11] GI)
def Pq:AC:=.out [4,5,6] (.block 0 GJ)
def Pr:AC:=(.seq Pp Pq)
def Ps:AC:=(.seq (.out [4,5] (.aa [6] [w 32 (.jC 85 6),w 4 (.ab 32),w 5 (.ab (.c .bool true))])) .ret)
def A3:AC:=(.seq Pr Ps)
def A4:AC:=(.seq (.out [1,2] (.aa [0,1] [w 2 (.box ar 0),w 4 (.ab (.c .str [])),w 5 (.ab (.c .bool false))])) (.seq (.out [1,2,6] (.aa [1,2] [w 6 (.yM 123 5)])) A3))
def GH:AC:=A4
def d57:FD:={nargs:=2,body:=GH,res:=[.t 4,.t 5]}
def Po:AC:=(.seq (.out [1,2] (.aa [0,1] [w 2 (.box ar 0),w 4 (.ab (.c U2 0))])) (.seq (.seq (.out [1,2,5] (.aa [1,2] [w 8 (.load ar 2),w 9 (.call 70 [8]),w 5 (.ab 9)])) (.seq (.out [1,2,5,11] (.aa [1,2,5] [m 10 5,w 11 (.bin .neq 10 (.c U2 0))])) (.out [1,2,4] (.cond (.t 11) (.seq (.out [4] (.aa [5] [m 12 5,w 4 (.ab 12)])) .ret) .skip)))) (.seq (.seq (.out [1,2,15] (.aa [1,2] [m 13 1,w 14 (.a8 13),w 15 (.bin .gtr 14 (.c U2 16))])) (.out [1,2,4] (.cond (.t 15) (.seq (.out [4] (.aa [] [w 4 (.ab (.c U2 3))])) .ret) .skip))) (.seq (.seq (.out [7] (.aa [1,2] [w 17 (.load ar 2),m 18 1,w 19 (.call 57 [17,18]),m 16 19,w 20 (.extract 16 0),w 21 (.extract 16 1),w 6 (.ab 20),w 7 (.ab 21)])) (.seq (.out [23] (.aa [7] [m 22 7,w 23 (.un .not 22)])) (.out [4] (.cond (.t 23) (.seq (.out [4] (.aa [] [w 4 (.ab (.c U2 6))])) .ret) .skip)))) (.seq (.out [4] (.aa [] [w 4 (.ab (.c U2 0))])) .ret)))))
def GG:AC:=Po
def d55:FD:={nargs:=2,body:=GG,res:=[.t 4]}
def Om:AC:=.out [2,7,8,17,18,19] (.aa [1,2,7,8] [m 17 1,w 18 (.a8 17),w 19 (.mv (.c U2 0))])
def On:AC:=.out [2,7,8,10,17,18,19] (.aa [2,7,8,17,18,19] [w 21 (.indexAddr U2 17 19),w 22 (.load U2 21),w 10 (.ab 22)])
def Ow:AC:=.out [2,7,8,10,17,18,19,29,30] (.aa [2,7,8,10,17,18,19] [w 23 (.fieldAddr ar [.r,.l] 2),w 24 (.load c8 23),m 25 10,w 26 (.indexAddr aH 24 25),w 27 (.fieldAddr aH [.r,.l] 26),w 28 (.load bp 27),w 29 (.a8 28),w 30 (.mv (.c U2 0))])
def FX:AC:=(.seq (.out [2,7,8,10,17,18,19,29,30,31] (.aa [2,7,8,10,17,18,19,29,30] [w 31 (.bin .lss 30 29)])) (.seq (.out [2,7,8,10,17,18,19,29,30] (.cond (.t 31) .skip (.exit 2))) (.seq (.out [2,7,8,10,17,18,19,29,30] (.block 3 (.out [2,7,8,10,17,18,19,29,30] (.aa [2,7,8,10,17,18,19,29,30] [m 32 7,m 33 8,w 34 (.buildSlice 3 U2 [33]),w 35 (.append 3 U2 17592186044416 32 34),w 7 (.ab 35)])))) (.out [2,7,8,10,17,18,19,29,30] (.aa [2,7,8,10,17,18,19,29,30] [w 36 (.bin .add 30 (.c U2 1)),m 30 36])))))
def FY:AC:=.out [2,7,8,10,17,18,19] (.loop [2,7,8,10,17,18,19,29,30] FX)
def Ox:AC:=.out [2,7,8,10,17,18,19] (.block 2 FY)
def Oy:AC:=(.seq Ow Ox)
def Oz:AC:=.out [2,7,8,17,18,19] (.aa [2,7,8,10,17,18,19] [m 37 8,w 38 (.fieldAddr ar [.r,.l] 2),w 39 (.load c8 38),m 40 10,w 41 (.indexAddr aH 39 40),w 42 (.fieldAddr aH [.l] 41),w 43 (.load .str 42),w 44 (.bz 43),w 45 (.bin .add 37 44),w 8 (.ab 45)])
def OA:AC:=(.seq Oy Oz)
def OC:AC:=(.seq On OA)
def Oo:AC:=.out [2,7,8,17,18,19] (.block 1 OC)
def Oq:AC:=.out [2,7,8,17,18,19] (.aa [2,7,8,17,18,19] [w 46 (.bin .add 19 (.c U2 1)),m 19 46])
def AH:AC:=(.seq Oo Oq)
def uC:AC:=(.seq (.out [2,7,8,17,18,19,20] (.aa [2,7,8,17,18,19] [w 20 (.bin .lss 19 18)])) (.seq (.out [2,7,8,17,18,19] (.cond (.t 20) .skip (.exit 0))) AH))
def FW:AC:=.out [7] (.loop [2,7,8,17,18,19] uC)
def Ot:AC:=.out [7] (.block 0 FW)
def Ou:AC:=(.seq Om Ot)
def Ov:AC:=(.seq (.out [4,5,7] (.aa [7] [m 47 7,w 4 (.ab 47),w 5 (.ab (.c U2 0))])) .ret)
def AJ:AC:=(.seq Ou Ov)
def AK:AC:=(.seq (.out [1,2] (.aa [0,1] [w 2 (.box ar 0),w 4 (.ab (.nil 3 U2)),w 5 (.ab (.c U2 0))])) (.seq (.seq (.out [1,2,6] (.aa [1,2] [w 11 (.load ar 2),m 12 1,w 13 (.call 55 [11,12]),w 6 (.ab 13)])) (.seq (.out [1,2,6,15] (.aa [1,2,6] [m 14 6,w 15 (.bin .neq 14 (.c U2 0))])) (.out [1,2,4,5] (.cond (.t 15) (.seq (.out [4,5] (.aa [6] [m 16 6,w 4 (.ab (.nil 3 U2)),w 5 (.ab 16)])) .ret) .skip)))) (.seq (.out [1,2,7] (.aa [1,2] [w 7 (.ab (.nil 3 U2))])) (.seq (.out [1,2,7,8] (.aa [1,2,7] [w 8 (.ab (.c U2 0))])) AJ))))
def FV:AC:=AK
def d24:FD:={nargs:=2,body:=FV,res:=[.t 4,.t 5]}
def Oa:AC:=.out [1,2,7,8,25,26,27] (.aa [1,2,7,8] [m 25 7,w 26 (.a8 25),w 27 (.mv (.c U2 0))])
def FJ:AC:=(.seq (.out [1,2,7,8,9,25,26,27,36,37,38,39] (.aa [1,2,7,8,9,25,26,27,36,37,38] [w 39 (.bin .lss 38 37)])) (.seq (.out [1,2,7,8,9,25,26,27,36,37,38] (.cond (.t 39) .skip (.exit 2))) (.seq (.out [1,2,7,8,9,25,26,27,36,37,38] (.block 3 (.seq (.out [1,2,7,8,9,12,25,26,27,36,37,38] (.aa [1,2,7,8,9,25,26,27,36,37,38] [w 40 (.indexAddr aH 36 38),w 41 (.load aH 40),w 12 (.alloc aH (.pair .no (.pair (.own true 40 .no) (.pair .no (.pair .no .no))))),⟨none,.store aH 12 41,none⟩])) (.seq (.out [1,2,7,8,9,12,25,26,27,36,37,38,47] (.draw [1,2,7,8,9,12,25,26,27,36,37,38] [⟨m 42 1,[43,45,46],[42],[],false,[]⟩,⟨m 43 9,[42,45,46],[43],[],false,[]⟩,⟨w 44 (.iY 42 (some 43) none),[45,46],[44],[0,1],false,[]⟩,⟨w 45 (.fieldAddr aH [.l] 12),[42,43,44],[45],[],false,[]⟩,⟨w 46 (.load .str 45),[42,43,44],[46],[3],false,[]⟩,⟨w 47 (.call 54 [44,46]),[],[47],[0,1,2,3,4],false,[]⟩])) (.out [1,2,7,8,9,25,26,27,36,37,38] (.cond (.t 47) (.out [1,2,7,8,9,25,26,27,36,37,38] (.aa [1,2,7,8,9,12,25,26,27,36,37,38] [m 48 7,m 49 9,w 50 (.fieldAddr aH [.l] 12),w 51 (.load .str 50),w 52 (.bz 51),w 53 (.bin .add 49 52),w 54 (.indexAddr .bool 48 53),⟨none,.store .bool 54 (.c .bool true),none⟩])) .skip)))))) (.out [1,2,7,8,9,25,26,27,36,37,38] (.aa [1,2,7,8,9,25,26,27,36,37,38] [w 55 (.bin .add 38 (.c U2 1)),m 38 55])))))
def FK:AC:=.out [1,2,7,8,25,26,27] (.loop [1,2,7,8,9,25,26,27,36,37,38] FJ)
def AA:AC:=.out [1,2,7,8,25,26,27] (.block 2 FK)
def FL:AC:=(.seq (.out [1,2,7,8,9,10,25,26,27] (.aa [1,2,7,8,25,26,27] [m 29 27,w 30 (.indexAddr .bool 25 27),w 31 (.load .bool 30),w 9 (.ab 29),w 10 (.ab 31)])) (.seq (.seq (.out [1,2,7,8,9,25,26,27,33] (.aa [1,2,7,8,9,10,25,26,27] [m 32 10,w 33 (.un .not 32)])) (.out [1,2,7,8,9,25,26,27] (.cond (.t 33) (.exit 1) .skip))) (.seq (.out [1,2,7,8,9,25,26,27] (.aa [1,2,7,9,25,26,27] [m 34 9,w 8 (.ab 34)])) (.seq (.out [1,2,7,8,9,25,26,27,36,37,38] (.aa [1,2,7,8,9,25,26,27] [w 35 (.fieldAddr ar [.r,.l] 2),w 36 (.load c8 35),w 37 (.a8 36),w 38 (.mv (.c U2 0))])) AA))))
def FM:AC:=.out [1,2,7,8,25,26,27] (.block 1 FL)
def Of:AC:=.out [1,2,7,8,25,26,27] (.aa [1,2,7,8,25,26,27] [w 56 (.bin .add 27 (.c U2 1)),m 27 56])
def AB:AC:=(.seq FM Of)
def uA:AC:=(.seq (.out [1,2,7,8,25,26,27,28] (.aa [1,2,7,8,25,26,27] [w 28 (.bin .lss 27 26)])) (.seq (.out [1,2,7,8,25,26,27] (.cond (.t 28) .skip (.exit 0))) AB))
def FN:AC:=.out [8] (.loop [1,2,7,8,25,26,27] uA)
def Ob:AC:=.out [8] (.block 0 FN)
def Oc:AC:=(.seq Oa Ob)
def Oe:AC:=(.seq (.out [4,5] (.aa [8] [m 57 8,w 4 (.ab 57),w 5 (.ab (.c U2 0))])) .ret)
def Ay:AC:=(.seq Oc Oe)
def Az:AC:=(.seq (.out [1,2] (.aa [0,1] [w 2 (.box ar 0),w 4 (.ab (.c U2 0)),w 5 (.ab (.c U2 0))])) (.seq (.seq (.out [1,2,6] (.aa [1,2] [w 13 (.load ar 2),m 14 1,w 15 (.call 40 [13,14]),w 6 (.ab 15)])) (.seq (.out [1,2,6,17] (.aa [1,2,6] [m 16 6,w 17 (.bin .neq 16 (.c U2 0))])) (.out [1,2,4,5] (.cond (.t 17) (.seq (.out [4,5] (.aa [6] [m 18 6,w 4 (.ab (.c U2 0)),w 5 (.ab 18)])) .ret) .skip)))) (.seq (.out [1,2,7] (.aa [1,2] [m 19 1,w 20 (.bz 19),w 21 (.bin .add 20 (.c U2 1)),w 22 (.mkSlice 4 .bool 140737488355328 21 21),w 7 (.ab 22)])) (.seq (.out [1,2,7] (.aa [1,2,7] [m 23 7,w 24 (.indexAddr .bool 23 (.c U2 0)),⟨none,.store .bool 24 (.c .bool true),none⟩])) (.seq (.out [1,2,7,8] (.aa [1,2,7] [w 8 (.ab (.c U2 0))])) Ay)))))
def FI:AC:=Az
def d20:FD:={nargs:=2,body:=FI,res:=[.t 4,.t 5]}
def Pj:AC:=.out [0,1,5] (.aa [0,1] [w 5 (.ab (.c U2 0))])
def GC:AC:=(.seq (.seq (.out [0,1,5,14] (.aa [0,1,5] [m 11 5,m 12 0,w 13 (.a8 12),w 14 (.bin .lss 11 13)])) (.out [0,1,5] (.cond (.t 14) .skip (.exit 0)))) (.seq (.out [0,1,4,5] (.block 1 (.seq (.out [0,1,5,25] (.draw [0,1,5] [⟨m 17 0,[18,21,22,23,24],[17],[],false,[]⟩,⟨m 18 5,[17,21,22,23,24],[18],[],false,[]⟩,⟨w 19 (.indexAddr U2 17 18),[21,22,23,24],[19],[0,1],false,[]⟩,⟨w 20 (.load U2 19),[21,22,23,24],[20],[0,1,2],false,[]⟩,⟨m 21 1,[17,18,19,20,22],[21],[],false,[]⟩,⟨m 22 5,[17,18,19,20,21],[22],[],false,[]⟩,⟨w 23 (.indexAddr U2 21 22),[17,18,19,20],[23],[4,5],false,[]⟩,⟨w 24 (.load U2 23),[17,18,19,20],[24],[4,5,6],false,[]⟩,⟨w 25 (.bin .neq 20 24),[],[25],[0,1,2,3,4,5,6,7],false,[]⟩])) (.out [0,1,4,5] (.cond (.t 25) (.seq (.out [4] (.aa [] [w 4 (.ab (.c .bool false))])) .ret) .skip))))) (.out [0,1,5] (.aa [0,1,5] [m 15 5,w 16 (.bin .add 15 (.c U2 1)),w 5 (.ab 16)]))))
def GD:AC:=.out [4] (.loop [0,1,5] GC)
def Pk:AC:=.out [4] (.block 0 GD)
def Pl:AC:=(.seq Pj Pk)
def Pm:AC:=(.seq (.out [4] (.aa [] [w 4 (.ab (.c .bool true))])) .ret)
def A1:AC:=(.seq Pl Pm)
def A2:AC:=(.seq (.out [0,1] (.aa [0,1] [w 4 (.ab (.c .bool false))])) (.seq (.seq (.out [0,1,10] (.aa [0,1] [m 6 0,w 7 (.a8 6),m 8 1,w 9 (.a8 8),w 10 (.bin .neq 7 9)])) (.out [0,1,4] (.cond (.t 10) (.seq (.out [4] (.aa [] [w 4 (.ab (.c .bool false))])) .ret) .skip))) A1))
def GB:AC:=A2
def d53:FD:={nargs:=2,body:=GB,res:=[.t 4]}
def N6:AC:=.out [0,1,5] (.aa [0,1] [w 5 (.ab (.c U2 0))])
def FG:AC:=(.seq (.seq (.out [0,1,5,14] (.aa [0,1,5] [m 11 5,m 12 0,w 13 (.a8 12),w 14 (.bin .lss 11 13)])) (.out [0,1,5] (.cond (.t 14) .skip (.exit 0)))) (.seq (.out [0,1,4,5] (.block 1 (.seq (.out [0,1,5,26] (.draw [0,1,5] [⟨m 17 0,[18,21,22,23,24],[17],[],false,[]⟩,⟨m 18 5,[17,21,22,23,24],[18],[],false,[]⟩,⟨w 19 (.indexAddr U5 17 18),[21,22,23,24],[19],[0,1],false,[]⟩,⟨w 20 (.load U5 19),[21,22,23,24],[20],[0,1,2],false,[]⟩,⟨m 21 1,[17,18,19,20,22],[21],[],false,[]⟩,⟨m 22 5,[17,18,19,20,21],[22],[],false,[]⟩,⟨w 23 (.indexAddr U5 21 22),[17,18,19,20],[23],[4,5],false,[]⟩,⟨w 24 (.load U5 23),[17,18,19,20],[24],[4,5,6],false,[]⟩,⟨w 25 (.call 53 [20,24]),[],[25],[0,1,2,3,4,5,6,7],false,[]⟩,⟨w 26 (.un .not 25),[],[26],[0,1,2,3,4,5,6,7,8],false,[]⟩])) (.out [0,1,4,5] (.cond (.t 26) (.seq (.out [4] (.aa [] [w 4 (.ab (.c .bool false))])) .ret) .skip))))) (.out [0,1,5] (.aa [0,1,5] [m 15 5,w 16 (.bin .add 15 (.c U2 1)),w 5 (.ab 16)]))))
def FH:AC:=.out [4] (.loop [0,1,5] FG)
def N7:AC:=.out [4] (.block 0 FH)
def N8:AC:=(.seq N6 N7)
def N9:AC:=(.seq (.out [4] (.aa [] [w 4 (.ab (.c .bool true))])) .ret)
def Aw:AC:=(.seq N8 N9)
def Ax:AC:=(.seq (.out [0,1] (.aa [0,1] [w 4 (.ab (.c .bool false))])) (.seq (.seq (.out [0,1,10] (.aa [0,1] [m 6 0,w 7 (.a8 6),m 8 1,w 9 (.a8 8),w 10 (.bin .neq 7 9)])) (.out [0,1,4] (.cond (.t 10) (.seq (.out [4] (.aa [] [w 4 (.ab (.c .bool false))])) .ret) .skip))) Aw))
def FF:AC:=Ax
def d19:FD:={nargs:=2,body:=FF,res:=[.t 4]}
def NU:AC:=.out [0,1,12,13] (.aa [0,1] [m 11 0,w 12 (.a8 11),w 13 (.mv (.c U2 0))])
def Fu:AC:=(.seq (.out [0,1,12,13,14] (.aa [0,1,12,13] [w 14 (.bin .lss 13 12)])) (.seq (.out [0,1,12,13] (.cond (.t 14) .skip (.exit 0))) (.seq (.out [0,1,4,12,13] (.block 1 (.seq (.out [0,1,5,12,13] (.aa [0,1,12,13] [m 15 13,w 5 (.ab 15)])) (.seq (.out [0,1,12,13,24] (.draw [0,1,5,12,13] [⟨m 16 0,[17,20,21,22,23],[16],[],false,[]⟩,⟨m 17 5,[16,20,21,22,23],[17],[],false,[]⟩,⟨w 18 (.indexAddr U2 16 17),[20,21,22,23],[18],[0,1],false,[]⟩,⟨w 19 (.load U2 18),[20,21,22,23],[19],[0,1,2],false,[]⟩,⟨m 20 1,[16,17,18,19,21],[20],[],false,[]⟩,⟨m 21 5,[16,17,18,19,20],[21],[],false,[]⟩,⟨w 22 (.indexAddr U2 20 21),[16,17,18,19],[22],[4,5],false,[]⟩,⟨w 23 (.load U2 22),[16,17,18,19],[23],[4,5,6],false,[]⟩,⟨w 24 (.bin .neq 19 23),[],[24],[0,1,2,3,4,5,6,7],false,[]⟩])) (.out [0,1,4,12,13] (.cond (.t 24) (.seq (.out [4] (.aa [] [w 4 (.ab (.c .bool false))])) .ret) .skip)))))) (.out [0,1,12,13] (.aa [0,1,12,13] [w 25 (.bin .add 13 (.c U2 1)),m 13 25])))))
def Fv:AC:=.out [4] (.loop [0,1,12,13] Fu)
def NV:AC:=.out [4] (.block 0 Fv)
def NW:AC:=(.seq NU NV)
def NX:AC:=(.seq (.out [4] (.aa [] [w 4 (.ab (.c .bool true))])) .ret)
def Au:AC:=(.seq NW NX)
def Av:AC:=(.seq (.out [0,1] (.aa [0,1] [w 4 (.ab (.c .bool false))])) (.seq (.seq (.out [0,1,10] (.aa [0,1] [m 6 0,w 7 (.a8 6),m 8 1,w 9 (.a8 8),w 10 (.bin .neq 7 9)])) (.out [0,1,4] (.cond (.t 10) (.seq (.out [4] (.aa [] [w 4 (.ab (.c .bool false))])) .ret) .skip))) Au))
def Ff:AC:=Av
def d15:FD:={nargs:=2,body:=Ff,res:=[.t 4]}
def MP:AC:=(.seq (.out [] (.aa [] [w 0 (.ab (.c .bool false))])) (.seq (.out [1] (.aa [] [w 13 (.call 37 []),w 1 (.alloc ar (.pair .no (.pair (.own true 43 .no) .no))),⟨none,.store ar 1 13,none⟩])) (.seq (.out [1,2,3] (.aa [1] [w 15 (.load ar 1),w 16 (.call 16 [15,(.c .str [97,114,109,97])]),m 14 16,w 17 (.extract 14 0),w 18 (.extract 14 1),w 2 (.ab 17),w 3 (.ab 18)])) (.seq (.out [1,2,3,4,5] (.aa [1,2,3] [w 20 (.load ar 1),w 21 (.call 16 [20,(.c .str [116,114,111,105,97,101])]),m 19 21,w 22 (.extract 19 0),w 23 (.extract 19 1),w 4 (.ab 22),w 5 (.ab 23)])) (.seq (.out [1,2,3,4,5,6,7,8] (.aa [1,2,3,4,5] [w 25 (.load ar 1),w 26 (.call 13 [25,(.c .str [105,97,109])]),m 24 26,w 27 (.extract 24 0),w 28 (.extract 24 1),w 29 (.extract 24 2),w 6 (.ab 27),w 7 (.ab 28),w 8 (.ab 29)])) (.seq (.out [1,2,3,4,5,6,7,8,9,10] (.aa [1,2,3,4,5,6,7,8] [w 31 (.load ar 1),w 32 (.buildSlice 3 U2 [(.c U2 38),(.c U2 40),(.c U2 3),(.c U2 23),(.c U2 18)]),w 33 (.call 24 [31,32]),m 30 33,w 34 (.extract 30 0),w 35 (.extract 30 1),w 9 (.ab 34),w 10 (.ab 35)])) (.seq (.out [2,3,4,5,6,7,8,9,10,11,12] (.aa [1,2,3,4,5,6,7,8,9,10] [w 37 (.load ar 1),w 38 (.call 20 [37,(.c .str [97,114,109,113])]),m 36 38,w 39 (.extract 36 0),w 40 (.extract 36 1),w 11 (.ab 39),w 12 (.ab 40)])) (.seq (.seq (.out [2,4,6,9,66] (.aa [2,3,4,5,6,7,8,9,10,11,12] [m 41 3,w 42 (.bin .neq 41 (.c U2 0)),m 43 42,⟨some 44,.mv 5,some (43,false)⟩,⟨some 45,.bin .neq 44 (.c U2 0),some (43,false)⟩,w 46 (.pick 43 (.c .bool true) 45),m 47 46,⟨some 48,.mv 8,some (47,false)⟩,⟨some 49,.bin .neq 48 (.c U2 0),some (47,false)⟩,w 50 (.pick 47 (.c .bool true) 49),m 51 50,⟨some 52,.mv 10,some (51,false)⟩,⟨some 53,.bin .neq 52 (.c U2 0),some (51,false)⟩,w 54 (.pick 51 (.c .bool true) 53),m 55 54,⟨some 56,.mv 12,some (55,false)⟩,⟨some 57,.bin .neq 56 (.c U2 0),some (55,false)⟩,w 58 (.pick 55 (.c .bool true) 57),m 59 58,⟨some 60,.mv 11,some (59,false)⟩,⟨some 61,.bin .neq 60 (.c U2 3),some (59,false)⟩,w 62 (.pick 59 (.c .bool true) 61),m 63 62,⟨some 64,.mv 7,some (63,false)⟩,⟨some 65,.bin .neq 64 (.c U2 1),some (63,false)⟩,w 66 (.pick 63 (.c .bool true) 65)])) (.out [0,2,4,6,9] (.cond (.t 66) (.seq (.out [0] (.aa [] [w 0 (.ab (.c .bool false))])) .ret) .skip))) (.seq (.out [0] (.aa [2,4,6,9] [m 67 2,w 68 (.buildSlice 3 U2 [(.c U2 0),(.c U2 40),(.c U2 41),(.c U2 0)]),w 69 (.buildSlice 27 U5 [68]),w 70 (.call 19 [67,69]),m 71 70,⟨some 72,.mv 4,some (71,true)⟩,⟨some 73,.buildSlice 3 U2 [(.c U2 38),(.c U2 40),(.c U2 3),(.c U2 23),(.c U2 18)],some (71,true)⟩,⟨some 74,.buildSlice 3 U2 [(.c U2 38),(.c U2 40),(.c U2 3),(.c U2 2),(.c U2 18)],some (71,true)⟩,⟨some 75,.buildSlice 3 U2 [(.c U2 38),(.c U2 40),(.c U2 3),(.c U2 23),(.c U2 0),(.c U2 1)],some (71,true)⟩,⟨some 76,.buildSlice 3 U2 [(.c U2 38),(.c U2 40),(.c U2 3),(.c U2 2),(.c U2 0),(.c U2 1)],some (71,true)⟩,⟨some 77,.buildSlice 27 U5 [73,74,75,76],some (71,true)⟩,⟨some 78,.call 19 [72,77],some (71,true)⟩,w 79 (.pick 71 78 (.c .bool false)),m 80 79,⟨some 81,.mv 6,some (80,true)⟩,⟨some 82,.buildSlice 3 U2 [(.c U2 22),(.c U2 0),(.c U2 41)],some (80,true)⟩,⟨some 83,.call 15 [81,82],some (80,true)⟩,w 84 (.pick 80 83 (.c .bool false)),m 85 84,⟨some 86,.mv 9,some (85,true)⟩,⟨some 87,.buildSlice 3 U2 [(.c U2 0),(.c U2 1),(.c U2 2),(.c U2 3),(.c U2 3),(.c U2 4)],some (85,true)⟩,⟨some 88,.call 15 [86,87],some (85,true)⟩,w 89 (.pick 85 88 (.c .bool false)),w 0 (.ab 89)])) .ret)))))))))
def D7:AC:=MP
def d11:FD:={nargs:=0,body:=D7,res:=[.t 0]}
def PB:AC:=.out [0,5] (.aa [0] [w 5 (.ab (.c U2 0))])
def GO:AC:=(.seq (.seq (.out [0,5,13] (.aa [0,5] [m 10 5,m 11 0,w 12 (.a8 11),w 13 (.bin .lss 10 12)])) (.out [0,5] (.cond (.t 13) .skip (.exit 0)))) (.seq (.out [0,4,5] (.block 1 (.seq (.out [0,5,22] (.aa [0,5] [m 16 0,m 17 5,w 18 (.indexAddr aC 16 17),w 19 (.fieldAddr aC [.r,.r,.l] 18),w 20 (.load .str 19),w 21 (.bz 20),w 22 (.bin .gtr 21 (.c U2 40))])) (.out [0,4,5] (.cond (.t 22) (.seq (.out [4] (.aa [] [w 4 (.ab (.c .bool false))])) .ret) .skip))))) (.out [0,5] (.aa [0,5] [m 14 5,w 15 (.bin .add 14 (.c U2 1)),w 5 (.ab 15)]))))
def GP:AC:=.out [4] (.loop [0,5] GO)
def PC:AC:=.out [4] (.block 0 GP)
def PD:AC:=(.seq PB PC)
def PE:AC:=(.seq (.out [4] (.aa [] [w 4 (.ab (.c .bool true))])) .ret)
def A5:AC:=(.seq PD PE)
def A6:AC:=(.seq (.out [0,1] (.aa [0,1] [w 4 (.ab (.c .bool false))])) (.seq (.seq (.out [0,9] (.aa [0,1] [m 6 0,w 7 (.a8 6),m 8 1,w 9 (.bin .gtr 7 8)])) (.out [0,4] (.cond (.t 9) (.seq (.out [4] (.aa [] [w 4 (.ab (.c .bool false))])) .ret) .skip))) A5))
def GN:AC:=A6
def d66:FD:={nargs:=2,body:=GN,res:=[.t 4]}
def OH:AC:=.out [1,3,4] (.aa [1,3] [w 4 (.ab (.c U2 0))])
def F3:AC:=(.seq (.seq (.out [1,3,4,19] (.aa [1,3,4] [m 15 4,w 16 (.fieldAddr ar [.r,.l] 1),w 17 (.load c8 16),w 18 (.a8 17),w 19 (.bin .lss 15 18)])) (.out [1,3,4] (.cond (.t 19) .skip (.exit 0)))) (.seq (.out [1,2,3,4] (.block 1 (.seq (.out [1,3,4] (.aa [1,3,4] [m 22 3,w 23 (.fieldAddr ar [.r,.l] 1),w 24 (.load c8 23),m 25 4,w 26 (.indexAddr aH 24 25),w 27 (.fieldAddr aH [.l] 26),w 28 (.load .str 27),w 29 (.bz 28),w 30 (.bin .add 22 29),w 3 (.ab 30)])) (.seq (.out [1,3,4,38] (.aa [1,3,4] [w 31 (.fieldAddr ar [.r,.l] 1),w 32 (.load c8 31),m 33 4,w 34 (.indexAddr aH 32 33),w 35 (.fieldAddr aH [.r,.l] 34),w 36 (.load bp 35),w 37 (.call 66 [36,(.c U2 6)]),w 38 (.un .not 37)])) (.out [1,2,3,4] (.cond (.t 38) (.seq (.out [2] (.aa [] [w 2 (.ab (.c .bool false))])) .ret) .skip)))))) (.out [1,3,4] (.aa [1,3,4] [m 20 4,w 21 (.bin .add 20 (.c U2 1)),w 4 (.ab 21)]))))
def F4:AC:=.out [2,3] (.loop [1,3,4] F3)
def OI:AC:=.out [2,3] (.block 0 F4)
def OJ:AC:=(.seq OH OI)
def OK:AC:=(.seq (.out [2] (.aa [3] [m 39 3,w 40 (.bin .leq 39 (.c U2 1500)),w 2 (.ab 40)])) .ret)
def AN:AC:=(.seq OJ OK)
def AO:AC:=(.seq (.out [1] (.aa [0] [w 1 (.box ar 0),w 2 (.ab (.c .bool false))])) (.seq (.seq (.out [1,14] (.aa [1] [w 5 (.fieldAddr ar [.l] 1),w 6 (.load .str 5),w 7 (.bz 6),w 8 (.bin .gtr 7 (.c U2 60)),m 9 8,⟨some 10,.fieldAddr ar [.r,.l] 1,some (9,false)⟩,⟨some 11,.load c8 10,some (9,false)⟩,⟨some 12,.a8 11,some (9,false)⟩,⟨some 13,.bin .gtr 12 (.c U2 130),some (9,false)⟩,w 14 (.pick 9 (.c .bool true) 13)])) (.out [1,2] (.cond (.t 14) (.seq (.out [2] (.aa [] [w 2 (.ab (.c .bool false))])) .ret) .skip))) (.seq (.out [1,3] (.aa [1] [w 3 (.ab (.c U2 0))])) AN)))
def F2:AC:=AO
def d34:FD:={nargs:=1,body:=F2,res:=[.t 2]}
def Na:AC:=(.seq (.out [1,2,3] (.aa [0,1,2] [w 3 (.box ar 0),w 6 (.ab (.c .bool false))])) (.seq (.out [6] (.aa [1,2,3] [w 7 (.load ar 3),w 8 (.call 34 [7]),m 9 8,⟨some 10,.mv 1,some (9,true)⟩,⟨some 11,.bz 10,some (9,true)⟩,⟨some 12,.bin .leq 11 (.c U2 40),some (9,true)⟩,w 13 (.pick 9 12 (.c .bool false)),m 14 13,⟨some 15,.mv 2,some (14,true)⟩,⟨some 16,.a8 15,some (14,true)⟩,⟨some 17,.bin .leq 16 (.c U2 40),some (14,true)⟩,w 18 (.pick 14 17 (.c .bool false)),w 6 (.ab 18)])) .ret))
def Ev:AC:=Na
def d12:FD:={nargs:=3,body:=Ev,res:=[.t 6]}
def OL:AC:=(.seq (.out [1] (.aa [0] [w 1 (.box ar 0),w 2 (.ab (.c U2 0))])) (.seq (.out [4] (.aa [1] [w 6 (.load ar 1),w 7 (.call 67 [6]),m 5 7,w 8 (.extract 5 0),w 9 (.extract 5 1),w 3 (.ab 8),w 4 (.ab 9)])) (.seq (.out [2] (.aa [4] [m 10 4,w 2 (.ab 10)])) .ret)))
def F5:AC:=OL
def d35:FD:={nargs:=1,body:=F5,res:=[.t 2]}
def Mo:AC:=.out [0,3,4] (.aa [0,3] [w 4 (.ab (.c U2 0))])
def D9:AC:=(.seq (.seq (.out [0,3,4,11] (.aa [0,3,4] [m 8 4,m 9 0,w 10 (.bz 9),w 11 (.bin .lss 8 10)])) (.out [0,3,4] (.cond (.t 11) .skip (.exit 0)))) (.seq (.out [0,3,4] (.block 1 (.seq (.out [0,3,4] (.aa [0,3,4] [m 14 3,m 15 4,m 16 0,m 17 4,w 18 (.da 16 17),w 19 (.indexAddr U0 14 15),⟨none,.store U0 19 18,none⟩])) (.seq (.out [0,3,4,29] (.aa [0,3,4] [m 20 0,m 21 4,w 22 (.da 20 21),w 23 (.bin .geq 22 (.c U0 65)),m 24 23,⟨some 25,.mv 0,some (24,true)⟩,⟨some 26,.mv 4,some (24,true)⟩,⟨some 27,.da 25 26,some (24,true)⟩,⟨some 28,.bin .leq 27 (.c U0 90),some (24,true)⟩,w 29 (.pick 24 28 (.c .bool false))])) (.out [0,3,4] (.cond (.t 29) (.out [0,3,4] (.aa [0,3,4] [m 30 3,m 31 4,m 32 0,m 33 4,w 34 (.da 32 33),w 35 (.bin .sub 34 (.c U0 65)),w 36 (.bin .add 35 (.c U0 97)),w 37 (.indexAddr U0 30 31),⟨none,.store U0 37 36,none⟩])) .skip)))))) (.out [0,3,4] (.aa [0,3,4] [m 12 4,w 13 (.bin .add 12 (.c U2 1)),w 4 (.ab 13)]))))
def Ea:AC:=.out [3] (.loop [0,3,4] D9)
def Mp:AC:=.out [3] (.block 0 Ea)
def Mq:AC:=(.seq Mo Mp)
def Mr:AC:=(.seq (.out [2] (.aa [3] [m 38 3,w 39 (.toStr 38),w 2 (.ab 39)])) .ret)
def zQ:AC:=(.seq Mq Mr)
def zR:AC:=(.seq (.out [0] (.aa [0] [w 2 (.ab (.c .str []))])) (.seq (.out [0,3] (.aa [0] [m 5 0,w 6 (.bz 5),w 7 (.mkSlice 5 U0 140737488355328 6 6),w 3 (.ab 7)])) zQ))
def D8:AC:=zR
def d110:FD:={nargs:=1,body:=D8,res:=[.t 2]}
def Qe:AC:=.out [0,3] (.aa [0] [w 3 (.ab (.c U2 0))])
def Hf:AC:=(.seq (.seq (.out [0,3,16] (.aa [0,3] [m 13 3,m 14 0,w 15 (.bz 14),w 16 (.bin .lss 13 15)])) (.out [0,3] (.cond (.t 16) .skip (.exit 0)))) (.seq (.out [0,2,3] (.block 1 (.seq (.out [0,3,23] (.aa [0,3] [m 19 0,m 20 3,w 21 (.da 19 20),w 22 (.call 111 [21]),w 23 (.un .not 22)])) (.out [0,2,3] (.cond (.t 23) (.seq (.out [2] (.aa [] [w 2 (.ab (.c U2 2))])) .ret) .skip))))) (.out [0,3] (.aa [0,3] [m 17 3,w 18 (.bin .add 17 (.c U2 1)),w 3 (.ab 18)]))))
def Hg:AC:=.out [2] (.loop [0,3] Hf)
def Qf:AC:=.out [2] (.block 0 Hg)
def Qg:AC:=(.seq Qe Qf)
def Qh:AC:=(.seq (.out [2] (.aa [] [w 2 (.ab (.c U2 0))])) .ret)
def Bi:AC:=(.seq Qg Qh)
def Bj:AC:=(.seq (.out [0] (.aa [0] [w 2 (.ab (.c U2 0))])) (.seq (.seq (.out [0,5] (.aa [0] [m 4 0,w 5 (.bin .eql 4 (.c .str []))])) (.out [0,2] (.cond (.t 5) (.seq (.out [2] (.aa [] [w 2 (.ab (.c U2 7))])) .ret) .skip))) (.seq (.seq (.out [0,8] (.aa [0] [m 6 0,w 7 (.bz 6),w 8 (.bin .gtr 7 (.c U2 16))])) (.out [0,2] (.cond (.t 8) (.seq (.out [2] (.aa [] [w 2 (.ab (.c U2 3))])) .ret) .skip))) (.seq (.seq (.out [0,12] (.aa [0] [m 9 0,w 10 (.call 110 [9]),m 11 0,w 12 (.bin .neq 10 11)])) (.out [0,2] (.cond (.t 12) (.seq (.out [2] (.aa [] [w 2 (.ab (.c U2 2))])) .ret) .skip))) Bi))))
def He:AC:=Bj
def d78:FD:={nargs:=1,body:=He,res:=[.t 2]}
def Pd:AC:=(.seq (.out [1,2] (.aa [0,1] [w 2 (.box ar 0),w 4 (.ab (.c U2 0))])) (.seq (.seq (.out [1,5] (.aa [1,2] [w 6 (.load ar 2),w 7 (.call 35 [6]),w 5 (.ab 7)])) (.seq (.out [1,5,9] (.aa [1,5] [m 8 5,w 9 (.bin .neq 8 (.c U2 0))])) (.out [1,4] (.cond (.t 9) (.seq (.out [4] (.aa [5] [m 10 5,w 4 (.ab 10)])) .ret) .skip)))) (.seq (.out [4] (.aa [1] [m 11 1,w 12 (.call 78 [11]),w 4 (.ab 12)])) .ret)))
def Gx:AC:=Pd
def d48:FD:={nargs:=2,body:=Gx,res:=[.t 4]}
def Pe:AC:=.out [1,2,3,7,8] (.aa [1,2,3,7] [w 8 (.ab (.c U2 0))])
def Gz:AC:=(.seq (.seq (.out [1,2,3,7,8,14] (.aa [1,2,3,7,8] [m 10 8,w 11 (.fieldAddr ar [.r,.l] 3),w 12 (.load c8 11),w 13 (.a8 12),w 14 (.bin .lss 10 13)])) (.out [1,2,3,7,8] (.cond (.t 14) .skip (.exit 0)))) (.seq (.out [1,2,3,7,8] (.block 1 (.seq (.out [1,2,3,7,8,9] (.aa [1,2,3,7,8] [w 17 (.fieldAddr ar [.r,.l] 3),w 18 (.load c8 17),m 19 8,w 20 (.indexAddr aH 18 19),w 21 (.fieldAddr aH [.l] 20),w 22 (.load .str 21),w 23 (.bz 22),w 9 (.ab 23)])) (.seq (.out [1,2,3,7,8,44] (.draw [1,2,3,7,8,9] [⟨m 24 2,[25,27,28],[24],[],false,[]⟩,⟨m 25 9,[24,27,28],[25],[],false,[]⟩,⟨w 26 (.bin .add 24 25),[27,28],[26],[0,1],false,[]⟩,⟨m 27 1,[24,25,26],[27],[],false,[]⟩,⟨w 28 (.bz 27),[24,25,26],[28],[3],false,[]⟩,⟨w 29 (.bin .leq 26 28),[],[29],[0,1,2,3,4],false,[]⟩,⟨m 30 29,[],[30],[0,1,2,3,4,5],false,[]⟩,⟨⟨some 31,.mv 1,some (30,true)⟩,[32,33,34,35,37,38,39,40,41,42],[31],[0,1,2,3,4,5,6],false,[]⟩,⟨⟨some 32,.mv 2,some (30,true)⟩,[31,33,34,35,37,38,39,40,41,42],[32],[0,1,2,3,4,5,6],false,[]⟩,⟨⟨some 33,.mv 2,some (30,true)⟩,[31,32,34,37,38,39,40,41,42],[33],[0,1,2,3,4,5,6],false,[]⟩,⟨⟨some 34,.mv 9,some (30,true)⟩,[31,32,33,37,38,39,40,41,42],[34],[0,1,2,3,4,5,6],false,[]⟩,⟨⟨some 35,.bin .add 33 34,some (30,true)⟩,[31,32,37,38,39,40,41,42],[35],[0,1,2,3,4,5,6,9,10],false,[]⟩,⟨⟨some 36,.iY 31 (some 32) (some 35),some (30,true)⟩,[37,38,39,40,41,42],[36],[0,1,2,3,4,5,6,7,8,9,10,11],false,[]⟩,⟨⟨some 37,.fieldAddr ar [.r,.l] 3,some (30,true)⟩,[31,32,33,34,35,36,39],[37],[0,1,2,3,4,5,6],false,[]⟩,⟨⟨some 38,.load c8 37,some (30,true)⟩,[31,32,33,34,35,36,39],[38],[0,1,2,3,4,5,6,13],false,[]⟩,⟨⟨some 39,.mv 8,some (30,true)⟩,[31,32,33,34,35,36,37,38],[39],[0,1,2,3,4,5,6],false,[]⟩,⟨⟨some 40,.indexAddr aH 38 39,some (30,true)⟩,[31,32,33,34,35,36],[40],[0,1,2,3,4,5,6,13,14,15],false,[]⟩,⟨⟨some 41,.fieldAddr aH [.l] 40,some (30,true)⟩,[31,32,33,34,35,36],[41],[0,1,2,3,4,5,6,13,14,15,16],false,[]⟩,⟨⟨some 42,.load .str 41,some (30,true)⟩,[31,32,33,34,35,36],[42],[0,1,2,3,4,5,6,13,14,15,16,17],false,[]⟩,⟨⟨some 43,.bin .eql 36 42,some (30,true)⟩,[],[43],[0,1,2,3,4,5,6,7,8,9,10,11,12,13,14,15,16,17,18],false,[]⟩,⟨w 44 (.pick 30 43 (.c .bool false)),[],[44],[0,1,2,3,4,5,6,7,8,9,10,11,12,13,14,15,16,17,18,19],false,[]⟩])) (.out [1,2,3,7,8] (.cond (.t 44) (.out [1,2,3,7,8] (.aa [1,2,3,7,8] [m 45 7,m 46 8,w 47 (.buildSlice 3 U2 [46]),w 48 (.append 3 U2 17592186044416 45 47),w 7 (.ab 48)])) .skip)))))) (.out [1,2,3,7,8] (.aa [1,2,3,7,8] [m 15 8,w 16 (.bin .add 15 (.c U2 1)),w 8 (.ab 16)]))))
def GA:AC:=.out [7] (.loop [1,2,3,7,8] Gz)
def Pf:AC:=.out [7] (.block 0 GA)
def Pg:AC:=(.seq Pe Pf)
def Ph:AC:=(.seq (.out [6,7] (.aa [7] [m 49 7,w 6 (.ab 49)])) .ret)
def AZ:AC:=(.seq Pg Ph)
def A0:AC:=(.seq (.out [1,2,3] (.aa [0,1,2] [w 3 (.box ar 0),w 6 (.ab (.nil 3 U2))])) (.seq (.out [1,2,3,7] (.aa [1,2,3] [w 7 (.ab (.nil 3 U2))])) AZ))
def Gy:AC:=A0
def d50:FD:={nargs:=3,body:=Gy,res:=[.t 6]}
def Og:AC:=.out [1,2,7,8,9] (.aa [1,2,7,8] [w 9 (.ab (.c U2 0))])
def FP:AC:=(.seq (.seq (.out [1,2,7,8,9,10,11,43] (.aa [1,2,7,8,9,10,11] [m 40 11,m 41 10,w 42 (.a8 41),w 43 (.bin .lss 40 42)])) (.out [1,2,7,8,9,10,11] (.cond (.t 43) .skip (.exit 2)))) (.seq (.out [1,2,7,8,9,10,11] (.block 3 (.out [1,2,7,8,9,10,11] (.draw [1,2,7,8,9,10,11] [⟨m 46 7,[47,48,49,50,51,52,53,54,55,56,57,58],[46],[],false,[]⟩,⟨m 47 9,[46,48,49,50,51,52,53,54,55,56,57],[47],[],false,[]⟩,⟨w 48 (.fieldAddr ar [.r,.l] 2),[46,47,50,51,52,53],[48],[],false,[]⟩,⟨w 49 (.load c8 48),[46,47,50,51,52,53],[49],[2],false,[]⟩,⟨m 50 10,[46,47,48,49,51],[50],[],false,[]⟩,⟨m 51 11,[46,47,48,49,50],[51],[],false,[]⟩,⟨w 52 (.indexAddr U2 50 51),[46,47,48,49],[52],[4,5],false,[]⟩,⟨w 53 (.load U2 52),[46,47,48,49],[53],[4,5,6],false,[]⟩,⟨w 54 (.indexAddr aH 49 53),[46,47],[54],[2,3,4,5,6,7],false,[]⟩,⟨w 55 (.fieldAddr aH [.l] 54),[46,47],[55],[2,3,4,5,6,7,8],false,[]⟩,⟨w 56 (.load .str 55),[46,47],[56],[2,3,4,5,6,7,8,9],false,[]⟩,⟨w 57 (.bz 56),[46,47],[57],[2,3,4,5,6,7,8,9,10],false,[]⟩,⟨w 58 (.bin .add 47 57),[46],[58],[1,2,3,4,5,6,7,8,9,10,11],false,[]⟩,⟨w 59 (.indexAddr .bool 46 58),[],[59],[0,1,2,3,4,5,6,7,8,9,10,11,12],false,[]⟩,⟨⟨none,.store .bool 59 (.c .bool true),none⟩,[],[7,46,59],[0,1,2,3,4,5,6,7,8,9,10,11,12,13],true,[]⟩])))) (.out [1,2,7,8,9,10,11] (.aa [1,2,7,8,9,10,11] [m 44 11,w 45 (.bin .add 44 (.c U2 1)),w 11 (.ab 45)]))))
def FQ:AC:=.out [1,2,7,8,9] (.loop [1,2,7,8,9,10,11] FP)
def AF:AC:=.out [1,2,7,8,9] (.block 2 FQ)
def FR:AC:=(.seq (.seq (.out [1,2,7,8,9,34] (.aa [1,2,7,8,9] [m 30 7,m 31 9,w 32 (.indexAddr .bool 30 31),w 33 (.load .bool 32),w 34 (.un .not 33)])) (.out [1,2,7,8,9] (.cond (.t 34) (.exit 1) .skip))) (.seq (.out [1,2,7,8,9] (.aa [1,2,7,9] [m 35 9,w 8 (.ab 35)])) (.seq (.out [1,2,7,8,9,10] (.aa [1,2,7,8,9] [w 36 (.load ar 2),m 37 1,m 38 9,w 39 (.call 50 [36,37,38]),w 10 (.ab 39)])) (.seq (.out [1,2,7,8,9,10,11] (.aa [1,2,7,8,9,10] [w 11 (.ab (.c U2 0))])) AF))))
def FT:AC:=.out [1,2,7,8,9] (.block 1 FR)
def Ol:AC:=.out [1,2,7,8,9] (.aa [1,2,7,8,9] [m 28 9,w 29 (.bin .add 28 (.c U2 1)),w 9 (.ab 29)])
def AG:AC:=(.seq FT Ol)
def uB:AC:=(.seq (.seq (.out [1,2,7,8,9,27] (.aa [1,2,7,8,9] [m 24 9,m 25 1,w 26 (.bz 25),w 27 (.bin .leq 24 26)])) (.out [1,2,7,8,9] (.cond (.t 27) .skip (.exit 0)))) AG)
def FU:AC:=.out [8] (.loop [1,2,7,8,9] uB)
def Oh:AC:=.out [8] (.block 0 FU)
def Oi:AC:=(.seq Og Oh)
def Oj:AC:=(.seq (.out [4,5] (.aa [8] [m 60 8,w 4 (.ab 60),w 5 (.ab (.c U2 0))])) .ret)
def AD:AC:=(.seq Oi Oj)
def AE:AC:=(.seq (.out [1,2] (.aa [0,1] [w 2 (.box ar 0),w 4 (.ab (.c U2 0)),w 5 (.ab (.c U2 0))])) (.seq (.seq (.out [1,2,6] (.aa [1,2] [w 12 (.load ar 2),m 13 1,w 14 (.call 48 [12,13]),w 6 (.ab 14)])) (.seq (.out [1,2,6,16] (.aa [1,2,6] [m 15 6,w 16 (.bin .neq 15 (.c U2 0))])) (.out [1,2,4,5] (.cond (.t 16) (.seq (.out [4,5] (.aa [6] [m 17 6,w 4 (.ab (.c U2 0)),w 5 (.ab 17)])) .ret) .skip)))) (.seq (.out [1,2,7] (.aa [1,2] [m 18 1,w 19 (.bz 18),w 20 (.bin .add 19 (.c U2 1)),w 21 (.mkSlice 4 .bool 140737488355328 20 20),w 7 (.ab 21)])) (.seq (.out [1,2,7] (.aa [1,2,7] [m 22 7,w 23 (.indexAddr .bool 22 (.c U2 0)),⟨none,.store .bool 23 (.c .bool true),none⟩])) (.seq (.out [1,2,7,8] (.aa [1,2,7] [w 8 (.ab (.c U2 0))])) AD)))))
def FO:AC:=AE
def d21:FD:={nargs:=2,body:=FO,res:=[.t 4,.t 5]}
def N5:AC:=(.seq (.out [1,2] (.aa [0,1] [w 2 (.box ar 0),w 4 (.ab (.c U2 0)),w 5 (.ab (.c U2 0))])) (.seq (.out [6,7] (.aa [1,2] [w 9 (.load ar 2),m 10 1,w 11 (.call 16 [9,10]),m 8 11,w 12 (.extract 8 0),w 13 (.extract 8 1),w 6 (.ab 12),w 7 (.ab 13)])) (.seq (.out [4,5] (.aa [6,7] [m 14 6,w 15 (.a8 14),m 16 7,w 4 (.ab 15),w 5 (.ab 16)])) .ret)))
def FE:AC:=N5
def d18:FD:={nargs:=2,body:=FE,res:=[.t 4,.t 5]}
def Pu:AC:=(.seq (.out [1,2] (.aa [0,1] [w 2 (.box ar 0),w 4 (.ab (.c .bool false))])) (.seq (.seq (.out [1,2,18] (.aa [1,2] [w 11 (.call 11 []),w 12 (.un .not 11),m 13 12,⟨some 14,.load ar 2,some (13,false)⟩,⟨some 15,.mv 1,some (13,false)⟩,⟨some 16,.call 12 [14,15,(.nil 3 U2)],some (13,false)⟩,⟨some 17,.un .not 16,some (13,false)⟩,w 18 (.pick 13 (.c .bool true) 17)])) (.out [1,2,4] (.cond (.t 18) (.seq (.out [4] (.aa [] [w 19 (.call 11 []),w 4 (.ab 19)])) .ret) .skip))) (.seq (.out [1,2,5,6] (.aa [1,2] [w 21 (.load ar 2),m 22 1,w 23 (.call 20 [21,22]),m 20 23,w 24 (.extract 20 0),w 25 (.extract 20 1),w 5 (.ab 24),w 6 (.ab 25)])) (.seq (.out [1,2,5,6,7,8] (.aa [1,2,5,6] [w 27 (.load ar 2),m 28 1,w 29 (.call 21 [27,28]),m 26 29,w 30 (.extract 26 0),w 31 (.extract 26 1),w 7 (.ab 30),w 8 (.ab 31)])) (.seq (.seq (.out [1,2,5,6,39] (.aa [1,2,5,6,7,8] [m 32 6,m 33 8,w 34 (.bin .neq 32 33),m 35 34,⟨some 36,.mv 5,some (35,false)⟩,⟨some 37,.mv 7,some (35,false)⟩,⟨some 38,.bin .neq 36 37,some (35,false)⟩,w 39 (.pick 35 (.c .bool true) 38)])) (.out [1,2,4,5,6] (.cond (.t 39) (.seq (.out [4] (.aa [] [w 4 (.ab (.c .bool false))])) .ret) .skip))) (.seq (.out [1,5,6,10] (.aa [1,2,5,6] [w 41 (.load ar 2),m 42 1,w 43 (.call 18 [41,42]),m 40 43,w 44 (.extract 40 0),w 45 (.extract 40 1),w 9 (.ab 44),w 10 (.ab 45)])) (.seq (.out [4] (.aa [1,5,6,10] [m 46 10,w 47 (.bin .neq 46 (.c U2 0)),m 48 47,⟨some 49,.mv 10,some (48,true)⟩,⟨some 50,.bin .neq 49 (.c U2 3),some (48,true)⟩,w 51 (.pick 48 50 (.c .bool false)),m 52 51,⟨some 53,.mv 6,some (52,false)⟩,⟨some 54,.bin .neq 53 (.c U2 0),some (52,false)⟩,w 55 (.pick 52 (.c .bool true) 54),m 56 55,⟨some 57,.mv 5,some (56,false)⟩,⟨some 58,.mv 1,some (56,false)⟩,⟨some 59,.bz 58,some (56,false)⟩,⟨some 60,.bin .eql 57 59,some (56,false)⟩,w 61 (.pick 56 (.c .bool true) 60),w 4 (.ab 61)])) .ret)))))))
def c5:AC:=Pu
def d5:FD:={nargs:=2,body:=c5,res:=[.t 4]}
def table:Table:=fun f=>match f with
 | 5=>some d5
 | 11=>some d11
 | 12=>some d12
 | 13=>some d13
 | 15=>some d15
 | 16=>some d16
 | 18=>some d18
 | 19=>some d19
 | 20=>some d20
 | 21=>some d21
 | 24=>some d24
 | 28=>some d28
 | 34=>some d34
 | 35=>some d35
 | 37=>some d37
 | 38=>some d38
 | 40=>some d40
 | 44=>some d44
 | 45=>some d45
 | 46=>some d46
 | 47=>some d47
 | 48=>some d48
 | 50=>some d50
 | 53=>some d53
 | 54=>some d54
 | 55=>some d55
 | 57=>some d57
 | 59=>some d59
 | 60=>some d60
 | 66=>some d66
 | 67=>some d67
 | 69=>some d69
 | 70=>some d70
 | 71=>some d71
 | 72=>some d72
 | 73=>some d73
 | 74=>some d74
 | 77=>some d77
 | 78=>some d78
 | 83=>some d83
 | 86=>some d86
 | 87=>some d87
 | 90=>some d90
 | 91=>some d91
 | 92=>some d92
 | 93=>some d93
 | 94=>some d94
 | 95=>some d95
 | 96=>some d96
 | 97=>some d97
 | 98=>some d98
 | 99=>some d99
 | 110=>some d110
 | 111=>some d111
 | 114=>some d114
 | 115=>some d115
 | 116=>some d116
 | 117=>some d117
 | 118=>some d118
 | 119=>some d119
 | 120=>some d120
 | 121=>some d121
 | 122=>some d122
 | 123=>some d123
 | 124=>some d124
 | 125=>some d125
 | 126=>some d126
 | 127=>some d127
 | 135=>some d135
 | 136=>some d136
 | 137=>some d137
 | 138=>some d138
 | 139=>some d139
 | 140=>some d140
 | 141=>some d141
 | 142=>some d142
 | 143=>some d143
 | 144=>some d144
 | 148=>some d148
 | 149=>some d149
 | 150=>some d150
 | 151=>some d151
 | 152=>some d152
 | 153=>some d153
 | 154=>some d154
 | 155=>some d155
 | 158=>some d158
 | 159=>some d159
 | 160=>some d160
 | _=>none
end Go.Fw.L19
