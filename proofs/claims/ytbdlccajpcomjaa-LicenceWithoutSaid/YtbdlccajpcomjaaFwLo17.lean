/- Own work. -/
import Derived.Test.YtbdlccajpcomjaaFwB1
set_option linter.unusedVariables false
set_option linter.unusedSimpArgs false
namespace Go.Fw.L19
open Go Go.Fw
abbrev U0:Ty:=(.sl .str)
abbrev U1:Ty:=(.int .u8)
abbrev V0:Type:=(List Int)
abbrev U2:Ty:=(.int .i64)
abbrev V1:Type:=(List UInt8)
abbrev V2:Type:=(Int×Bool)
abbrev V3:Type:=(V1)
abbrev U3:Ty:=(.sl U1)
abbrev U4:Ty:=(.pair .bool .unit)
abbrev V4:Type:=(List V1)
abbrev V5:Type:=(V1×Int)
abbrev V6:Type:=(V4)
abbrev U5:Ty:=(.pair U0 .unit)
abbrev U6:Ty:=(.pair U1 .unit)
abbrev U7:Ty:=(.pair U2 .unit)
abbrev V7:Type:=(V4×Unit)
abbrev V8:Type:=((Int×Unit)→Option Bool)
abbrev U8:Ty:=(.fn U6 .bool)
abbrev V9:Type:=(Int×V7)
abbrev U9:Ty:=(.pair .str U7)
abbrev U10:Ty:=(.pair U2 U4)
abbrev U11:Ty:=(.pair U2 U5)
abbrev V10:Type:=(Int×V9)
abbrev V11:Type:=(List V10)
abbrev V12:Type:=(V11)
abbrev U12:Ty:=(.pair U2 U9)
abbrev V13:Type:=(V11×Unit)
abbrev U13:Ty:=(.pair U2 U11)
abbrev U14:Ty:=(.sl U12)
abbrev V14:Type:=((V10×Unit)→Option Bool)
abbrev U15:Ty:=(.sl U13)
abbrev V15:Type:=(V1×V13)
abbrev U16:Ty:=(.pair U13 .unit)
abbrev V16:Type:=(V15)
abbrev U17:Ty:=(.pair U15 .unit)
abbrev U18:Ty:=(.pair .str U17)
abbrev U19:Ty:=(.pair U14 U10)
instance (n:Nat):OfNat Od n:=⟨.t n⟩
abbrev w (d:Nat) (o:AOp):AI:={dst:=some d,op:=o}
abbrev m (d:Nat) (k:Nat):AI:={dst:=some d,op:=.mv (.t k)}
def c26_2:AC:=.out [0,1,5,6] (.reg [0,1,5] [w 6 (.asg (.c U2 0))])
def c26_3:AC:=.out [0,1,5,6,15] (.reg [0,1,5,6] [m 7 6,m 8 0,w 9 (.lenL 8),w 10 (.bin .lss 7 9),m 11 10,⟨some 12,.mv 5,some (11,true)⟩,⟨some 13,.mv 1,some (11,true)⟩,⟨some 14,.bin .leq 12 13,some (11,true)⟩,w 15 (.pick 11 14 (.c .bool false))])
def c26_4:AC:=.out [0,1,5,6] (.cond (.t 15) .skip (.exit 0))
def c26_5:AC:=.out [0,1,5,6] (.reg [0,1,5,6] [m 18 5,w 19 (.bin .add 18 (.c U2 1)),m 20 0,m 21 6,w 22 (.indexAddr .str 20 21),w 23 (.load .str 22),w 24 (.lenS 23),w 25 (.bin .add 19 24),w 5 (.asg 25)])
def c26_6:AC:=.out [0,1,5,6] (.block 1 c26_5)
def c26_7:AC:=.out [0,1,5,6] (.reg [0,1,5,6] [m 16 6,w 17 (.bin .add 16 (.c U2 1)),w 6 (.asg 17)])
def c26_8:AC:=(.seq (.seq c26_3 c26_4) (.seq c26_6 c26_7))
def c26_9:AC:=.out [5] (.loop [0,1,5,6] c26_8)
def c26_10:AC:=.out [5] (.block 0 c26_9)
def c26_11:AC:=.out [4] (.reg [5] [m 26 5,w 4 (.asg 26)])
def c26_12:AC:=(.seq (.out [0,1] (.reg [0,1] [w 4 (.asg (.c U2 0))])) (.seq (.out [0,1,5] (.reg [0,1] [w 5 (.asg (.c U2 0))])) (.seq (.seq c26_2 c26_10) (.seq c26_11 .ret))))
def c26:AC:=c26_12
def d26:FD:={nargs:=2,body:=c26,res:=[.t 4]}
def c8_2:AC:=.out [1,3,4] (.reg [1,3] [w 4 (.asg (.c U2 0))])
def c8_3:AC:=.out [1,3,4,16] (.reg [1,3,4] [m 8 4,w 9 (.fieldAddr U18 [.r,.l] 1),w 10 (.load U15 9),w 11 (.lenL 10),w 12 (.bin .lss 8 11),m 13 12,⟨some 14,.mv 4,some (13,true)⟩,⟨some 15,.bin .lss 14 (.c U2 50),some (13,true)⟩,w 16 (.pick 13 15 (.c .bool false))])
def c8_4:AC:=.out [1,3,4] (.cond (.t 16) .skip (.exit 0))
def c8_5:AC:=.out [1,3,4] (.reg [1,3,4] [m 19 3,w 20 (.fieldAddr U18 [.r,.l] 1),w 21 (.load U15 20),m 22 4,w 23 (.indexAddr U13 21 22),w 24 (.fieldAddr U13 [.r,.r,.l] 23),w 25 (.load U0 24),w 26 (.call 26 [25,(.c U2 1500)]),w 27 (.bin .add 19 26),w 3 (.asg 27)])
def c8_6:AC:=.out [1,3,4] (.block 1 c8_5)
def c8_7:AC:=.out [1,3,4] (.reg [1,3,4] [m 17 4,w 18 (.bin .add 17 (.c U2 1)),w 4 (.asg 18)])
def c8_8:AC:=(.seq (.seq c8_3 c8_4) (.seq c8_6 c8_7))
def c8_9:AC:=.out [1,3] (.loop [1,3,4] c8_8)
def c8_10:AC:=.out [1,3] (.block 0 c8_9)
def c8_11:AC:=.out [2] (.reg [1,3] [w 28 (.fieldAddr U18 [.r,.l] 1),w 29 (.load U15 28),w 30 (.lenL 29),w 31 (.bin .leq 30 (.c U2 40)),m 32 31,⟨some 33,.mv 3,some (32,true)⟩,⟨some 34,.bin .leq 33 (.c U2 1500),some (32,true)⟩,w 35 (.pick 32 34 (.c .bool false)),w 2 (.asg 35)])
def c8_12:AC:=(.seq (.out [1] (.reg [0] [w 1 (.box U18 0),w 2 (.asg (.c .bool false))])) (.seq (.out [1,3] (.reg [1] [w 5 (.fieldAddr U18 [.l] 1),w 6 (.load .str 5),w 7 (.lenS 6),w 3 (.asg 7)])) (.seq (.seq c8_2 c8_10) (.seq c8_11 .ret))))
def c8:AC:=c8_12
def d8:FD:={nargs:=1,body:=c8,res:=[.t 2]}
def c19_2:AC:=.out [1,2,10,11] (.reg [1,2] [w 8 (.fieldAddr U18 [.r,.l] 1),w 9 (.load U15 8),w 10 (.lenL 9),w 11 (.mv (.c U2 0))])
def c19_3:AC:=.out [1,2,10,11,12] (.reg [1,2,10,11] [w 12 (.bin .lss 11 10)])
def c19_4:AC:=.out [1,2,10,11] (.cond (.t 12) .skip (.exit 0))
def c19_7:AC:=(.seq (.out [1,2,3,10,11] (.reg [1,2,10,11] [m 13 11,w 3 (.asg 13)])) (.out [1,2,10,11] (.draw [1,2,3,10,11] [⟨w 14 (.fieldAddr U18 [.r,.l] 1),[16,17,18,19,20,21,22,23],[14],[],false,[]⟩,⟨w 15 (.load U15 14),[16,17,18,19,20,21,22,23],[15],[0],false,[]⟩,⟨m 16 3,[14,15,17,18,19,20,21,22,23],[16],[],false,[]⟩,⟨w 17 (.fieldAddr U18 [.r,.l] 1),[14,15,16,19],[17],[],false,[]⟩,⟨w 18 (.load U15 17),[14,15,16,19],[18],[3],false,[]⟩,⟨m 19 3,[14,15,16,17,18],[19],[],false,[]⟩,⟨w 20 (.indexAddr U13 18 19),[14,15,16],[20],[3,4,5],false,[]⟩,⟨w 21 (.fieldAddr U13 [.r,.r,.l] 20),[14,15,16],[21],[3,4,5,6],false,[]⟩,⟨w 22 (.load U0 21),[14,15,16],[22],[3,4,5,6,7],false,[]⟩,⟨w 23 (.call 48 [22]),[14,15,16],[23],[3,4,5,6,7,8],false,[]⟩,⟨w 24 (.indexAddr U13 15 16),[],[24],[0,1,2,3,4,5,6,7,8,9],false,[]⟩,⟨w 25 (.fieldAddr U13 [.r,.r,.l] 24),[],[25],[0,1,2,3,4,5,6,7,8,9,10],false,[]⟩,⟨⟨none,.store U0 25 23,none⟩,[],[1,14,15,24,25],[0,1,2,3,4,5,6,7,8,9,10,11],true,[]⟩])))
def c19_8:AC:=.out [1,2,10,11] (.block 1 c19_7)
def c19_9:AC:=.out [1,2,10,11] (.reg [1,2,10,11] [w 26 (.bin .add 11 (.c U2 1)),m 11 26])
def c19_10:AC:=(.seq c19_3 (.seq c19_4 (.seq c19_8 c19_9)))
def c19_11:AC:=.out [1,2] (.loop [1,2,10,11] c19_10)
def c19_12:AC:=.out [1,2] (.block 0 c19_11)
def c19_13:AC:=.out [2] (.reg [1,2] [w 27 (.load U18 1),⟨none,.store U18 2 27,none⟩])
def c19_14:AC:=(.seq (.out [1,2] (.reg [0] [w 1 (.box U18 0),w 2 (.alloc U18 (.pair .no (.pair (.own true 57 .no) .no)))])) (.seq (.out [1,2] (.reg [1,2] [w 4 (.fieldAddr U18 [.r,.l] 1),w 5 (.load U15 4),w 6 (.call 47 [5]),w 7 (.fieldAddr U18 [.r,.l] 1),⟨none,.store U15 7 6,none⟩])) (.seq (.seq c19_2 c19_12) (.seq c19_13 .ret))))
def c19:AC:=c19_14
def d19:FD:={nargs:=1,body:=c19,res:=[.cell 2 U18]}
def c46_2:AC:=.out [3,6,7,8] (.reg [0,3] [m 6 0,w 7 (.lenL 6),w 8 (.mv (.c U2 0))])
def c46_3:AC:=.out [3,6,7,8,9] (.reg [3,6,7,8] [w 9 (.bin .lss 8 7)])
def c46_4:AC:=.out [3,6,7,8] (.cond (.t 9) .skip (.exit 0))
def c46_8:AC:=(.seq (.out [3,5,6,7,8] (.reg [3,6,7,8] [w 10 (.indexAddr U13 6 8),w 11 (.load U13 10),w 5 (.alloc U13 (.pair .no (.pair .no (.pair (.own true 9 .no) .no)))),⟨none,.store U13 5 11,none⟩])) (.seq (.out [3,5,6,7,8] (.reg [3,5,6,7,8] [w 12 (.fieldAddr U13 [.r,.r,.l] 5),w 13 (.load U0 12),w 14 (.call 48 [13]),w 15 (.fieldAddr U13 [.r,.r,.l] 5),⟨none,.store U0 15 14,none⟩])) (.out [3,6,7,8] (.reg [3,5,6,7,8] [m 16 3,w 17 (.load U13 5),w 18 (.buildSlice 57 U13 [17]),w 19 (.append 57 U13 3518437208883 16 18),w 3 (.asg 19)]))))
def c46_9:AC:=.out [3,6,7,8] (.block 1 c46_8)
def c46_10:AC:=.out [3,6,7,8] (.reg [3,6,7,8] [w 20 (.bin .add 8 (.c U2 1)),m 8 20])
def c46_11:AC:=(.seq c46_3 (.seq c46_4 (.seq c46_9 c46_10)))
def c46_12:AC:=.out [3] (.loop [3,6,7,8] c46_11)
def c46_13:AC:=.out [3] (.block 0 c46_12)
def c46_14:AC:=.out [2,3] (.reg [3] [m 21 3,w 2 (.asg 21)])
def c46_15:AC:=(.seq (.out [0] (.reg [0] [w 2 (.asg (.nil 57 U13))])) (.seq (.out [0,3] (.reg [0] [w 3 (.asg (.nil 57 U13))])) (.seq (.seq c46_2 c46_13) (.seq c46_14 .ret))))
def c46:AC:=c46_15
def d46:FD:={nargs:=1,body:=c46,res:=[.t 2]}
def c52_2:AC:=(.seq (.out [1,2] (.reg [0,1] [w 2 (.box U13 0),w 3 (.asg (.c .bool false))])) (.seq (.out [3] (.reg [1,2] [w 4 (.fieldAddr U13 [.l] 2),w 5 (.load U2 4),w 6 (.load U2 1),w 7 (.bin .eql 5 6),w 3 (.asg 7)])) .ret))
def c52:AC:=c52_2
def d52:FD:={nargs:=2,body:=c52,res:=[.t 3]}
def c22_2:AC:=(.seq (.out [2,3,4] (.reg [0,1] [w 2 (.box U18 0),w 3 (.box U2 1),w 4 (.alloc U18 (.pair .no (.pair (.own true 57 .no) .no)))])) (.seq (.out [4] (.draw [2,3,4] [⟨w 5 (.fieldAddr U18 [.l] 2),[7,8,9,10,11],[5],[],false,[9]⟩,⟨w 6 (.load .str 5),[7,8,9,10,11],[6],[0],false,[9]⟩,⟨w 7 (.fieldAddr U18 [.r,.l] 2),[5,6,10],[7],[],false,[9]⟩,⟨w 8 (.load U15 7),[5,6,10],[8],[2],false,[9]⟩,⟨w 9 (.call 46 [8]),[5,6,10],[9],[2,3],false,[9]⟩,⟨w 10 (.mkfn 52 U16 .bool [3]),[5,6,7,8,9],[10],[],false,[9]⟩,⟨w 11 (.hod 51 9 10),[5,6],[9,11],[2,3,4,5],false,[9]⟩,⟨w 12 (.build U18 [([.l],6),([.r,.l],11)]),[],[12],[0,1,2,3,4,5,6],true,[9]⟩,⟨⟨none,.store U18 4 12,none⟩,[],[4],[0,1,2,3,4,5,6,7],true,[9]⟩])) .ret))
def c22:AC:=c22_2
def d22:FD:={nargs:=2,body:=c22,res:=[.cell 4 U18]}
def c23_2:AC:=.out [1,2,4,5,6] (.reg [1,2,4,5] [w 6 (.asg (.c U2 0))])
def c23_3:AC:=.out [1,2,4,5,6,14] (.reg [1,2,4,5,6] [m 10 6,w 11 (.fieldAddr U18 [.r,.l] 2),w 12 (.load U15 11),w 13 (.lenL 12),w 14 (.bin .lss 10 13)])
def c23_4:AC:=.out [1,2,4,5,6] (.cond (.t 14) .skip (.exit 0))
def c23_5:AC:=.out [1,2,4,5,6,24] (.reg [1,2,4,5,6] [w 17 (.fieldAddr U18 [.r,.l] 2),w 18 (.load U15 17),m 19 6,w 20 (.indexAddr U13 18 19),w 21 (.fieldAddr U13 [.l] 20),w 22 (.load U2 21),m 23 1,w 24 (.bin .neq 22 23)])
def c23_6:AC:=.out [1,2,4,5,6] (.draw [1,2,4,5,6] [⟨w 25 (.fieldAddr U18 [.r,.l] 5),[27,28,29,30,31,32],[25],[],false,[]⟩,⟨w 26 (.load U15 25),[27,28,29,30,31,32],[26],[0],false,[]⟩,⟨w 27 (.fieldAddr U18 [.r,.l] 2),[25,26,29],[27],[],false,[]⟩,⟨w 28 (.load U15 27),[25,26,29],[28],[2],false,[]⟩,⟨m 29 6,[25,26,27,28],[29],[],false,[]⟩,⟨w 30 (.indexAddr U13 28 29),[25,26],[30],[2,3,4],false,[]⟩,⟨w 31 (.load U13 30),[25,26],[31],[2,3,4,5],false,[]⟩,⟨w 32 (.buildSlice 57 U13 [31]),[25,26],[32],[2,3,4,5,6],false,[]⟩,⟨w 33 (.append 57 U13 3518437208883 26 32),[],[33],[0,1,2,3,4,5,6,7],true,[]⟩,⟨w 34 (.fieldAddr U18 [.r,.l] 5),[],[34],[0,1,2,3,4,5,6,7,8],false,[]⟩,⟨⟨none,.store U15 34 33,none⟩,[],[5,34],[0,1,2,3,4,5,6,7,8,9],true,[]⟩])
def c23_7:AC:=.out [1,2,4,5,6] (.cond (.t 24) c23_6 .skip)
def c23_8:AC:=.out [1,2,4,5,6] (.block 1 (.seq c23_5 c23_7))
def c23_9:AC:=.out [1,2,4,5,6] (.reg [1,2,4,5,6] [m 15 6,w 16 (.bin .add 15 (.c U2 1)),w 6 (.asg 16)])
def c23_10:AC:=(.seq (.seq c23_3 c23_4) (.seq c23_8 c23_9))
def c23_11:AC:=.out [4,5] (.loop [1,2,4,5,6] c23_10)
def c23_12:AC:=.out [4,5] (.block 0 c23_11)
def c23_13:AC:=.out [4] (.reg [4,5] [w 35 (.load U18 5),⟨none,.store U18 4 35,none⟩])
def c23_14:AC:=(.seq (.out [1,2,4] (.reg [0,1] [w 2 (.box U18 0),w 4 (.alloc U18 (.pair .no (.pair (.own true 57 .no) .no)))])) (.seq (.out [1,2,4,5] (.reg [1,2,4] [w 7 (.fieldAddr U18 [.l] 2),w 8 (.load .str 7),w 9 (.buildN U18 (.pair .no (.pair (.own true 57 .no) .no)) [([.l],8)]),w 5 (.alloc U18 (.pair .no (.pair (.own true 57 .no) .no))),⟨none,.store U18 5 9,none⟩])) (.seq (.seq c23_2 c23_12) (.seq c23_13 .ret))))
def c23:AC:=c23_14
def d23:FD:={nargs:=2,body:=c23,res:=[.cell 4 U18]}
def c41_0:AC:=.out [0,1] (.reg [0,1] [w 4 (.asg (.c .bool false))])
def c41_1:AC:=.out [0,1,10] (.reg [0,1] [m 6 0,w 7 (.lenL 6),m 8 1,w 9 (.lenL 8),w 10 (.bin .neq 7 9)])
def c41_2:AC:=.out [4] (.reg [] [w 4 (.asg (.c .bool false))])
def c41_3:AC:=.out [0,1,4] (.cond (.t 10) (.seq c41_2 .ret) .skip)
def c41_4:AC:=.out [0,1,5] (.reg [0,1] [w 5 (.asg (.c U2 0))])
def c41_5:AC:=.out [0,1,5,14] (.reg [0,1,5] [m 11 5,m 12 0,w 13 (.lenL 12),w 14 (.bin .lss 11 13)])
def c41_6:AC:=.out [0,1,5] (.cond (.t 14) .skip (.exit 0))
def c41_7:AC:=.out [0,1,5,25] (.draw [0,1,5] [⟨m 17 0,[18,21,22,23,24],[17],[],false,[]⟩,⟨m 18 5,[17,21,22,23,24],[18],[],false,[]⟩,⟨w 19 (.indexAddr .str 17 18),[21,22,23,24],[19],[0,1],false,[]⟩,⟨w 20 (.load .str 19),[21,22,23,24],[20],[0,1,2],false,[]⟩,⟨m 21 1,[17,18,19,20,22],[21],[],false,[]⟩,⟨m 22 5,[17,18,19,20,21],[22],[],false,[]⟩,⟨w 23 (.indexAddr .str 21 22),[17,18,19,20],[23],[4,5],false,[]⟩,⟨w 24 (.load .str 23),[17,18,19,20],[24],[4,5,6],false,[]⟩,⟨w 25 (.bin .neq 20 24),[],[25],[0,1,2,3,4,5,6,7],false,[]⟩])
def c41_8:AC:=.out [4] (.reg [] [w 4 (.asg (.c .bool false))])
def c41_9:AC:=.out [0,1,4,5] (.cond (.t 25) (.seq c41_8 .ret) .skip)
def c41_10:AC:=.out [0,1,4,5] (.block 1 (.seq c41_7 c41_9))
def c41_11:AC:=.out [0,1,5] (.reg [0,1,5] [m 15 5,w 16 (.bin .add 15 (.c U2 1)),w 5 (.asg 16)])
def c41_12:AC:=(.seq (.seq c41_5 c41_6) (.seq c41_10 c41_11))
def c41_13:AC:=.out [4] (.loop [0,1,5] c41_12)
def c41_14:AC:=.out [4] (.block 0 c41_13)
def c41_15:AC:=.out [4] (.reg [] [w 4 (.asg (.c .bool true))])
def c41_16:AC:=(.seq c41_0 (.seq (.seq c41_1 c41_3) (.seq (.seq c41_4 c41_14) (.seq c41_15 .ret))))
def c41:AC:=c41_16
def d41:FD:={nargs:=2,body:=c41,res:=[.t 4]}
def c14_0:AC:=.out [2,3] (.reg [0,1] [w 2 (.box U18 0),w 3 (.box U18 1),w 4 (.asg (.c .bool false))])
def c14_1:AC:=.out [2,3,21] (.reg [2,3] [w 8 (.fieldAddr U18 [.l] 2),w 9 (.load .str 8),w 10 (.fieldAddr U18 [.l] 3),w 11 (.load .str 10),w 12 (.bin .neq 9 11),m 13 12,⟨some 14,.fieldAddr U18 [.r,.l] 2,some (13,false)⟩,⟨some 15,.load U15 14,some (13,false)⟩,⟨some 16,.lenL 15,some (13,false)⟩,⟨some 17,.fieldAddr U18 [.r,.l] 3,some (13,false)⟩,⟨some 18,.load U15 17,some (13,false)⟩,⟨some 19,.lenL 18,some (13,false)⟩,⟨some 20,.bin .neq 16 19,some (13,false)⟩,w 21 (.pick 13 (.c .bool true) 20)])
def c14_2:AC:=.out [4] (.reg [] [w 4 (.asg (.c .bool false))])
def c14_3:AC:=.out [2,3,4] (.cond (.t 21) (.seq c14_2 .ret) .skip)
def c14_4:AC:=.out [2,3,5] (.reg [2,3] [w 5 (.asg (.c U2 0))])
def c14_5:AC:=.out [2,3,5,26] (.reg [2,3,5] [m 22 5,w 23 (.fieldAddr U18 [.r,.l] 2),w 24 (.load U15 23),w 25 (.lenL 24),w 26 (.bin .lss 22 25)])
def c14_6:AC:=.out [2,3,5] (.cond (.t 26) .skip (.exit 0))
def c14_9:AC:=.out [4] (.reg [] [w 4 (.asg (.c .bool false))])
def c14_10:AC:=.out [2,3,4,5] (.cond (.t 58) (.seq c14_9 .ret) .skip)
def c14_11:AC:=(.seq (.out [2,3,5,6,7] (.draw [2,3,5] [⟨w 29 (.fieldAddr U18 [.r,.l] 2),[6,7,31,34,35,36,37,38],[29],[],false,[]⟩,⟨w 30 (.load U15 29),[6,7,31,34,35,36,37,38],[30],[0],false,[]⟩,⟨m 31 5,[6,7,29,30,34,35,36,37,38],[31],[],false,[]⟩,⟨w 32 (.indexAddr U13 30 31),[6,7,34,35,36,37,38],[32],[0,1,2],false,[]⟩,⟨w 33 (.load U13 32),[6,7,34,35,36,37,38],[33],[0,1,2,3],false,[]⟩,⟨w 34 (.fieldAddr U18 [.r,.l] 3),[6,7,29,30,31,32,33,36],[34],[],false,[]⟩,⟨w 35 (.load U15 34),[6,7,29,30,31,32,33,36],[35],[5],false,[]⟩,⟨m 36 5,[6,7,29,30,31,32,33,34,35],[36],[],false,[]⟩,⟨w 37 (.indexAddr U13 35 36),[6,7,29,30,31,32,33],[37],[5,6,7],false,[]⟩,⟨w 38 (.load U13 37),[6,7,29,30,31,32,33],[38],[5,6,7,8],false,[]⟩,⟨w 6 (.alloc U13 .no),[7,29,30,31,32,33,34,35,36,37,38],[6],[],false,[]⟩,⟨w 7 (.alloc U13 (.pair .no (.pair .no (.pair (.own true 9 .no) .no)))),[6,29,30,31,32,33,34,35,36,37,38],[7],[],false,[]⟩,⟨⟨none,.store U13 6 33,none⟩,[34,35,36,37,38],[6],[0,1,2,3,4,10,11],false,[]⟩,⟨⟨none,.store U13 7 38,none⟩,[],[7],[0,1,2,3,4,5,6,7,8,9,10,11,12],true,[]⟩])) (.seq (.out [2,3,5,58] (.reg [2,3,5,6,7] [w 39 (.fieldAddr U13 [.l] 6),w 40 (.load U2 39),w 41 (.fieldAddr U13 [.l] 7),w 42 (.load U2 41),w 43 (.bin .neq 40 42),m 44 43,⟨some 45,.fieldAddr U13 [.r,.l] 6,some (44,false)⟩,⟨some 46,.load U2 45,some (44,false)⟩,⟨some 47,.fieldAddr U13 [.r,.l] 7,some (44,false)⟩,⟨some 48,.load U2 47,some (44,false)⟩,⟨some 49,.bin .neq 46 48,some (44,false)⟩,w 50 (.pick 44 (.c .bool true) 49),m 51 50,⟨some 52,.fieldAddr U13 [.r,.r,.l] 6,some (51,false)⟩,⟨some 53,.load U0 52,some (51,false)⟩,⟨some 54,.fieldAddr U13 [.r,.r,.l] 7,some (51,false)⟩,⟨some 55,.load U0 54,some (51,false)⟩,⟨some 56,.call 41 [53,55],some (51,false)⟩,⟨some 57,.un .not 56,some (51,false)⟩,w 58 (.pick 51 (.c .bool true) 57)])) c14_10))
def c14_12:AC:=.out [2,3,4,5] (.block 1 c14_11)
def c14_13:AC:=.out [2,3,5] (.reg [2,3,5] [m 27 5,w 28 (.bin .add 27 (.c U2 1)),w 5 (.asg 28)])
def c14_14:AC:=(.seq (.seq c14_5 c14_6) (.seq c14_12 c14_13))
def c14_15:AC:=.out [4] (.loop [2,3,5] c14_14)
def c14_16:AC:=.out [4] (.block 0 c14_15)
def c14_17:AC:=.out [4] (.reg [] [w 4 (.asg (.c .bool true))])
def c14_18:AC:=(.seq c14_0 (.seq (.seq c14_1 c14_3) (.seq (.seq c14_4 c14_16) (.seq c14_17 .ret))))
def c14:AC:=c14_18
def d14:FD:={nargs:=2,body:=c14,res:=[.t 4]}
def c44_2:AC:=.out [3,8,9,10] (.reg [3] [m 8 3,w 9 (.lenL 8),w 10 (.mv (.c U2 0))])
def c44_3:AC:=.out [3,8,9,10,11] (.reg [3,8,9,10] [w 11 (.bin .lss 10 9)])
def c44_4:AC:=.out [3,8,9,10] (.cond (.t 11) .skip (.exit 0))
def c44_7:AC:=.out [3,8,9,10] (.reg [3,4,5,8,9,10] [m 21 3,m 22 4,m 23 5,w 24 (.bin .sub 23 (.c U1 65)),w 25 (.bin .add 24 (.c U1 97)),w 26 (.indexAddr U1 21 22),⟨none,.store U1 26 25,none⟩])
def c44_8:AC:=.out [3,8,9,10] (.cond (.t 20) c44_7 .skip)
def c44_9:AC:=(.seq (.out [3,4,5,8,9,10] (.reg [3,8,9,10] [m 12 10,w 13 (.indexAddr U1 8 10),w 14 (.load U1 13),w 4 (.asg 12),w 5 (.asg 14)])) (.seq (.out [3,4,5,8,9,10,20] (.reg [3,4,5,8,9,10] [m 15 5,w 16 (.bin .geq 15 (.c U1 65)),m 17 16,⟨some 18,.mv 5,some (17,true)⟩,⟨some 19,.bin .leq 18 (.c U1 90),some (17,true)⟩,w 20 (.pick 17 19 (.c .bool false))])) c44_8))
def c44_10:AC:=.out [3,8,9,10] (.block 1 c44_9)
def c44_11:AC:=.out [3,8,9,10] (.reg [3,8,9,10] [w 27 (.bin .add 10 (.c U2 1)),m 10 27])
def c44_12:AC:=(.seq c44_3 (.seq c44_4 (.seq c44_10 c44_11)))
def c44_13:AC:=.out [3] (.loop [3,8,9,10] c44_12)
def c44_14:AC:=.out [3] (.block 0 c44_13)
def c44_15:AC:=.out [2] (.reg [3] [m 28 3,w 29 (.toStr 28),w 2 (.asg 29)])
def c44_16:AC:=(.seq (.out [0] (.reg [0] [w 2 (.asg (.c .str []))])) (.seq (.out [3] (.reg [0] [m 6 0,w 7 (.toSl 6),w 3 (.asg 7)])) (.seq (.seq c44_2 c44_14) (.seq c44_15 .ret))))
def c44:AC:=c44_16
def d44:FD:={nargs:=1,body:=c44,res:=[.t 2]}
def c84_0:AC:=.out [0,1] (.reg [0,1] [w 4 (.asg (.c U2 0))])
def c84_1:AC:=.out [0,1,7,8] (.reg [0,1] [m 6 0,w 7 (.lenL 6),w 8 (.mv (.c U2 0))])
def c84_2:AC:=.out [0,1,7,8,9] (.reg [0,1,7,8] [w 9 (.bin .lss 8 7)])
def c84_3:AC:=.out [0,1,7,8] (.cond (.t 9) .skip (.exit 0))
def c84_6:AC:=.out [4] (.reg [5] [m 17 5,w 4 (.asg 17)])
def c84_7:AC:=.out [0,1,4,7,8] (.cond (.t 16) (.seq c84_6 .ret) .skip)
def c84_8:AC:=(.seq (.out [0,1,5,7,8] (.reg [0,1,7,8] [m 10 8,w 5 (.asg 10)])) (.seq (.out [0,1,5,7,8,16] (.reg [0,1,5,7,8] [m 11 1,m 12 0,m 13 5,w 14 (.indexAddr .str 12 13),w 15 (.load .str 14),w 16 (.bin .eql 11 15)])) c84_7))
def c84_9:AC:=.out [0,1,4,7,8] (.block 1 c84_8)
def c84_10:AC:=.out [0,1,7,8] (.reg [0,1,7,8] [w 18 (.bin .add 8 (.c U2 1)),m 8 18])
def c84_11:AC:=(.seq c84_2 (.seq c84_3 (.seq c84_9 c84_10)))
def c84_12:AC:=.out [4] (.loop [0,1,7,8] c84_11)
def c84_13:AC:=.out [4] (.block 0 c84_12)
def c84_14:AC:=.out [4] (.reg [] [w 4 (.asg (.c U2 (-1)))])
def c84_15:AC:=(.seq c84_0 (.seq (.seq c84_1 c84_13) (.seq c84_14 .ret)))
def c84:AC:=c84_15
def d84:FD:={nargs:=2,body:=c84,res:=[.t 4]}
def c67_2:AC:=(.seq (.out [0,1] (.reg [0,1] [w 4 (.asg (.c .bool false))])) (.seq (.out [4] (.reg [0,1] [m 5 0,m 6 1,w 7 (.call 84 [5,6]),w 8 (.bin .geq 7 (.c U2 0)),w 4 (.asg 8)])) .ret))
def c67:AC:=c67_2
def d67:FD:={nargs:=2,body:=c67,res:=[.t 4]}
def c45_2:AC:=(.seq (.out [1,2] (.reg [0,1] [w 2 (.box U13 0),w 4 (.asg (.c .bool false))])) (.seq (.out [4] (.reg [1,2] [w 5 (.fieldAddr U13 [.r,.r,.l] 2),w 6 (.load U0 5),w 7 (.lenL 6),w 8 (.bin .eql 7 (.c U2 0)),m 9 8,⟨some 10,.fieldAddr U13 [.r,.r,.l] 2,some (9,false)⟩,⟨some 11,.load U0 10,some (9,false)⟩,⟨some 12,.mv 1,some (9,false)⟩,⟨some 13,.call 67 [11,12],some (9,false)⟩,w 14 (.pick 9 (.c .bool true) 13),w 4 (.asg 14)])) .ret))
def c45:AC:=c45_2
def d45:FD:={nargs:=2,body:=c45,res:=[.t 4]}
def c17_3:AC:=.out [1,2,8,9,15,16,17] (.reg [1,2,3,8,9] [w 14 (.fieldAddr U18 [.r,.l] 3),w 15 (.load U15 14),w 16 (.lenL 15),w 17 (.mv (.c U2 0))])
def c17_4:AC:=.out [1,2,8,9,15,16,17,18] (.reg [1,2,8,9,15,16,17] [w 18 (.bin .lss 17 16)])
def c17_5:AC:=.out [1,2,8,9,15,16,17] (.cond (.t 18) .skip (.exit 0))
def c17_8:AC:=.out [1,2,8,9,15,16,17] (.reg [1,2,11,15,16,17] [w 40 (.fieldAddr U13 [.r,.l] 11),w 41 (.load U2 40),w 8 (.asg 41),w 9 (.asg (.c .bool true))])
def c17_9:AC:=.out [1,2,8,9,15,16,17] (.cond (.t 39) c17_8 .skip)
def c17_10:AC:=(.seq (.out [1,2,8,9,11,15,16,17] (.reg [1,2,8,9,15,16,17] [w 19 (.indexAddr U13 15 17),w 20 (.load U13 19),w 11 (.alloc U13 (.pair .no (.pair .no (.pair (.own true 9 .no) .no)))),⟨none,.store U13 11 20,none⟩])) (.seq (.out [1,2,8,9,11,15,16,17,39] (.reg [1,2,8,9,11,15,16,17] [w 21 (.fieldAddr U13 [.l] 11),w 22 (.load U2 21),m 23 1,w 24 (.bin .eql 22 23),m 25 24,⟨some 26,.load U13 11,some (25,true)⟩,⟨some 27,.mv 2,some (25,true)⟩,⟨some 28,.call 45 [26,27],some (25,true)⟩,w 29 (.pick 25 28 (.c .bool false)),m 30 29,⟨some 31,.mv 9,some (30,true)⟩,⟨some 32,.un .not 31,some (30,true)⟩,⟨some 33,.mv 32,some (30,true)⟩,⟨some 34,.fieldAddr U13 [.r,.l] 11,some (33,false)⟩,⟨some 35,.load U2 34,some (33,false)⟩,⟨some 36,.mv 8,some (33,false)⟩,⟨some 37,.bin .lss 35 36,some (33,false)⟩,⟨some 38,.pick 33 (.c .bool true) 37,some (30,true)⟩,w 39 (.pick 30 38 (.c .bool false))])) c17_9))
def c17_11:AC:=.out [1,2,8,9,15,16,17] (.block 1 c17_10)
def c17_12:AC:=.out [1,2,8,9,15,16,17] (.reg [1,2,8,9,15,16,17] [w 42 (.bin .add 17 (.c U2 1)),m 17 42])
def c17_13:AC:=(.seq c17_4 (.seq c17_5 (.seq c17_11 c17_12)))
def c17_14:AC:=.out [8,9] (.loop [1,2,8,9,15,16,17] c17_13)
def c17_15:AC:=.out [8,9] (.block 0 c17_14)
def c17_16:AC:=.out [6,7] (.reg [8,9] [m 43 8,m 44 9,w 6 (.asg 43),w 7 (.asg 44)])
def c17_17:AC:=(.seq (.out [1,2,3] (.reg [0,1,2] [w 3 (.box U18 0),w 6 (.asg (.c U2 0)),w 7 (.asg (.c .bool false))])) (.seq (.out [1,2,3] (.reg [1,2,3] [m 12 2,w 13 (.call 44 [12]),w 2 (.asg 13)])) (.seq (.out [1,2,3,8,9] (.reg [1,2,3] [w 8 (.asg (.c U2 0)),w 9 (.asg (.c .bool false))])) (.seq (.seq c17_3 c17_15) (.seq c17_16 .ret)))))
def c17:AC:=c17_17
def d17:FD:={nargs:=3,body:=c17,res:=[.t 6,.t 7]}
def c49_2:AC:=.out [0,3,4] (.reg [0,3] [w 4 (.asg (.c U2 0))])
def c49_3:AC:=.out [0,3,4,11] (.reg [0,3,4] [m 8 4,m 9 0,w 10 (.lenS 9),w 11 (.bin .lss 8 10)])
def c49_4:AC:=.out [0,3,4] (.cond (.t 11) .skip (.exit 0))
def c49_7:AC:=.out [0,3,4] (.reg [0,3,4] [m 30 3,m 31 4,m 32 0,m 33 4,w 34 (.indexS 32 33),w 35 (.bin .sub 34 (.c U1 65)),w 36 (.bin .add 35 (.c U1 97)),w 37 (.indexAddr U1 30 31),⟨none,.store U1 37 36,none⟩])
def c49_8:AC:=.out [0,3,4] (.cond (.t 29) c49_7 .skip)
def c49_9:AC:=(.seq (.out [0,3,4] (.reg [0,3,4] [m 14 3,m 15 4,m 16 0,m 17 4,w 18 (.indexS 16 17),w 19 (.indexAddr U1 14 15),⟨none,.store U1 19 18,none⟩])) (.seq (.out [0,3,4,29] (.reg [0,3,4] [m 20 0,m 21 4,w 22 (.indexS 20 21),w 23 (.bin .geq 22 (.c U1 65)),m 24 23,⟨some 25,.mv 0,some (24,true)⟩,⟨some 26,.mv 4,some (24,true)⟩,⟨some 27,.indexS 25 26,some (24,true)⟩,⟨some 28,.bin .leq 27 (.c U1 90),some (24,true)⟩,w 29 (.pick 24 28 (.c .bool false))])) c49_8))
def c49_10:AC:=.out [0,3,4] (.block 1 c49_9)
def c49_11:AC:=.out [0,3,4] (.reg [0,3,4] [m 12 4,w 13 (.bin .add 12 (.c U2 1)),w 4 (.asg 13)])
def c49_12:AC:=(.seq (.seq c49_3 c49_4) (.seq c49_10 c49_11))
def c49_13:AC:=.out [3] (.loop [0,3,4] c49_12)
def c49_14:AC:=.out [3] (.block 0 c49_13)
def c49_15:AC:=.out [2] (.reg [3] [m 38 3,w 39 (.toStr 38),w 2 (.asg 39)])
def c49_16:AC:=(.seq (.out [0] (.reg [0] [w 2 (.asg (.c .str []))])) (.seq (.out [0,3] (.reg [0] [m 5 0,w 6 (.lenS 5),w 7 (.mkSlice 5 U1 140737488355328 6 6),w 3 (.asg 7)])) (.seq (.seq c49_2 c49_14) (.seq c49_15 .ret))))
def c49:AC:=c49_16
def d49:FD:={nargs:=1,body:=c49,res:=[.t 2]}
def c50_0:AC:=.out [0,1] (.reg [0,1] [w 4 (.asg (.c .bool false))])
def c50_1:AC:=.out [0,1,5] (.reg [0,1] [w 5 (.asg (.c U2 0))])
def c50_2:AC:=.out [0,1,5,9] (.reg [0,1,5] [m 6 5,m 7 0,w 8 (.lenL 7),w 9 (.bin .lss 6 8)])
def c50_3:AC:=.out [0,1,5] (.cond (.t 9) .skip (.exit 0))
def c50_4:AC:=.out [0,1,5,17] (.reg [0,1,5] [m 12 0,m 13 5,w 14 (.indexAddr .str 12 13),w 15 (.load .str 14),m 16 1,w 17 (.bin .eql 15 16)])
def c50_5:AC:=.out [4] (.reg [] [w 4 (.asg (.c .bool true))])
def c50_6:AC:=.out [0,1,4,5] (.cond (.t 17) (.seq c50_5 .ret) .skip)
def c50_7:AC:=.out [0,1,4,5] (.block 1 (.seq c50_4 c50_6))
def c50_8:AC:=.out [0,1,5] (.reg [0,1,5] [m 10 5,w 11 (.bin .add 10 (.c U2 1)),w 5 (.asg 11)])
def c50_9:AC:=(.seq (.seq c50_2 c50_3) (.seq c50_7 c50_8))
def c50_10:AC:=.out [4] (.loop [0,1,5] c50_9)
def c50_11:AC:=.out [4] (.block 0 c50_10)
def c50_12:AC:=.out [4] (.reg [] [w 4 (.asg (.c .bool false))])
def c50_13:AC:=(.seq c50_0 (.seq (.seq c50_1 c50_11) (.seq c50_12 .ret)))
def c50:AC:=c50_13
def d50:FD:={nargs:=2,body:=c50,res:=[.t 4]}
def c21_3:AC:=.out [1,3,8,9,10,11] (.reg [1,3,8,9,10] [w 11 (.asg (.c U2 0))])
def c21_4:AC:=.out [1,3,8,9,10,11,19] (.reg [1,3,8,9,10,11] [m 15 11,w 16 (.fieldAddr U18 [.r,.l] 3),w 17 (.load U15 16),w 18 (.lenL 17),w 19 (.bin .lss 15 18)])
def c21_5:AC:=.out [1,3,8,9,10,11] (.cond (.t 19) .skip (.exit 0))
def c21_6:AC:=.out [1,3,8,9,10,11,12] (.reg [1,3,8,9,10,11] [w 22 (.fieldAddr U18 [.r,.l] 3),w 23 (.load U15 22),m 24 11,w 25 (.indexAddr U13 23 24),w 26 (.load U13 25),w 12 (.alloc U13 (.pair .no (.pair .no (.pair (.own true 9 .no) .no)))),⟨none,.store U13 12 26,none⟩])
def c21_7:AC:=.out [1,3,8,9,10,11,12,43] (.reg [1,3,8,9,10,11,12] [w 27 (.fieldAddr U13 [.l] 12),w 28 (.load U2 27),m 29 1,w 30 (.bin .neq 28 29),m 31 30,⟨some 32,.fieldAddr U13 [.r,.r,.l] 12,some (31,false)⟩,⟨some 33,.load U0 32,some (31,false)⟩,⟨some 34,.lenL 33,some (31,false)⟩,⟨some 35,.bin .gtr 34 (.c U2 0),some (31,false)⟩,⟨some 36,.mv 35,some (31,false)⟩,⟨some 37,.fieldAddr U13 [.r,.r,.l] 12,some (36,true)⟩,⟨some 38,.load U0 37,some (36,true)⟩,⟨some 39,.mv 10,some (36,true)⟩,⟨some 40,.call 50 [38,39],some (36,true)⟩,⟨some 41,.un .not 40,some (36,true)⟩,⟨some 42,.pick 36 41 (.c .bool false),some (31,false)⟩,w 43 (.pick 31 (.c .bool true) 42)])
def c21_8:AC:=.out [1,3,8,9,10,11,12] (.cond (.t 43) (.exit 1) .skip)
def c21_9:AC:=.out [1,3,8,9,10,11,12,51] (.reg [1,3,8,9,10,11,12] [m 44 9,w 45 (.un .not 44),m 46 45,⟨some 47,.fieldAddr U13 [.r,.l] 12,some (46,false)⟩,⟨some 48,.load U2 47,some (46,false)⟩,⟨some 49,.mv 8,some (46,false)⟩,⟨some 50,.bin .lss 48 49,some (46,false)⟩,w 51 (.pick 46 (.c .bool true) 50)])
def c21_10:AC:=.out [1,3,8,9,10,11] (.reg [1,3,10,11,12] [w 52 (.fieldAddr U13 [.r,.l] 12),w 53 (.load U2 52),w 8 (.asg 53),w 9 (.asg (.c .bool true))])
def c21_11:AC:=.out [1,3,8,9,10,11] (.cond (.t 51) c21_10 .skip)
def c21_12:AC:=.out [1,3,8,9,10,11] (.block 1 (.seq c21_6 (.seq (.seq c21_7 c21_8) (.seq c21_9 c21_11))))
def c21_13:AC:=.out [1,3,8,9,10,11] (.reg [1,3,8,9,10,11] [m 20 11,w 21 (.bin .add 20 (.c U2 1)),w 11 (.asg 21)])
def c21_14:AC:=(.seq (.seq c21_4 c21_5) (.seq c21_12 c21_13))
def c21_15:AC:=.out [8,9] (.loop [1,3,8,9,10,11] c21_14)
def c21_16:AC:=.out [8,9] (.block 0 c21_15)
def c21_17:AC:=.out [6,7] (.reg [8,9] [m 54 8,m 55 9,w 6 (.asg 54),w 7 (.asg 55)])
def c21_18:AC:=(.seq (.out [1,2,3] (.reg [0,1,2] [w 3 (.box U18 0),w 6 (.asg (.c U2 0)),w 7 (.asg (.c .bool false))])) (.seq (.out [1,2,3,8,9] (.reg [1,2,3] [w 8 (.asg (.c U2 0)),w 9 (.asg (.c .bool false))])) (.seq (.out [1,3,8,9,10] (.reg [1,2,3,8,9] [m 13 2,w 14 (.call 49 [13]),w 10 (.asg 14)])) (.seq (.seq c21_3 c21_16) (.seq c21_17 .ret)))))
def c21:AC:=c21_18
def d21:FD:={nargs:=3,body:=c21,res:=[.t 6,.t 7]}
def c6_0:AC:=.out [1,2,3] (.reg [0,1,2] [w 3 (.box U18 0),w 6 (.asg (.c .bool false))])
def c6_1:AC:=.out [1,2,3,24] (.reg [1,2,3] [w 13 (.call 7 []),w 14 (.un .not 13),m 15 14,⟨some 16,.load U18 3,some (15,false)⟩,⟨some 17,.call 8 [16],some (15,false)⟩,⟨some 18,.un .not 17,some (15,false)⟩,w 19 (.pick 15 (.c .bool true) 18),m 20 19,⟨some 21,.mv 2,some (20,false)⟩,⟨some 22,.lenS 21,some (20,false)⟩,⟨some 23,.bin .gtr 22 (.c U2 40),some (20,false)⟩,w 24 (.pick 20 (.c .bool true) 23)])
def c6_2:AC:=.out [6] (.reg [] [w 25 (.call 7 []),w 6 (.asg 25)])
def c6_3:AC:=.out [1,2,3,6] (.cond (.t 24) (.seq c6_2 .ret) .skip)
def c6_4:AC:=.out [1,2,3,7] (.reg [1,2,3] [w 26 (.load U18 3),w 27 (.call 19 [26]),m 28 1,w 29 (.call 22 [27,28]),w 7 (.alloc U18 (.pair .no (.pair (.own true 57 .no) .no))),⟨none,.store U18 7 29,none⟩])
def c6_5:AC:=.out [1,2,3,7,35] (.draw [1,2,3,7] [⟨w 30 (.load U18 7),[31,32,33],[30],[],false,[]⟩,⟨w 31 (.load U18 3),[30,32],[31],[],false,[]⟩,⟨m 32 1,[30,31],[32],[],false,[]⟩,⟨w 33 (.call 23 [31,32]),[30],[33],[1,2],false,[]⟩,⟨w 34 (.call 14 [30,33]),[],[34],[0,1,2,3],false,[]⟩,⟨w 35 (.un .not 34),[],[35],[0,1,2,3,4],false,[]⟩])
def c6_6:AC:=.out [6] (.reg [] [w 6 (.asg (.c .bool false))])
def c6_7:AC:=.out [1,2,3,6,7] (.cond (.t 35) (.seq c6_6 .ret) .skip)
def c6_8:AC:=.out [1,2,3,7,8] (.reg [1,2,3,7] [w 8 (.asg (.c U2 1))])
def c6_9:AC:=.out [1,2,3,7,8,37] (.reg [1,2,3,7,8] [m 36 8,w 37 (.bin .leq 36 (.c U2 12))])
def c6_10:AC:=.out [1,2,3,7,8] (.cond (.t 37) .skip (.exit 0))
def c6_14:AC:=.out [6] (.reg [] [w 6 (.asg (.c .bool false))])
def c6_15:AC:=.out [1,2,3,6,7,8] (.cond (.t 74) (.seq c6_14 .ret) .skip)
def c6_16:AC:=(.seq (.out [1,2,3,7,8,9,10] (.reg [1,2,3,7,8] [w 41 (.load U18 7),m 42 8,m 43 2,w 44 (.call 17 [41,42,43]),m 40 44,w 45 (.extract 40 0),w 46 (.extract 40 1),w 9 (.asg 45),w 10 (.asg 46)])) (.seq (.out [1,2,3,7,8,9,10,11,12] (.reg [1,2,3,7,8,9,10] [w 48 (.load U18 3),m 49 8,m 50 2,w 51 (.call 21 [48,49,50]),m 47 51,w 52 (.extract 47 0),w 53 (.extract 47 1),w 11 (.asg 52),w 12 (.asg 53)])) (.seq (.out [1,2,3,7,8,74] (.reg [1,2,3,7,8,9,10,11,12] [m 54 8,m 55 1,w 56 (.bin .eql 54 55),m 57 56,⟨some 58,.mv 10,some (57,true)⟩,w 59 (.pick 57 58 (.c .bool false)),m 60 59,⟨some 61,.mv 8,some (60,false)⟩,⟨some 62,.mv 1,some (60,false)⟩,⟨some 63,.bin .neq 61 62,some (60,false)⟩,⟨some 64,.mv 63,some (60,false)⟩,⟨some 65,.mv 9,some (64,true)⟩,⟨some 66,.mv 11,some (64,true)⟩,⟨some 67,.bin .neq 65 66,some (64,true)⟩,⟨some 68,.mv 67,some (64,true)⟩,⟨some 69,.mv 10,some (68,false)⟩,⟨some 70,.mv 12,some (68,false)⟩,⟨some 71,.eqT true .bool 69 70,some (68,false)⟩,⟨some 72,.pick 68 (.c .bool true) 71,some (64,true)⟩,⟨some 73,.pick 64 72 (.c .bool false),some (60,false)⟩,w 74 (.pick 60 (.c .bool true) 73)])) c6_15)))
def c6_17:AC:=.out [1,2,3,6,7,8] (.block 1 c6_16)
def c6_18:AC:=.out [1,2,3,7,8] (.reg [1,2,3,7,8] [m 38 8,w 39 (.bin .add 38 (.c U2 1)),w 8 (.asg 39)])
def c6_19:AC:=(.seq (.seq c6_9 c6_10) (.seq c6_17 c6_18))
def c6_20:AC:=.out [6] (.loop [1,2,3,7,8] c6_19)
def c6_21:AC:=.out [6] (.block 0 c6_20)
def c6_22:AC:=.out [6] (.reg [] [w 6 (.asg (.c .bool true))])
def c6_23:AC:=(.seq c6_0 (.seq (.seq c6_1 c6_3) (.seq c6_4 (.seq (.seq c6_5 c6_7) (.seq (.seq c6_8 c6_21) (.seq c6_22 .ret))))))
def c6:AC:=c6_23
def d6:FD:={nargs:=3,body:=c6,res:=[.t 6]}
def c72_2:AC:=(.seq (.out [0] (.reg [0] [w 2 (.asg (.c .bool false))])) (.seq (.out [2] (.reg [0] [m 3 0,w 4 (.bin .geq 3 (.c U1 97)),m 5 4,⟨some 6,.mv 0,some (5,true)⟩,⟨some 7,.bin .leq 6 (.c U1 122),some (5,true)⟩,w 8 (.pick 5 7 (.c .bool false)),w 2 (.asg 8)])) .ret))
def c72:AC:=c72_2
def d72:FD:={nargs:=1,body:=c72,res:=[.t 2]}
def c73_2:AC:=(.seq (.out [0] (.reg [0] [w 2 (.asg (.c .bool false))])) (.seq (.out [2] (.reg [0] [m 3 0,w 4 (.bin .geq 3 (.c U1 48)),m 5 4,⟨some 6,.mv 0,some (5,true)⟩,⟨some 7,.bin .leq 6 (.c U1 57),some (5,true)⟩,w 8 (.pick 5 7 (.c .bool false)),w 2 (.asg 8)])) .ret))
def c73:AC:=c73_2
def d73:FD:={nargs:=1,body:=c73,res:=[.t 2]}
def c54_0:AC:=.out [0] (.reg [0] [w 2 (.asg (.c U2 0))])
def c54_1:AC:=.out [0,11] (.reg [0] [m 4 0,w 5 (.bin .eql 4 (.c .str [])),m 6 5,⟨some 7,.mv 0,some (6,false)⟩,⟨some 8,.indexS 7 (.c U2 0),some (6,false)⟩,⟨some 9,.call 72 [8],some (6,false)⟩,⟨some 10,.un .not 9,some (6,false)⟩,w 11 (.pick 6 (.c .bool true) 10)])
def c54_2:AC:=.out [2] (.reg [] [w 2 (.asg (.c U2 0))])
def c54_3:AC:=.out [0,2] (.cond (.t 11) (.seq c54_2 .ret) .skip)
def c54_4:AC:=.out [0,3] (.reg [0] [w 3 (.asg (.c U2 1))])
def c54_5:AC:=.out [0,3,15] (.reg [0,3] [m 12 3,m 13 0,w 14 (.lenS 13),w 15 (.bin .lss 12 14)])
def c54_6:AC:=.out [0,3] (.cond (.t 15) .skip (.exit 0))
def c54_7:AC:=.out [0,3,25] (.reg [0,3] [m 16 0,m 17 3,w 18 (.indexS 16 17),w 19 (.call 72 [18]),m 20 19,⟨some 21,.mv 0,some (20,false)⟩,⟨some 22,.mv 3,some (20,false)⟩,⟨some 23,.indexS 21 22,some (20,false)⟩,⟨some 24,.call 73 [23],some (20,false)⟩,w 25 (.pick 20 (.c .bool true) 24)])
def c54_8:AC:=.out [0,3] (.reg [0,3] [m 26 3,w 27 (.bin .add 26 (.c U2 1)),w 3 (.asg 27)])
def c54_9:AC:=.out [0,3] (.cond (.t 25) (.seq c54_8 (.exit 1)) .skip)
def c54_10:AC:=.out [0,3,54] (.reg [0,3] [m 28 0,m 29 3,w 30 (.indexS 28 29),w 31 (.bin .neq 30 (.c U1 45)),m 32 31,⟨some 33,.mv 3,some (32,false)⟩,⟨some 34,.bin .add 33 (.c U2 1),some (32,false)⟩,⟨some 35,.mv 0,some (32,false)⟩,⟨some 36,.lenS 35,some (32,false)⟩,⟨some 37,.bin .eql 34 36,some (32,false)⟩,w 38 (.pick 32 (.c .bool true) 37),m 39 38,⟨some 40,.mv 0,some (39,false)⟩,⟨some 41,.mv 3,some (39,false)⟩,⟨some 42,.bin .add 41 (.c U2 1),some (39,false)⟩,⟨some 43,.indexS 40 42,some (39,false)⟩,⟨some 44,.call 72 [43],some (39,false)⟩,⟨some 45,.un .not 44,some (39,false)⟩,⟨some 46,.mv 45,some (39,false)⟩,⟨some 47,.mv 0,some (46,true)⟩,⟨some 48,.mv 3,some (46,true)⟩,⟨some 49,.bin .add 48 (.c U2 1),some (46,true)⟩,⟨some 50,.indexS 47 49,some (46,true)⟩,⟨some 51,.call 73 [50],some (46,true)⟩,⟨some 52,.un .not 51,some (46,true)⟩,⟨some 53,.pick 46 52 (.c .bool false),some (39,false)⟩,w 54 (.pick 39 (.c .bool true) 53)])
def c54_11:AC:=.out [0,3] (.cond (.t 54) (.exit 0) .skip)
def c54_12:AC:=.out [0,3] (.reg [0,3] [m 55 3,w 56 (.bin .add 55 (.c U2 2)),w 3 (.asg 56)])
def c54_13:AC:=.out [0,3] (.block 1 (.seq (.seq c54_7 c54_9) (.seq (.seq c54_10 c54_11) c54_12)))
def c54_14:AC:=(.seq (.seq c54_5 c54_6) c54_13)
def c54_15:AC:=.out [3] (.loop [0,3] c54_14)
def c54_16:AC:=.out [3] (.block 0 c54_15)
def c54_17:AC:=.out [2] (.reg [3] [m 57 3,w 2 (.asg 57)])
def c54_18:AC:=(.seq c54_0 (.seq (.seq c54_1 c54_3) (.seq c54_4 (.seq c54_16 (.seq c54_17 .ret)))))
def c54:AC:=c54_18
def d54:FD:={nargs:=1,body:=c54,res:=[.t 2]}
def c27_2:AC:=(.seq (.out [0] (.reg [0] [w 2 (.asg (.c .bool false))])) (.seq (.out [2] (.reg [0] [m 3 0,w 4 (.bin .neq 3 (.c .str [])),m 5 4,⟨some 6,.mv 0,some (5,true)⟩,⟨some 7,.lenS 6,some (5,true)⟩,⟨some 8,.bin .leq 7 (.c U2 20),some (5,true)⟩,w 9 (.pick 5 8 (.c .bool false)),m 10 9,⟨some 11,.mv 0,some (10,true)⟩,⟨some 12,.call 54 [11],some (10,true)⟩,⟨some 13,.mv 0,some (10,true)⟩,⟨some 14,.lenS 13,some (10,true)⟩,⟨some 15,.bin .eql 12 14,some (10,true)⟩,w 16 (.pick 10 15 (.c .bool false)),w 2 (.asg 16)])) .ret))
def c27:AC:=c27_2
def d27:FD:={nargs:=1,body:=c27,res:=[.t 2]}
def c74_0:AC:=.out [0] (.reg [0] [w 2 (.asg (.c .bool false))])
def c74_1:AC:=.out [0,9] (.reg [0] [m 4 0,w 5 (.bin .lss 4 (.c U1 32)),m 6 5,⟨some 7,.mv 0,some (6,false)⟩,⟨some 8,.bin .gtr 7 (.c U1 126),some (6,false)⟩,w 9 (.pick 6 (.c .bool true) 8)])
def c74_2:AC:=.out [2] (.reg [] [w 2 (.asg (.c .bool false))])
def c74_3:AC:=.out [0,2] (.cond (.t 9) (.seq c74_2 .ret) .skip)
def c74_4:AC:=.out [0,3] (.reg [0] [w 3 (.asg (.c U2 0))])
def c74_5:AC:=.out [0,3,11] (.reg [0,3] [m 10 3,w 11 (.bin .lss 10 (.c U2 15))])
def c74_6:AC:=.out [0,3] (.cond (.t 11) .skip (.exit 0))
def c74_7:AC:=.out [0,3,17] (.reg [0,3] [m 14 3,w 15 (.indexS (.c .str [32,46,44,59,58,33,63,34,45,91,93,60,62,123,125]) 14),m 16 0,w 17 (.bin .eql 15 16)])
def c74_8:AC:=.out [2] (.reg [] [w 2 (.asg (.c .bool false))])
def c74_9:AC:=.out [0,2,3] (.cond (.t 17) (.seq c74_8 .ret) .skip)
def c74_10:AC:=.out [0,2,3] (.block 1 (.seq c74_7 c74_9))
def c74_11:AC:=.out [0,3] (.reg [0,3] [m 12 3,w 13 (.bin .add 12 (.c U2 1)),w 3 (.asg 13)])
def c74_12:AC:=(.seq (.seq c74_5 c74_6) (.seq c74_10 c74_11))
def c74_13:AC:=.out [2] (.loop [0,3] c74_12)
def c74_14:AC:=.out [2] (.block 0 c74_13)
def c74_15:AC:=.out [2] (.reg [] [w 2 (.asg (.c .bool true))])
def c74_16:AC:=(.seq c74_0 (.seq (.seq c74_1 c74_3) (.seq (.seq c74_4 c74_14) (.seq c74_15 .ret))))
def c74:AC:=c74_16
def d74:FD:={nargs:=1,body:=c74,res:=[.t 2]}
def c55_0:AC:=.out [0] (.reg [0] [w 2 (.asg (.c U2 0))])
def c55_1:AC:=.out [0,6] (.reg [0] [m 4 0,w 5 (.lenS 4),w 6 (.bin .gtr 5 (.c U2 16))])
def c55_2:AC:=.out [2] (.reg [] [w 2 (.asg (.c U2 3))])
def c55_3:AC:=.out [0,2] (.cond (.t 6) (.seq c55_2 .ret) .skip)
def c55_4:AC:=.out [0,14] (.reg [0] [m 7 0,w 8 (.bin .eql 7 (.c .str [])),m 9 8,⟨some 10,.mv 0,some (9,false)⟩,⟨some 11,.call 49 [10],some (9,false)⟩,⟨some 12,.mv 0,some (9,false)⟩,⟨some 13,.bin .neq 11 12,some (9,false)⟩,w 14 (.pick 9 (.c .bool true) 13)])
def c55_5:AC:=.out [2] (.reg [] [w 2 (.asg (.c U2 2))])
def c55_6:AC:=.out [0,2] (.cond (.t 14) (.seq c55_5 .ret) .skip)
def c55_7:AC:=.out [0,3] (.reg [0] [w 3 (.asg (.c U2 0))])
def c55_8:AC:=.out [0,3,18] (.reg [0,3] [m 15 3,m 16 0,w 17 (.lenS 16),w 18 (.bin .lss 15 17)])
def c55_9:AC:=.out [0,3] (.cond (.t 18) .skip (.exit 0))
def c55_10:AC:=.out [0,3,25] (.reg [0,3] [m 21 0,m 22 3,w 23 (.indexS 21 22),w 24 (.call 74 [23]),w 25 (.un .not 24)])
def c55_11:AC:=.out [2] (.reg [] [w 2 (.asg (.c U2 2))])
def c55_12:AC:=.out [0,2,3] (.cond (.t 25) (.seq c55_11 .ret) .skip)
def c55_13:AC:=.out [0,2,3] (.block 1 (.seq c55_10 c55_12))
def c55_14:AC:=.out [0,3] (.reg [0,3] [m 19 3,w 20 (.bin .add 19 (.c U2 1)),w 3 (.asg 20)])
def c55_15:AC:=(.seq (.seq c55_8 c55_9) (.seq c55_13 c55_14))
def c55_16:AC:=.out [2] (.loop [0,3] c55_15)
def c55_17:AC:=.out [2] (.block 0 c55_16)
def c55_18:AC:=.out [2] (.reg [] [w 2 (.asg (.c U2 0))])
def c55_19:AC:=(.seq c55_0 (.seq (.seq c55_1 c55_3) (.seq (.seq c55_4 c55_6) (.seq (.seq c55_7 c55_17) (.seq c55_18 .ret)))))
def c55:AC:=c55_19
def d55:FD:={nargs:=1,body:=c55,res:=[.t 2]}
def c28_0:AC:=.out [1] (.reg [0] [w 1 (.box U13 0),w 2 (.asg (.c U2 0))])
def c28_1:AC:=.out [1,22] (.reg [1] [w 5 (.fieldAddr U13 [.l] 1),w 6 (.load U2 5),w 7 (.bin .lss 6 (.c U2 1)),m 8 7,⟨some 9,.fieldAddr U13 [.l] 1,some (8,false)⟩,⟨some 10,.load U2 9,some (8,false)⟩,⟨some 11,.bin .gtr 10 (.c U2 12),some (8,false)⟩,w 12 (.pick 8 (.c .bool true) 11),m 13 12,⟨some 14,.fieldAddr U13 [.r,.l] 1,some (13,false)⟩,⟨some 15,.load U2 14,some (13,false)⟩,⟨some 16,.bin .lss 15 (.c U2 0),some (13,false)⟩,w 17 (.pick 13 (.c .bool true) 16),m 18 17,⟨some 19,.fieldAddr U13 [.r,.l] 1,some (18,false)⟩,⟨some 20,.load U2 19,some (18,false)⟩,⟨some 21,.bin .gtr 20 (.c U2 999),some (18,false)⟩,w 22 (.pick 18 (.c .bool true) 21)])
def c28_2:AC:=.out [2] (.reg [] [w 2 (.asg (.c U2 6))])
def c28_3:AC:=.out [1,2] (.cond (.t 22) (.seq c28_2 .ret) .skip)
def c28_4:AC:=.out [1,26] (.reg [1] [w 23 (.fieldAddr U13 [.r,.r,.l] 1),w 24 (.load U0 23),w 25 (.lenL 24),w 26 (.bin .gtr 25 (.c U2 20))])
def c28_5:AC:=.out [2] (.reg [] [w 2 (.asg (.c U2 3))])
def c28_6:AC:=.out [1,2] (.cond (.t 26) (.seq c28_5 .ret) .skip)
def c28_7:AC:=.out [1,3] (.reg [1] [w 3 (.asg (.c U2 0))])
def c28_8:AC:=.out [1,3,31] (.reg [1,3] [m 27 3,w 28 (.fieldAddr U13 [.r,.r,.l] 1),w 29 (.load U0 28),w 30 (.lenL 29),w 31 (.bin .lss 27 30)])
def c28_9:AC:=.out [1,3] (.cond (.t 31) .skip (.exit 0))
def c28_12:AC:=.out [2] (.reg [4] [m 42 4,w 2 (.asg 42)])
def c28_13:AC:=.out [1,2,3] (.cond (.t 41) (.seq c28_12 .ret) .skip)
def c28_14:AC:=(.seq (.out [1,3,4] (.reg [1,3] [w 34 (.fieldAddr U13 [.r,.r,.l] 1),w 35 (.load U0 34),m 36 3,w 37 (.indexAddr .str 35 36),w 38 (.load .str 37),w 39 (.call 55 [38]),w 4 (.asg 39)])) (.seq (.out [1,3,4,41] (.reg [1,3,4] [m 40 4,w 41 (.bin .neq 40 (.c U2 0))])) c28_13))
def c28_15:AC:=.out [1,3,52] (.draw [1,3] [⟨w 43 (.fieldAddr U13 [.r,.r,.l] 1),[45,47,48,49,50,51],[43],[],false,[]⟩,⟨w 44 (.load U0 43),[45,47,48,49,50,51],[44],[0],false,[]⟩,⟨m 45 3,[43,44,47,48,49,50,51],[45],[],false,[]⟩,⟨w 46 (.sliceL .str 44 none (some 45) none),[47,48,49,50,51],[46],[0,1,2],false,[]⟩,⟨w 47 (.fieldAddr U13 [.r,.r,.l] 1),[43,44,45,46,49],[47],[],false,[]⟩,⟨w 48 (.load U0 47),[43,44,45,46,49],[48],[4],false,[]⟩,⟨m 49 3,[43,44,45,46,47,48],[49],[],false,[]⟩,⟨w 50 (.indexAddr .str 48 49),[43,44,45,46],[50],[4,5,6],false,[]⟩,⟨w 51 (.load .str 50),[43,44,45,46],[51],[4,5,6,7],false,[]⟩,⟨w 52 (.call 50 [46,51]),[],[52],[0,1,2,3,4,5,6,7,8],false,[]⟩])
def c28_16:AC:=.out [2] (.reg [] [w 2 (.asg (.c U2 5))])
def c28_17:AC:=.out [1,2,3] (.cond (.t 52) (.seq c28_16 .ret) .skip)
def c28_18:AC:=.out [1,2,3] (.block 1 (.seq c28_14 (.seq c28_15 c28_17)))
def c28_19:AC:=.out [1,3] (.reg [1,3] [m 32 3,w 33 (.bin .add 32 (.c U2 1)),w 3 (.asg 33)])
def c28_20:AC:=(.seq (.seq c28_8 c28_9) (.seq c28_18 c28_19))
def c28_21:AC:=.out [2] (.loop [1,3] c28_20)
def c28_22:AC:=.out [2] (.block 0 c28_21)
def c28_23:AC:=.out [2] (.reg [] [w 2 (.asg (.c U2 0))])
def c28_24:AC:=(.seq c28_0 (.seq (.seq c28_1 c28_3) (.seq (.seq c28_4 c28_6) (.seq (.seq c28_7 c28_22) (.seq c28_23 .ret)))))
def c28:AC:=c28_24
def d28:FD:={nargs:=1,body:=c28,res:=[.t 2]}
def c9_0:AC:=.out [1] (.reg [0] [w 1 (.box U18 0),w 2 (.asg (.c U2 0))])
def c9_1:AC:=.out [1,8] (.reg [1] [w 5 (.fieldAddr U18 [.l] 1),w 6 (.load .str 5),w 7 (.call 27 [6]),w 8 (.un .not 7)])
def c9_2:AC:=.out [2] (.reg [] [w 2 (.asg (.c U2 2))])
def c9_3:AC:=.out [1,2] (.cond (.t 8) (.seq c9_2 .ret) .skip)
def c9_4:AC:=.out [1,12] (.reg [1] [w 9 (.fieldAddr U18 [.r,.l] 1),w 10 (.load U15 9),w 11 (.lenL 10),w 12 (.bin .gtr 11 (.c U2 30))])
def c9_5:AC:=.out [2] (.reg [] [w 2 (.asg (.c U2 3))])
def c9_6:AC:=.out [1,2] (.cond (.t 12) (.seq c9_5 .ret) .skip)
def c9_7:AC:=.out [1,3] (.reg [1] [w 3 (.asg (.c U2 0))])
def c9_8:AC:=.out [1,3,17] (.reg [1,3] [m 13 3,w 14 (.fieldAddr U18 [.r,.l] 1),w 15 (.load U15 14),w 16 (.lenL 15),w 17 (.bin .lss 13 16)])
def c9_9:AC:=.out [1,3] (.cond (.t 17) .skip (.exit 0))
def c9_12:AC:=.out [2] (.reg [4] [m 28 4,w 2 (.asg 28)])
def c9_13:AC:=.out [1,2,3] (.cond (.t 27) (.seq c9_12 .ret) .skip)
def c9_14:AC:=(.seq (.out [1,3,4] (.reg [1,3] [w 20 (.fieldAddr U18 [.r,.l] 1),w 21 (.load U15 20),m 22 3,w 23 (.indexAddr U13 21 22),w 24 (.load U13 23),w 25 (.call 28 [24]),w 4 (.asg 25)])) (.seq (.out [1,3,4,27] (.reg [1,3,4] [m 26 4,w 27 (.bin .neq 26 (.c U2 0))])) c9_13))
def c9_15:AC:=.out [1,2,3] (.block 1 c9_14)
def c9_16:AC:=.out [1,3] (.reg [1,3] [m 18 3,w 19 (.bin .add 18 (.c U2 1)),w 3 (.asg 19)])
def c9_17:AC:=(.seq (.seq c9_8 c9_9) (.seq c9_15 c9_16))
def c9_18:AC:=.out [2] (.loop [1,3] c9_17)
def c9_19:AC:=.out [2] (.block 0 c9_18)
def c9_20:AC:=.out [2] (.reg [] [w 2 (.asg (.c U2 0))])
def c9_21:AC:=(.seq c9_0 (.seq (.seq c9_1 c9_3) (.seq (.seq c9_4 c9_6) (.seq (.seq c9_7 c9_19) (.seq c9_20 .ret)))))
def c9:AC:=c9_21
def d9:FD:={nargs:=1,body:=c9,res:=[.t 2]}
def c76_2:AC:=(.seq (.out [0] (.reg [0] [w 2 (.asg (.c .bool false))])) (.seq (.out [2] (.reg [0] [m 3 0,w 4 (.bin .geq 3 (.c U1 97)),m 5 4,⟨some 6,.mv 0,some (5,true)⟩,⟨some 7,.bin .leq 6 (.c U1 122),some (5,true)⟩,w 8 (.pick 5 7 (.c .bool false)),w 2 (.asg 8)])) .ret))
def c76:AC:=c76_2
def d76:FD:={nargs:=1,body:=c76,res:=[.t 2]}
def c77_2:AC:=(.seq (.out [0] (.reg [0] [w 2 (.asg (.c .bool false))])) (.seq (.out [2] (.reg [0] [m 3 0,w 4 (.bin .geq 3 (.c U1 48)),m 5 4,⟨some 6,.mv 0,some (5,true)⟩,⟨some 7,.bin .leq 6 (.c U1 57),some (5,true)⟩,w 8 (.pick 5 7 (.c .bool false)),w 2 (.asg 8)])) .ret))
def c77:AC:=c77_2
def d77:FD:={nargs:=1,body:=c77,res:=[.t 2]}
def c65_0:AC:=.out [0] (.reg [0] [w 2 (.asg (.c U2 0))])
def c65_1:AC:=.out [0,12] (.reg [0] [m 5 0,w 6 (.bin .eql 5 (.c .str [])),m 7 6,⟨some 8,.mv 0,some (7,false)⟩,⟨some 9,.indexS 8 (.c U2 0),some (7,false)⟩,⟨some 10,.call 76 [9],some (7,false)⟩,⟨some 11,.un .not 10,some (7,false)⟩,w 12 (.pick 7 (.c .bool true) 11)])
def c65_2:AC:=.out [2] (.reg [] [w 2 (.asg (.c U2 0))])
def c65_3:AC:=.out [0,2] (.cond (.t 12) (.seq c65_2 .ret) .skip)
def c65_4:AC:=.out [0,3] (.reg [0] [w 3 (.asg (.c U2 1))])
def c65_5:AC:=.out [0,3,16] (.reg [0,3] [m 13 3,m 14 0,w 15 (.lenS 14),w 16 (.bin .lss 13 15)])
def c65_6:AC:=.out [0,3] (.cond (.t 16) .skip (.exit 0))
def c65_7:AC:=.out [0,3,4] (.reg [0,3] [m 17 0,m 18 3,w 19 (.indexS 17 18),w 4 (.asg 19)])
def c65_8:AC:=.out [0,3,4,21] (.reg [0,3,4] [m 22 4,w 23 (.call 76 [22]),m 24 23,⟨some 25,.mv 4,some (24,false)⟩,⟨some 26,.call 77 [25],some (24,false)⟩,w 27 (.pick 24 (.c .bool true) 26),w 21 (.asg 27)])
def c65_9:AC:=.out [0,3] (.reg [0,3] [m 28 3,w 29 (.bin .add 28 (.c U2 1)),w 3 (.asg 29)])
def c65_10:AC:=.out [0,3,30] (.reg [0,3,4] [m 31 4,w 32 (.bin .eql 31 (.c U1 45)),m 33 32,⟨some 34,.mv 3,some (33,true)⟩,⟨some 35,.bin .add 34 (.c U2 1),some (33,true)⟩,⟨some 36,.mv 0,some (33,true)⟩,⟨some 37,.lenS 36,some (33,true)⟩,⟨some 38,.bin .lss 35 37,some (33,true)⟩,w 39 (.pick 33 38 (.c .bool false)),m 40 39,⟨some 41,.mv 0,some (40,true)⟩,⟨some 42,.mv 3,some (40,true)⟩,⟨some 43,.bin .add 42 (.c U2 1),some (40,true)⟩,⟨some 44,.indexS 41 43,some (40,true)⟩,⟨some 45,.call 76 [44],some (40,true)⟩,⟨some 46,.mv 45,some (40,true)⟩,⟨some 47,.mv 0,some (46,false)⟩,⟨some 48,.mv 3,some (46,false)⟩,⟨some 49,.bin .add 48 (.c U2 1),some (46,false)⟩,⟨some 50,.indexS 47 49,some (46,false)⟩,⟨some 51,.call 77 [50],some (46,false)⟩,⟨some 52,.pick 46 (.c .bool true) 51,some (40,true)⟩,w 53 (.pick 40 52 (.c .bool false)),w 30 (.asg 53)])
def c65_11:AC:=.out [0,3] (.reg [0,3] [m 54 3,w 55 (.bin .add 54 (.c U2 2)),w 3 (.asg 55)])
def c65_12:AC:=.out [2] (.reg [3] [m 20 3,w 2 (.asg 20)])
def c65_13:AC:=.out [0,2,3] (.cond (.t 30) c65_11 (.seq c65_12 .ret))
def c65_14:AC:=.out [0,2,3] (.cond (.t 21) c65_9 (.seq c65_10 c65_13))
def c65_15:AC:=.out [0,2,3] (.block 2 (.seq c65_8 c65_14))
def c65_16:AC:=.out [0,2,3] (.block 1 (.seq c65_7 c65_15))
def c65_17:AC:=(.seq (.seq c65_5 c65_6) c65_16)
def c65_18:AC:=.out [2,3] (.loop [0,3] c65_17)
def c65_19:AC:=.out [2,3] (.block 0 c65_18)
def c65_20:AC:=.out [2] (.reg [3] [m 56 3,w 2 (.asg 56)])
def c65_21:AC:=(.seq c65_0 (.seq (.seq c65_1 c65_3) (.seq c65_4 (.seq c65_19 (.seq c65_20 .ret)))))
def c65:AC:=c65_21
def d65:FD:={nargs:=1,body:=c65,res:=[.t 2]}
def c42_2:AC:=(.seq (.out [0] (.reg [0] [w 2 (.asg (.c .bool false))])) (.seq (.out [2] (.reg [0] [m 3 0,w 4 (.bin .neq 3 (.c .str [])),m 5 4,⟨some 6,.mv 0,some (5,true)⟩,⟨some 7,.lenS 6,some (5,true)⟩,⟨some 8,.bin .leq 7 (.c U2 20),some (5,true)⟩,w 9 (.pick 5 8 (.c .bool false)),m 10 9,⟨some 11,.mv 0,some (10,true)⟩,⟨some 12,.call 65 [11],some (10,true)⟩,⟨some 13,.mv 0,some (10,true)⟩,⟨some 14,.lenS 13,some (10,true)⟩,⟨some 15,.bin .eql 12 14,some (10,true)⟩,w 16 (.pick 10 15 (.c .bool false)),w 2 (.asg 16)])) .ret))
def c42:AC:=c42_2
def d42:FD:={nargs:=1,body:=c42,res:=[.t 2]}
def c80_2:AC:=(.seq (.out [0,1] (.reg [0,1] [w 4 (.asg (.c U2 0))])) (.seq (.out [4] (.reg [0,1] [m 5 0,m 6 1,w 7 (.call 86 [5,6]),w 4 (.asg 7)])) .ret))
def c80:AC:=c80_2
def d80:FD:={nargs:=2,body:=c80,res:=[.t 4]}
def c89_2:AC:=(.seq (.out [0] (.reg [0] [w 2 (.asg (.c .bool false))])) (.seq (.out [2] (.reg [0] [m 3 0,w 4 (.bin .geq 3 (.c U1 32)),m 5 4,⟨some 6,.mv 0,some (5,true)⟩,⟨some 7,.bin .leq 6 (.c U1 126),some (5,true)⟩,w 8 (.pick 5 7 (.c .bool false)),m 9 8,⟨some 10,.mv 0,some (9,true)⟩,⟨some 11,.call 80 [(.c .str [32,46,44,59,58,33,63,34,45,91,93,60,62,123,125]),10],some (9,true)⟩,⟨some 12,.bin .lss 11 (.c U2 0),some (9,true)⟩,w 13 (.pick 9 12 (.c .bool false)),w 2 (.asg 13)])) .ret))
def c89:AC:=c89_2
def d89:FD:={nargs:=1,body:=c89,res:=[.t 2]}
def c88_2:AC:=(.seq (.out [0] (.reg [0] [w 2 (.asg (.c .bool false))])) (.seq (.out [2] (.reg [0] [m 3 0,w 4 (.call 89 [3]),w 5 (.un .not 4),w 2 (.asg 5)])) .ret))
def c88:AC:=c88_2
def d88:FD:={nargs:=1,body:=c88,res:=[.t 2]}
def c92_0:AC:=.out [0,1] (.reg [0,1] [w 4 (.asg (.c U2 0))])
def c92_1:AC:=.out [0,1,7,8] (.reg [0,1] [m 6 0,w 7 (.lenL 6),w 8 (.mv (.c U2 0))])
def c92_2:AC:=.out [0,1,7,8,9] (.reg [0,1,7,8] [w 9 (.bin .lss 8 7)])
def c92_3:AC:=.out [0,1,7,8] (.cond (.t 9) .skip (.exit 0))
def c92_6:AC:=.out [4] (.reg [5] [m 17 5,w 4 (.asg 17)])
def c92_7:AC:=.out [0,1,4,7,8] (.cond (.t 16) (.seq c92_6 .ret) .skip)
def c92_8:AC:=(.seq (.out [0,1,5,7,8] (.reg [0,1,7,8] [m 10 8,w 5 (.asg 10)])) (.seq (.out [0,1,5,7,8,16] (.reg [0,1,5,7,8] [m 11 1,m 12 0,m 13 5,w 14 (.indexAddr U1 12 13),w 15 (.load U1 14),w 16 (.callv 11 [15])])) c92_7))
def c92_9:AC:=.out [0,1,4,7,8] (.block 1 c92_8)
def c92_10:AC:=.out [0,1,7,8] (.reg [0,1,7,8] [w 18 (.bin .add 8 (.c U2 1)),m 8 18])
def c92_11:AC:=(.seq c92_2 (.seq c92_3 (.seq c92_9 c92_10)))
def c92_12:AC:=.out [4] (.loop [0,1,7,8] c92_11)
def c92_13:AC:=.out [4] (.block 0 c92_12)
def c92_14:AC:=.out [4] (.reg [] [w 4 (.asg (.c U2 (-1)))])
def c92_15:AC:=(.seq c92_0 (.seq (.seq c92_1 c92_13) (.seq c92_14 .ret)))
def c92:AC:=c92_15
def d92:FD:={nargs:=2,body:=c92,res:=[.t 4]}
def c87_2:AC:=(.seq (.out [0,1] (.reg [0,1] [w 4 (.asg (.c .bool false))])) (.seq (.out [4] (.reg [0,1] [m 5 0,m 6 1,w 7 (.call 92 [5,6]),w 8 (.bin .geq 7 (.c U2 0)),w 4 (.asg 8)])) .ret))
def c87:AC:=c87_2
def d87:FD:={nargs:=2,body:=c87,res:=[.t 4]}
def c90_0:AC:=.out [0,1] (.reg [0,1] [w 4 (.asg (.c .str []))])
def c90_1:AC:=.out [0,1,12] (.reg [0,1] [m 11 0,w 12 (.lenL 11)])
def c90_2:AC:=.out [0,1,12,13] (.reg [0,1,12] [w 14 (.bin .eql 12 (.c U2 0)),w 13 (.asg 14)])
def c90_3:AC:=.out [4] (.reg [] [w 4 (.asg (.c .str []))])
def c90_4:AC:=.out [0,1,15] (.reg [0,1,12] [w 16 (.bin .eql 12 (.c U2 1)),w 15 (.asg 16)])
def c90_5:AC:=.out [4] (.reg [0] [m 17 0,w 18 (.indexAddr .str 17 (.c U2 0)),w 19 (.load .str 18),w 4 (.asg 19)])
def c90_6:AC:=.out [0,1,4] (.cond (.t 15) (.seq c90_5 .ret) .skip)
def c90_7:AC:=.out [0,1,4] (.cond (.t 13) (.seq c90_3 .ret) (.seq c90_4 c90_6))
def c90_8:AC:=.out [0,1,4] (.block 0 (.seq c90_2 c90_7))
def c90_9:AC:=.out [0,1,5] (.reg [0,1] [w 5 (.asg (.c U2 0))])
def c90_10:AC:=.out [0,1,5,22] (.reg [0,1,5] [m 20 1,w 21 (.lenS 20),w 22 (.bin .gtr 21 (.c U2 0))])
def c90_11:AC:=.out [0,1,5,29] (.reg [0,1,5] [m 23 1,w 24 (.lenS 23),m 25 0,w 26 (.lenL 25),w 27 (.bin .sub 26 (.c U2 1)),w 28 (.bin .quo (.c U2 9223372036854775807) 27),w 29 (.bin .geq 24 28)])
def c90_12:AC:=.out [] (.reg [0,1,5] [w 30 (.bad),⟨none,.bad,none⟩])
def c90_13:AC:=.out [0,1,5] (.cond (.t 29) c90_12 .skip)
def c90_14:AC:=.out [0,1,5] (.reg [0,1,5] [m 31 5,m 32 1,w 33 (.lenS 32),m 34 0,w 35 (.lenL 34),w 36 (.bin .sub 35 (.c U2 1)),w 37 (.bin .mul 33 36),w 38 (.bin .add 31 37),w 5 (.asg 38)])
def c90_15:AC:=.out [0,1,5] (.cond (.t 22) (.seq (.seq c90_11 c90_13) c90_14) .skip)
def c90_16:AC:=(.seq c90_10 c90_15)
def c90_17:AC:=.out [0,1,5,39,40,41] (.reg [0,1,5] [m 39 0,w 40 (.lenL 39),w 41 (.mv (.c U2 0))])
def c90_18:AC:=.out [0,1,5,39,40,41,42] (.reg [0,1,5,39,40,41] [w 42 (.bin .lss 41 40)])
def c90_19:AC:=.out [0,1,5,39,40,41] (.cond (.t 42) .skip (.exit 1))
def c90_20:AC:=.out [0,1,5,7,39,40,41] (.reg [0,1,5,39,40,41] [w 43 (.indexAddr .str 39 41),w 44 (.load .str 43),w 7 (.asg 44)])
def c90_21:AC:=.out [0,1,5,7,39,40,41,49] (.reg [0,1,5,7,39,40,41] [m 45 7,w 46 (.lenS 45),m 47 5,w 48 (.bin .sub (.c U2 9223372036854775807) 47),w 49 (.bin .gtr 46 48)])
def c90_22:AC:=.out [] (.reg [0,1,5,7,39,40,41] [w 50 (.bad),⟨none,.bad,none⟩])
def c90_23:AC:=.out [0,1,5,7,39,40,41] (.cond (.t 49) c90_22 .skip)
def c90_24:AC:=.out [0,1,5,39,40,41] (.reg [0,1,5,7,39,40,41] [m 51 5,m 52 7,w 53 (.lenS 52),w 54 (.bin .add 51 53),w 5 (.asg 54)])
def c90_25:AC:=.out [0,1,5,39,40,41] (.block 2 (.seq c90_20 (.seq (.seq c90_21 c90_23) c90_24)))
def c90_26:AC:=.out [0,1,5,39,40,41] (.reg [0,1,5,39,40,41] [w 55 (.bin .add 41 (.c U2 1)),m 41 55])
def c90_27:AC:=(.seq c90_18 (.seq c90_19 (.seq c90_25 c90_26)))
def c90_28:AC:=.out [0,1,5] (.loop [0,1,5,39,40,41] c90_27)
def c90_29:AC:=.out [0,1,5] (.block 1 c90_28)
def c90_46:AC:=(.seq (.out [0,1,5,8] (.reg [0,1,5] [w 8 (.sbn 102 5)])) (.seq (.out [] (.reg [0,1,5,8] [m 56 5,w 57 (.lnd 93 8 [56])])) (.seq (.out [] (.reg [] [m 58 0,w 59 (.indexAddr .str 58 (.c U2 0)),w 60 (.load .str 59),w 61 (.sbw 94 8 60)])) (.seq (.seq (.out [] (.reg [] [m 62 0,w 63 (.sliceL .str 62 (some (.c U2 1)) none none),w 64 (.lenL 63),w 65 (.mv (.c U2 0))])) (.out [] (.block 3 (.out [] (.loop [] (.seq (.out [] (.reg [] [w 66 (.bin .lss 65 64)])) (.seq (.out [] (.cond (.t 66) .skip (.exit 3))) (.seq (.out [] (.block 4 (.seq (.out [] (.reg [] [w 67 (.indexAddr .str 63 65),w 68 (.load .str 67),w 10 (.asg 68)])) (.seq (.out [] (.reg [] [m 69 1,w 70 (.sbw 94 8 69)])) (.out [] (.reg [] [m 71 10,w 72 (.sbw 94 8 71)])))))) (.out [] (.reg [] [w 73 (.bin .add 65 (.c U2 1)),m 65 73])))))))))) (.seq (.out [] (.reg [] [w 74 (.sbs 95 8),w 4 (.asg 74)])) .ret)))))
def c90_47:AC:=(.seq c90_0 (.seq (.seq c90_1 c90_8) (.seq c90_9 (.seq c90_16 (.seq (.seq c90_17 c90_29) c90_46)))))
def c90:AC:=c90_47
def d90:FD:={nargs:=2,body:=c90,res:=[.t 4]}
def c83_0:AC:=.out [0] (.reg [0] [w 2 (.asg (.c .str [])),w 3 (.asg (.c U2 0))])
def c83_1:AC:=.out [0,7,8,9] (.reg [0] [m 7 0,w 8 (.lenL 7),w 9 (.mv (.c U2 0))])
def c83_2:AC:=.out [0,7,8,9,10] (.reg [0,7,8,9] [w 10 (.bin .lss 9 8)])
def c83_3:AC:=.out [0,7,8,9] (.cond (.t 10) .skip (.exit 0))
def c83_4:AC:=.out [0,5,7,8,9] (.reg [0,7,8,9] [w 11 (.indexAddr .str 7 9),w 12 (.load .str 11),w 5 (.asg 12)])
def c83_5:AC:=.out [0,5,7,8,9,14] (.reg [0,5,7,8,9] [m 13 5,w 14 (.bin .eql 13 (.c .str []))])
def c83_6:AC:=.out [2,3] (.reg [] [w 2 (.asg (.c .str [])),w 3 (.asg (.c U2 7))])
def c83_7:AC:=.out [0,2,3,5,7,8,9] (.cond (.t 14) (.seq c83_6 .ret) .skip)
def c83_8:AC:=.out [0,7,8,9,17] (.reg [0,5,7,8,9] [m 15 5,w 16 (.toSl 15),w 17 (.call 87 [16,(.fn 88 U6 .bool)])])
def c83_9:AC:=.out [2,3] (.reg [] [w 2 (.asg (.c .str [])),w 3 (.asg (.c U2 2))])
def c83_10:AC:=.out [0,2,3,7,8,9] (.cond (.t 17) (.seq c83_9 .ret) .skip)
def c83_11:AC:=.out [0,2,3,7,8,9] (.block 1 (.seq c83_4 (.seq (.seq c83_5 c83_7) (.seq c83_8 c83_10))))
def c83_12:AC:=.out [0,7,8,9] (.reg [0,7,8,9] [w 18 (.bin .add 9 (.c U2 1)),m 9 18])
def c83_13:AC:=(.seq c83_2 (.seq c83_3 (.seq c83_11 c83_12)))
def c83_14:AC:=.out [0,2,3] (.loop [0,7,8,9] c83_13)
def c83_15:AC:=.out [0,2,3] (.block 0 c83_14)
def c83_16:AC:=.out [6] (.reg [0] [m 19 0,w 20 (.call 90 [19,(.c .str [32])]),w 6 (.asg 20)])
def c83_17:AC:=.out [6,23] (.reg [6] [m 21 6,w 22 (.lenS 21),w 23 (.bin .gtr 22 (.c U2 120))])
def c83_18:AC:=.out [2,3] (.reg [] [w 2 (.asg (.c .str [])),w 3 (.asg (.c U2 3))])
def c83_19:AC:=.out [2,3,6] (.cond (.t 23) (.seq c83_18 .ret) .skip)
def c83_20:AC:=.out [2,3] (.reg [6] [m 24 6,w 2 (.asg 24),w 3 (.asg (.c U2 0))])
def c83_21:AC:=(.seq c83_0 (.seq (.seq c83_1 c83_15) (.seq c83_16 (.seq (.seq c83_17 c83_19) (.seq c83_20 .ret)))))
def c83:AC:=c83_21
def d83:FD:={nargs:=1,body:=c83,res:=[.t 2,.t 3]}
def c66_0:AC:=.out [0] (.reg [0] [w 2 (.asg (.c U2 0))])
def c66_1:AC:=.out [0,7] (.reg [0] [m 5 0,w 6 (.lenS 5),w 7 (.bin .gtr 6 (.c U2 16))])
def c66_2:AC:=.out [2] (.reg [] [w 2 (.asg (.c U2 3))])
def c66_3:AC:=.out [0,2] (.cond (.t 7) (.seq c66_2 .ret) .skip)
def c66_6:AC:=.out [2] (.reg [] [w 2 (.asg (.c U2 2))])
def c66_7:AC:=.out [2] (.cond (.t 21) (.seq c66_6 .ret) .skip)
def c66_8:AC:=(.seq (.out [0,4] (.reg [0] [m 9 0,w 10 (.buildSlice 9 .str [9]),w 11 (.call 83 [10]),m 8 11,w 12 (.extract 8 0),w 13 (.extract 8 1),w 3 (.asg 12),w 4 (.asg 13)])) (.seq (.out [21] (.reg [0,4] [m 14 4,w 15 (.bin .neq 14 (.c U2 0)),m 16 15,⟨some 17,.mv 0,some (16,false)⟩,⟨some 18,.call 44 [17],some (16,false)⟩,⟨some 19,.mv 0,some (16,false)⟩,⟨some 20,.bin .neq 18 19,some (16,false)⟩,w 21 (.pick 16 (.c .bool true) 20)])) c66_7))
def c66_9:AC:=.out [2] (.reg [] [w 2 (.asg (.c U2 0))])
def c66_10:AC:=(.seq c66_0 (.seq (.seq c66_1 c66_3) (.seq c66_8 (.seq c66_9 .ret))))
def c66:AC:=c66_10
def d66:FD:={nargs:=1,body:=c66,res:=[.t 2]}
def c43_0:AC:=.out [1] (.reg [0] [w 1 (.box U13 0),w 2 (.asg (.c U2 0))])
def c43_1:AC:=.out [1,6] (.reg [1] [w 7 (.fieldAddr U13 [.l] 1),w 8 (.load U2 7),w 9 (.bin .lss 8 (.c U2 1)),m 10 9,⟨some 11,.fieldAddr U13 [.l] 1,some (10,false)⟩,⟨some 12,.load U2 11,some (10,false)⟩,⟨some 13,.bin .gtr 12 (.c U2 12),some (10,false)⟩,w 14 (.pick 10 (.c .bool true) 13),m 15 14,⟨some 16,.fieldAddr U13 [.r,.l] 1,some (15,false)⟩,⟨some 17,.load U2 16,some (15,false)⟩,⟨some 18,.bin .lss 17 (.c U2 0),some (15,false)⟩,w 19 (.pick 15 (.c .bool true) 18),m 20 19,⟨some 21,.fieldAddr U13 [.r,.l] 1,some (20,false)⟩,⟨some 22,.load U2 21,some (20,false)⟩,⟨some 23,.bin .gtr 22 (.c U2 999),some (20,false)⟩,w 24 (.pick 20 (.c .bool true) 23),w 6 (.asg 24)])
def c43_2:AC:=.out [2] (.reg [] [w 2 (.asg (.c U2 6))])
def c43_3:AC:=.out [1,25] (.reg [1] [w 26 (.fieldAddr U13 [.r,.r,.l] 1),w 27 (.load U0 26),w 28 (.lenL 27),w 29 (.bin .gtr 28 (.c U2 20)),w 25 (.asg 29)])
def c43_4:AC:=.out [2] (.reg [] [w 2 (.asg (.c U2 3))])
def c43_5:AC:=.out [1,2] (.cond (.t 25) (.seq c43_4 .ret) .skip)
def c43_6:AC:=.out [1,2] (.cond (.t 6) (.seq c43_2 .ret) (.seq c43_3 c43_5))
def c43_7:AC:=.out [1,2] (.block 0 (.seq c43_1 c43_6))
def c43_8:AC:=.out [1,31,32,33] (.reg [1] [w 30 (.fieldAddr U13 [.r,.r,.l] 1),w 31 (.load U0 30),w 32 (.lenL 31),w 33 (.mv (.c U2 0))])
def c43_9:AC:=.out [1,31,32,33,34] (.reg [1,31,32,33] [w 34 (.bin .lss 33 32)])
def c43_10:AC:=.out [1,31,32,33] (.cond (.t 34) .skip (.exit 1))
def c43_11:AC:=.out [1,3,4,31,32,33] (.reg [1,31,32,33] [m 35 33,w 36 (.indexAddr .str 31 33),w 37 (.load .str 36),w 3 (.asg 35),w 4 (.asg 37)])
def c43_14:AC:=.out [2] (.reg [5] [m 42 5,w 2 (.asg 42)])
def c43_15:AC:=.out [1,2,3,4,31,32,33] (.cond (.t 41) (.seq c43_14 .ret) .skip)
def c43_16:AC:=(.seq (.out [1,3,4,5,31,32,33] (.reg [1,3,4,31,32,33] [m 38 4,w 39 (.call 66 [38]),w 5 (.asg 39)])) (.seq (.out [1,3,4,5,31,32,33,41] (.reg [1,3,4,5,31,32,33] [m 40 5,w 41 (.bin .neq 40 (.c U2 0))])) c43_15))
def c43_17:AC:=.out [1,31,32,33,48] (.reg [1,3,4,31,32,33] [w 43 (.fieldAddr U13 [.r,.r,.l] 1),w 44 (.load U0 43),m 45 3,w 46 (.sliceL .str 44 none (some 45) none),m 47 4,w 48 (.call 67 [46,47])])
def c43_18:AC:=.out [2] (.reg [] [w 2 (.asg (.c U2 5))])
def c43_19:AC:=.out [1,2,31,32,33] (.cond (.t 48) (.seq c43_18 .ret) .skip)
def c43_20:AC:=.out [1,2,31,32,33] (.block 2 (.seq c43_11 (.seq c43_16 (.seq c43_17 c43_19))))
def c43_21:AC:=.out [1,31,32,33] (.reg [1,31,32,33] [w 49 (.bin .add 33 (.c U2 1)),m 33 49])
def c43_22:AC:=(.seq c43_9 (.seq c43_10 (.seq c43_20 c43_21)))
def c43_23:AC:=.out [2] (.loop [1,31,32,33] c43_22)
def c43_24:AC:=.out [2] (.block 1 c43_23)
def c43_25:AC:=.out [2] (.reg [] [w 2 (.asg (.c U2 0))])
def c43_26:AC:=(.seq c43_0 (.seq c43_7 (.seq (.seq c43_8 c43_24) (.seq c43_25 .ret))))
def c43:AC:=c43_26
def d43:FD:={nargs:=1,body:=c43,res:=[.t 2]}
def c16_0:AC:=.out [1] (.reg [0] [w 1 (.box U18 0),w 2 (.asg (.c U2 0))])
def c16_1:AC:=.out [1,6] (.reg [1] [w 7 (.fieldAddr U18 [.l] 1),w 8 (.load .str 7),w 9 (.call 42 [8]),w 10 (.un .not 9),w 6 (.asg 10)])
def c16_2:AC:=.out [2] (.reg [] [w 2 (.asg (.c U2 2))])
def c16_3:AC:=.out [1,11] (.reg [1] [w 12 (.fieldAddr U18 [.r,.l] 1),w 13 (.load U15 12),w 14 (.lenL 13),w 15 (.bin .gtr 14 (.c U2 30)),w 11 (.asg 15)])
def c16_4:AC:=.out [2] (.reg [] [w 2 (.asg (.c U2 3))])
def c16_5:AC:=.out [1,2] (.cond (.t 11) (.seq c16_4 .ret) .skip)
def c16_6:AC:=.out [1,2] (.cond (.t 6) (.seq c16_2 .ret) (.seq c16_3 c16_5))
def c16_7:AC:=.out [1,2] (.block 0 (.seq c16_1 c16_6))
def c16_8:AC:=.out [17,18,19] (.reg [1] [w 16 (.fieldAddr U18 [.r,.l] 1),w 17 (.load U15 16),w 18 (.lenL 17),w 19 (.mv (.c U2 0))])
def c16_9:AC:=.out [17,18,19,20] (.reg [17,18,19] [w 20 (.bin .lss 19 18)])
def c16_10:AC:=.out [17,18,19] (.cond (.t 20) .skip (.exit 1))
def c16_14:AC:=.out [2] (.reg [5] [m 27 5,w 2 (.asg 27)])
def c16_15:AC:=.out [2,17,18,19] (.cond (.t 26) (.seq c16_14 .ret) .skip)
def c16_16:AC:=(.seq (.out [4,17,18,19] (.reg [17,18,19] [w 21 (.indexAddr U13 17 19),w 22 (.load U13 21),w 4 (.alloc U13 (.pair .no (.pair .no (.pair (.own true 9 .no) .no)))),⟨none,.store U13 4 22,none⟩])) (.seq (.out [5,17,18,19] (.reg [4,17,18,19] [w 23 (.load U13 4),w 24 (.call 43 [23]),w 5 (.asg 24)])) (.seq (.out [5,17,18,19,26] (.reg [5,17,18,19] [m 25 5,w 26 (.bin .neq 25 (.c U2 0))])) c16_15)))
def c16_17:AC:=.out [2,17,18,19] (.block 2 c16_16)
def c16_18:AC:=.out [17,18,19] (.reg [17,18,19] [w 28 (.bin .add 19 (.c U2 1)),m 19 28])
def c16_19:AC:=(.seq c16_9 (.seq c16_10 (.seq c16_17 c16_18)))
def c16_20:AC:=.out [2] (.loop [17,18,19] c16_19)
def c16_21:AC:=.out [2] (.block 1 c16_20)
def c16_22:AC:=.out [2] (.reg [] [w 2 (.asg (.c U2 0))])
def c16_23:AC:=(.seq c16_0 (.seq c16_7 (.seq (.seq c16_8 c16_21) (.seq c16_22 .ret))))
def c16:AC:=c16_23
def d16:FD:={nargs:=1,body:=c16,res:=[.t 2]}
def c7:AC:=(.seq (.reg [] [w 0 (.asg (.c .bool false))]) (.seq (.reg [] [w 14 (.call 24 []),w 1 (.alloc U18 (.pair .no (.pair (.own true 57 .no) .no))),⟨none,.store U18 1 14,none⟩]) (.seq (.reg [1,14] [w 16 (.load U18 1),w 17 (.call 17 [16,(.c U2 11),(.c .str [97,114,109,97])]),m 15 17,w 18 (.extract 15 0),w 19 (.extract 15 1),w 2 (.asg 18),w 3 (.asg 19)]) (.seq (.reg [1,2,3,14] [w 21 (.load U18 1),w 22 (.call 17 [21,(.c U2 10),(.c .str [69,83,84])]),m 20 22,w 23 (.extract 20 0),w 24 (.extract 20 1),w 4 (.asg 23),w 5 (.asg 24)]) (.seq (.reg [1,2,3,5,14] [w 26 (.load U18 1),w 27 (.call 17 [26,(.c U2 10),(.c .str [97,114,109,97])]),m 25 27,w 28 (.extract 25 0),w 29 (.extract 25 1),w 6 (.asg 28),w 7 (.asg 29)]) (.seq (.reg [1,2,3,5,7,14] [w 31 (.call 13 [(.c .str [108,105,99,101,110,99,101,32,97,32,123,32,104,105,97,116,117,115,32,54,32,105,110,32,34,111,34,59,32,125])]),m 30 31,w 32 (.extract 30 0),w 33 (.extract 30 1),w 34 (.extract 30 2),w 8 (.alloc U18 (.pair .no (.pair (.own true 57 .no) .no))),⟨none,.store U18 8 32,none⟩,w 9 (.asg 33),w 10 (.asg 34)]) (.seq (.reg [1,2,3,5,7,8,10,14,32] [w 36 (.call 13 [(.c .str [108,105,99,101,110,99,101,32,97,32,123,32,104,105,97,116,32,54,59,32,125])]),m 35 36,w 37 (.extract 35 0),w 38 (.extract 35 1),w 39 (.extract 35 2),w 11 (.alloc U18 (.pair .no (.pair (.own true 57 .no) .no))),⟨none,.store U18 11 37,none⟩,w 12 (.asg 38),w 13 (.asg 39)]) (.seq (.draw [1,2,3,5,7,8,10,12,13,14,32] [⟨m 40 2,[],[40],[],false,[]⟩,⟨w 41 (.bin .eql 40 (.c U2 6)),[],[41],[0],false,[]⟩,⟨m 42 41,[],[42],[0,1],false,[]⟩,⟨⟨some 43,.mv 3,some (42,true)⟩,[],[43],[0,1,2],false,[]⟩,⟨w 44 (.pick 42 43 (.c .bool false)),[],[44],[0,1,2,3],false,[]⟩,⟨m 45 44,[],[45],[0,1,2,3,4],false,[]⟩,⟨⟨some 46,.mv 5,some (45,true)⟩,[],[46],[0,1,2,3,4,5],false,[]⟩,⟨w 47 (.pick 45 46 (.c .bool false)),[],[47],[0,1,2,3,4,5,6],false,[]⟩,⟨m 48 47,[],[48],[0,1,2,3,4,5,6,7],false,[]⟩,⟨⟨some 49,.mv 7,some (48,true)⟩,[],[49],[0,1,2,3,4,5,6,7,8],false,[]⟩,⟨⟨some 50,.un .not 49,some (48,true)⟩,[],[50],[0,1,2,3,4,5,6,7,8,9],false,[]⟩,⟨w 51 (.pick 48 50 (.c .bool false)),[],[51],[0,1,2,3,4,5,6,7,8,9,10],false,[]⟩,⟨m 52 51,[],[52],[0,1,2,3,4,5,6,7,8,9,10,11],false,[]⟩,⟨⟨some 53,.mv 10,some (52,true)⟩,[],[53],[0,1,2,3,4,5,6,7,8,9,10,11,12],false,[]⟩,⟨⟨some 54,.bin .eql 53 (.c U2 0),some (52,true)⟩,[],[54],[0,1,2,3,4,5,6,7,8,9,10,11,12,13],false,[]⟩,⟨w 55 (.pick 52 54 (.c .bool false)),[],[55],[0,1,2,3,4,5,6,7,8,9,10,11,12,13,14],false,[]⟩,⟨m 56 55,[],[56],[0,1,2,3,4,5,6,7,8,9,10,11,12,13,14,15],false,[]⟩,⟨⟨some 57,.fieldAddr U18 [.r,.l] 8,some (56,true)⟩,[],[57],[0,1,2,3,4,5,6,7,8,9,10,11,12,13,14,15,16],false,[]⟩,⟨⟨some 58,.load U15 57,some (56,true)⟩,[],[58],[0,1,2,3,4,5,6,7,8,9,10,11,12,13,14,15,16,17],false,[]⟩,⟨⟨some 59,.lenL 58,some (56,true)⟩,[],[59],[0,1,2,3,4,5,6,7,8,9,10,11,12,13,14,15,16,17,18],false,[]⟩,⟨⟨some 60,.bin .eql 59 (.c U2 1),some (56,true)⟩,[],[60],[0,1,2,3,4,5,6,7,8,9,10,11,12,13,14,15,16,17,18,19],false,[]⟩,⟨w 61 (.pick 56 60 (.c .bool false)),[],[61],[0,1,2,3,4,5,6,7,8,9,10,11,12,13,14,15,16,17,18,19,20],false,[]⟩,⟨m 62 61,[],[62],[0,1,2,3,4,5,6,7,8,9,10,11,12,13,14,15,16,17,18,19,20,21],false,[]⟩,⟨⟨some 63,.mv 12,some (62,true)⟩,[],[63],[0,1,2,3,4,5,6,7,8,9,10,11,12,13,14,15,16,17,18,19,20,21,22],false,[]⟩,⟨⟨some 64,.bin .eql 63 (.c U2 1),some (62,true)⟩,[],[64],[0,1,2,3,4,5,6,7,8,9,10,11,12,13,14,15,16,17,18,19,20,21,22,23],false,[]⟩,⟨w 65 (.pick 62 64 (.c .bool false)),[],[65],[0,1,2,3,4,5,6,7,8,9,10,11,12,13,14,15,16,17,18,19,20,21,22,23,24],false,[]⟩,⟨m 66 65,[],[66],[0,1,2,3,4,5,6,7,8,9,10,11,12,13,14,15,16,17,18,19,20,21,22,23,24,25],false,[]⟩,⟨⟨some 67,.mv 13,some (66,true)⟩,[],[67],[0,1,2,3,4,5,6,7,8,9,10,11,12,13,14,15,16,17,18,19,20,21,22,23,24,25,26],false,[]⟩,⟨⟨some 68,.bin .eql 67 (.c U2 9),some (66,true)⟩,[],[68],[0,1,2,3,4,5,6,7,8,9,10,11,12,13,14,15,16,17,18,19,20,21,22,23,24,25,26,27],false,[]⟩,⟨w 69 (.pick 66 68 (.c .bool false)),[],[69],[0,1,2,3,4,5,6,7,8,9,10,11,12,13,14,15,16,17,18,19,20,21,22,23,24,25,26,27,28],false,[]⟩,⟨m 70 69,[],[70],[0,1,2,3,4,5,6,7,8,9,10,11,12,13,14,15,16,17,18,19,20,21,22,23,24,25,26,27,28,29],false,[]⟩,⟨⟨some 71,.load U18 1,some (70,true)⟩,[72],[71],[0,1,2,3,4,5,6,7,8,9,10,11,12,13,14,15,16,17,18,19,20,21,22,23,24,25,26,27,28,29,30],false,[]⟩,⟨⟨some 72,.call 25 [],some (70,true)⟩,[71],[72],[0,1,2,3,4,5,6,7,8,9,10,11,12,13,14,15,16,17,18,19,20,21,22,23,24,25,26,27,28,29,30],false,[]⟩,⟨⟨some 73,.call 14 [71,72],some (70,true)⟩,[],[73],[0,1,2,3,4,5,6,7,8,9,10,11,12,13,14,15,16,17,18,19,20,21,22,23,24,25,26,27,28,29,30,31,32],false,[]⟩,⟨w 74 (.pick 70 73 (.c .bool false)),[],[74],[0,1,2,3,4,5,6,7,8,9,10,11,12,13,14,15,16,17,18,19,20,21,22,23,24,25,26,27,28,29,30,31,32,33],false,[]⟩,⟨w 0 (.asg 74),[],[0],[0,1,2,3,4,5,6,7,8,9,10,11,12,13,14,15,16,17,18,19,20,21,22,23,24,25,26,27,28,29,30,31,32,33,34],false,[]⟩]) .ret))))))))
def d7:FD:={nargs:=0,body:=c7,res:=[.t 0]}
def c11:AC:=(.seq (.reg [0] [w 2 (.asg (.nil 36 U12)),w 3 (.asg (.c U2 0)),w 4 (.asg (.c U2 0))]) (.seq (.seq (.reg [0] [m 11 0,w 12 (.lenS 11),w 13 (.bin .gtr 12 (.c U2 20000))]) (.cond (.t 13) (.seq (.reg [] [w 2 (.asg (.nil 36 U12)),w 3 (.asg (.c U2 0)),w 4 (.asg (.c U2 3))]) .ret) .skip)) (.seq (.reg [0] [w 5 (.asg (.nil 36 U12))]) (.seq (.reg [0,5,52] [w 6 (.asg (.c U2 1))]) (.seq (.reg [0,5,6,52] [w 7 (.asg (.c U2 0))]) (.block 0 (.loop [0,5,6,7,52] (.block 1 (.seq (.reg [0,5,6,7,52] [m 14 0,m 15 7,w 16 (.sliceS 14 (some 15) none),w 17 (.call 31 [16]),w 8 (.asg 17)]) (.seq (.reg [0,5,6,7,8,52] [m 18 6,m 19 0,m 20 7,m 21 7,m 22 8,w 23 (.bin .add 21 22),w 24 (.sliceS 19 (some 20) (some 23)),w 25 (.call 32 [24]),w 26 (.bin .add 18 25),w 6 (.asg 26)]) (.seq (.reg [0,5,6,7,8,52] [m 27 7,m 28 8,w 29 (.bin .add 27 28),w 7 (.asg 29)]) (.seq (.seq (.reg [0,5,6,7,52] [m 30 7,m 31 0,w 32 (.lenS 31),w 33 (.bin .eql 30 32)]) (.cond (.t 33) (.seq (.reg [5,52] [m 34 5,w 2 (.asg 34),w 3 (.asg (.c U2 0)),w 4 (.asg (.c U2 0))]) .ret) .skip)) (.seq (.reg [0,5,6,7,52] [m 36 0,m 37 7,w 38 (.sliceS 36 (some 37) none),w 39 (.call 33 [38]),m 35 39,w 40 (.extract 35 0),w 41 (.extract 35 1),w 42 (.extract 35 2),w 9 (.alloc U12 .no),⟨none,.store U12 9 40,none⟩,w 8 (.asg 41),w 10 (.asg 42)]) (.seq (.seq (.reg [0,5,6,7,8,9,10,40,52] [m 43 10,w 44 (.bin .neq 43 (.c U2 0))]) (.cond (.t 44) (.seq (.reg [6,10] [m 45 6,m 46 10,w 2 (.asg (.nil 36 U12)),w 3 (.asg 45),w 4 (.asg 46)]) .ret) .skip)) (.seq (.reg [0,5,6,7,8,9,40,52] [m 47 6,w 48 (.fieldAddr U12 [.r,.r,.l] 9),⟨none,.store U2 48 47,none⟩]) (.seq (.reg [0,5,6,7,8,9,40,52] [m 49 5,w 50 (.load U12 9),w 51 (.buildSlice 36 U12 [50]),w 52 (.append 36 U12 4398046511104 49 51),w 5 (.asg 52)]) (.reg [0,5,6,7,8,52] [m 53 7,m 54 8,w 55 (.bin .add 53 54),w 7 (.asg 55)])))))))))))))))))
def d11:FD:={nargs:=1,body:=c11,res:=[.t 2,.t 3,.t 4]}
def c13:AC:=(.seq (.reg [0] [w 2 (.alloc U18 .no),w 3 (.asg (.c U2 0)),w 4 (.asg (.c U2 0))]) (.seq (.reg [0,2,9,25,83,107,117,119] [m 18 0,w 19 (.call 35 [18]),m 17 19,w 20 (.extract 17 0),w 21 (.extract 17 1),w 22 (.extract 17 2),w 5 (.asg 20),w 6 (.asg 21),w 7 (.asg 22)]) (.seq (.seq (.reg [2,5,6,7,9,20,25,83,107,117,119] [m 23 7,w 24 (.bin .neq 23 (.c U2 0))]) (.cond (.t 24) (.seq (.reg [2,6,7,9,25,83,107,117,119] [w 25 (.buildN U18 (.pair .no (.pair (.own true 57 .no) .no)) []),m 26 6,m 27 7,⟨none,.store U18 2 25,none⟩,w 3 (.asg 26),w 4 (.asg 27)]) .ret) .skip)) (.seq (.reg [2,5,9,20,25,83,107,117,119] [m 28 5,w 29 (.build U19 [([.l],28)]),w 30 (.box U19 29),w 8 (.asg 30)]) (.seq (.reg [2,5,8,9,20,25,30,83,107,117,119] [w 9 (.alloc U18 (.pair .no (.pair (.own true 57 .no) .no)))]) (.seq (.reg [2,5,8,9,20,25,30,83,107,117,119] [w 10 (.asg (.nil 9 .str))]) (.seq (.reg [2,5,8,9,10,20,25,30,66,83,107,117,119] [w 11 (.asg (.nil 3 U2))]) (.seq (.reg [2,5,8,9,10,11,20,25,30,52,66,83,107,117,119] [m 31 8,w 32 (.lnd 36 31 [(.c U2 1),(.c .str [108,105,99,101,110,99,101])])]) (.seq (.reg [2,5,8,9,10,11,20,25,30,52,66,83,107,117,119] [m 33 8,w 34 (.lnd 36 33 [(.c U2 1),(.c .str [])]),w 35 (.fieldAddr U18 [.l] 9),⟨none,.store .str 35 34,none⟩]) (.seq (.reg [2,5,8,9,10,11,20,25,30,52,66,83,107,117,119] [m 36 8,w 37 (.lnd 36 36 [(.c U2 4),(.c .str [123])])]) (.seq (.block 0 (.loop [2,5,8,9,10,11,20,25,30,52,66,83,107,117,119] (.seq (.seq (.reg [2,5,8,9,10,11,20,25,30,52,66,83,107,117,119] [m 38 8,w 39 (.nilck 38),w 40 (.fieldAddr U19 [.r,.r,.l] 39),w 41 (.load .bool 40),w 42 (.un .not 41),m 43 42,⟨some 44,.mv 8,some (43,true)⟩,⟨some 45,.call 37 [44,(.c U2 4),(.c .str [125])],some (43,true)⟩,⟨some 46,.un .not 45,some (43,true)⟩,w 47 (.pick 43 46 (.c .bool false))]) (.cond (.t 47) .skip (.exit 0))) (.block 1 (.seq (.reg [2,5,8,9,10,11,20,25,30,52,66,83,107,117,119] [m 48 11,m 49 8,w 50 (.call 38 [49]),w 51 (.buildSlice 3 U2 [50]),w 52 (.append 3 U2 17592186044416 48 51),w 11 (.asg 52)]) (.seq (.reg [2,5,8,9,10,11,20,25,30,52,66,83,107,117,119] [m 54 8,w 55 (.lnd 39 54 []),m 53 55,w 56 (.extract 53 0),w 57 (.extract 53 1),w 12 (.alloc U13 (.pair .no (.pair .no (.pair (.own true 9 .no) .no)))),⟨none,.store U13 12 56,none⟩,w 13 (.asg 57)]) (.reg [2,5,8,9,10,11,12,13,20,25,30,52,56,66,83,107,117,119] [w 58 (.fieldAddr U18 [.r,.l] 9),w 59 (.load U15 58),w 60 (.load U13 12),w 61 (.buildSlice 57 U13 [60]),w 62 (.append 57 U13 3518437208883 59 61),m 63 10,m 64 13,w 65 (.buildSlice 9 .str [64]),w 66 (.append 9 .str 8796093022208 63 65),w 67 (.fieldAddr U18 [.r,.l] 9),⟨none,.store U15 67 62,none⟩,w 10 (.asg 66)]))))))) (.seq (.reg [2,5,8,9,10,11,20,25,30,52,66,83,107,117,119] [m 68 8,w 69 (.lnd 36 68 [(.c U2 4),(.c .str [125])])]) (.seq (.seq (.reg [2,5,8,9,10,11,20,25,30,52,66,83,107,117,119] [m 70 8,w 71 (.nilck 70),w 72 (.fieldAddr U19 [.r,.r,.l] 71),w 73 (.load .bool 72),m 74 73,⟨some 75,.mv 8,some (74,false)⟩,⟨some 76,.nilck 75,some (74,false)⟩,⟨some 77,.fieldAddr U19 [.r,.l] 76,some (74,false)⟩,⟨some 78,.load U2 77,some (74,false)⟩,⟨some 79,.mv 5,some (74,false)⟩,⟨some 80,.lenL 79,some (74,false)⟩,⟨some 81,.bin .lss 78 80,some (74,false)⟩,w 82 (.pick 74 (.c .bool true) 81)]) (.cond (.t 82) (.seq (.reg [2,8,9,25,30,83,107,117,119] [w 83 (.buildN U18 (.pair .no (.pair (.own true 57 .no) .no)) []),m 84 8,w 85 (.call 38 [84]),⟨none,.store U18 2 83,none⟩,w 3 (.asg 85),w 4 (.asg (.c U2 2))]) .ret) .skip)) (.seq (.seq (.reg [2,9,10,11,25,52,66,83,107,117,119] [m 86 10,w 87 (.lenL 86),w 88 (.mv (.c U2 0))]) (.block 2 (.loop [2,9,10,11,25,52,66,83,86,87,88,107,117,119] (.seq (.reg [2,9,10,11,25,52,66,83,86,87,88,107,117,119] [w 89 (.bin .lss 88 87)]) (.seq (.cond (.t 89) .skip (.exit 2)) (.seq (.block 3 (.seq (.reg [2,9,10,11,25,52,66,83,86,87,88,107,117,119] [m 90 88,w 91 (.indexAddr .str 86 88),w 92 (.load .str 91),w 14 (.asg 90),w 15 (.asg 92)]) (.seq (.draw [2,9,10,11,14,15,25,52,66,83,86,87,88,107,117,119] [⟨w 93 (.fieldAddr U18 [.r,.l] 9),[95,96,97],[93],[],false,[]⟩,⟨w 94 (.load U15 93),[95,96,97],[94],[0],false,[]⟩,⟨m 95 14,[93,94,96,97],[95],[],false,[]⟩,⟨m 96 15,[93,94,95],[96],[],false,[]⟩,⟨w 97 (.call 40 [96]),[93,94,95],[97],[3],false,[]⟩,⟨w 98 (.indexAddr U13 94 95),[],[98],[0,1,2,3,4],false,[]⟩,⟨w 99 (.fieldAddr U13 [.l] 98),[],[99],[0,1,2,3,4,5],false,[]⟩,⟨⟨none,.store U2 99 97,none⟩,[],[9,93,94,98,99],[0,1,2,3,4,5,6],true,[]⟩]) (.seq (.reg [2,9,10,11,14,25,52,66,83,86,87,88,107,117,119] [w 100 (.fieldAddr U18 [.r,.l] 9),w 101 (.load U15 100),m 102 14,w 103 (.indexAddr U13 101 102),w 104 (.fieldAddr U13 [.l] 103),w 105 (.load U2 104),w 106 (.bin .eql 105 (.c U2 0))]) (.cond (.t 106) (.seq (.draw [2,9,11,14,25,52,83,107,117,119] [⟨w 107 (.build U18 []),[108,109,110,111],[107],[],false,[]⟩,⟨m 108 11,[2,107,109],[108],[],false,[]⟩,⟨m 109 14,[2,107,108],[109],[],false,[]⟩,⟨w 110 (.indexAddr U2 108 109),[2,107],[110],[1,2],false,[]⟩,⟨w 111 (.load U2 110),[2,107],[111],[1,2,3],false,[]⟩,⟨⟨none,.store U18 2 107,none⟩,[108,109,110,111],[2],[0],false,[]⟩,⟨w 3 (.asg 111),[],[3],[0,1,2,3,4,5],false,[]⟩,⟨w 4 (.asg (.c U2 9)),[],[4],[0,1,2,3,4,5,6],false,[]⟩]) .ret) .skip))))) (.reg [2,9,10,11,25,52,66,83,86,87,88,107,117,119] [w 112 (.bin .add 88 (.c U2 1)),m 88 112]))))))) (.seq (.seq (.reg [2,9,25,83,107,117,119] [w 113 (.load U18 9),w 114 (.call 16 [113]),w 16 (.asg 114)]) (.seq (.reg [2,9,16,25,83,107,117,119] [m 115 16,w 116 (.bin .neq 115 (.c U2 0))]) (.cond (.t 116) (.seq (.reg [2,9,16,25,83,107,117,119] [w 117 (.buildN U18 (.pair .no (.pair (.own true 57 .no) .no)) []),m 118 16,⟨none,.store U18 2 117,none⟩,w 3 (.asg (.c U2 0)),w 4 (.asg 118)]) .ret) .skip))) (.seq (.reg [2,9,25,83,107,117,119] [w 119 (.load U18 9),⟨none,.store U18 2 119,none⟩,w 3 (.asg (.c U2 0)),w 4 (.asg (.c U2 0))]) .ret))))))))))))))))
def d13:FD:={nargs:=1,body:=c13,res:=[.cell 2 U18,.t 3,.t 4]}
def c24:AC:=(.seq (.reg [] [w 0 (.alloc U18 (.pair .no (.pair (.own true 57 .no) .no)))]) (.seq (.reg [0,13] [w 1 (.build U13 [([.l],(.c U2 1)),([.r,.l],(.c U2 1))]),w 2 (.build U13 [([.l],(.c U2 3)),([.r,.l],(.c U2 1))]),w 3 (.build U13 [([.l],(.c U2 4)),([.r,.l],(.c U2 1))]),w 4 (.build U13 [([.l],(.c U2 7)),([.r,.l],(.c U2 4))]),w 5 (.build U13 [([.l],(.c U2 8))]),w 6 (.build U13 [([.l],(.c U2 9))]),w 7 (.buildSlice 9 .str [(.c .str [101,115]),(.c .str [101,115,116])]),w 8 (.build U13 [([.l],(.c U2 10)),([.r,.r,.l],7)]),w 9 (.build U13 [([.l],(.c U2 11)),([.r,.l],(.c U2 6))]),w 10 (.build U13 [([.l],(.c U2 12)),([.r,.l],(.c U2 5))]),w 11 (.build U13 [([.l],(.c U2 5)),([.r,.l],(.c U2 8))]),w 12 (.buildSlice 57 U13 [1,2,3,4,5,6,8,9,10,11]),w 13 (.build U18 [([.l],(.c .str [99,108,97,115,115,105,99,97,108])),([.r,.l],12)]),⟨none,.store U18 0 13,none⟩]) .ret))
def d24:FD:={nargs:=0,body:=c24,res:=[.cell 0 U18]}
def c25:AC:=(.seq (.reg [] [w 0 (.alloc U18 (.pair .no (.pair (.own true 57 .no) .no)))]) (.seq (.reg [0,1,6,9] [w 5 (.call 53 [(.c .str [108,105,99,101,110,99,101,32,99,108,97,115,115,105,99,97,108,32,123,10,32,32,109,117,116,101,32,49,59,10,32,32,98,114,101,118,105,115,32,49,59,10,32,32,105,110,100,105,102,102,101,114,101,110,116,32,49,59,10,32,32,115,121,110,105,122,101,115,105,115,32,52,59,10,32,32,101,108,105,115,105,111,110,32,48,59,10,32,32,101,99,116,104,108,105,112,115,105,115,32,48,59,10,32,32,112,114,111,100,101,108,105,115,105,111,110,32,48,32,105,110,32,34,101,115,34,44,32,34,101,115,116,34,59,10,32,32,104,105,97,116,117,115,32,54,59,10,32,32,99,111,114,114,101,112,116,105,111,110,32,53,59,10,32,32,108,101,110,103,116,104,101,110,32,56,59,10,125,10])]),m 4 5,w 6 (.extract 4 0),w 7 (.extract 4 1),w 8 (.extract 4 2),w 1 (.alloc U18 (.pair .no (.pair (.own true 57 .no) .no))),⟨none,.store U18 1 6,none⟩,w 2 (.asg 7),w 3 (.asg 8)]) (.seq (.reg [0,1,6,9] [w 9 (.load U18 1),⟨none,.store U18 0 9,none⟩]) .ret)))
def d25:FD:={nargs:=0,body:=c25,res:=[.cell 0 U18]}
def c29:AC:=(.seq (.reg [0] [w 2 (.asg (.c .str []))]) (.seq (.seq (.reg [0] [m 3 0,w 4 (.bin .lss 3 (.c U2 1)),m 5 4,⟨some 6,.mv 0,some (5,false)⟩,⟨some 7,.bin .gtr 6 (.c U2 12),some (5,false)⟩,w 8 (.pick 5 (.c .bool true) 7)]) (.cond (.t 8) (.seq (.reg [] [w 2 (.asg (.c .str []))]) .ret) .skip)) (.seq (.reg [0] [w 9 (.buildSlice 9 .str [(.c .str [109,117,116,101]),(.c .str [110,101,120,116]),(.c .str [98,114,101,118,105,115]),(.c .str [105,110,100,105,102,102,101,114,101,110,116]),(.c .str [108,101,110,103,116,104,101,110]),(.c .str [115,104,111,114,116,101,110]),(.c .str [115,121,110,105,122,101,115,105,115]),(.c .str [101,108,105,115,105,111,110]),(.c .str [101,99,116,104,108,105,112,115,105,115]),(.c .str [112,114,111,100,101,108,105,115,105,111,110]),(.c .str [104,105,97,116,117,115]),(.c .str [99,111,114,114,101,112,116,105,111,110])]),m 10 0,w 11 (.bin .sub 10 (.c U2 1)),w 12 (.indexAddr .str 9 11),w 13 (.load .str 12),w 2 (.asg 13)]) .ret)))
def d29:FD:={nargs:=1,body:=c29,res:=[.t 2]}
def c31:AC:=(.seq (.reg [0] [w 2 (.asg (.c U2 0))]) (.seq (.reg [0] [w 3 (.asg (.c U2 0))]) (.seq (.block 0 (.loop [0,3] (.seq (.seq (.reg [0,3] [m 4 3,m 5 0,w 6 (.lenS 5),w 7 (.bin .lss 4 6)]) (.cond (.t 7) .skip (.exit 0))) (.block 1 (.seq (.reg [0,3] [m 8 0,m 9 3,w 10 (.indexS 8 9)]) (.block 2 (.seq (.seq (.reg [0,3,10] [w 13 (.bin .eql 10 (.c U1 32)),w 12 (.asg 13)]) (.cond (.t 12) .skip (.seq (.reg [0,3,10] [w 14 (.bin .eql 10 (.c U1 9)),w 12 (.asg 14)]) (.cond (.t 12) .skip (.seq (.reg [0,3,10] [w 15 (.bin .eql 10 (.c U1 10)),w 12 (.asg 15)]) (.cond (.t 12) .skip (.reg [0,3,10] [w 16 (.bin .eql 10 (.c U1 13)),w 12 (.asg 16)]))))))) (.cond (.t 12) (.reg [0,3] [m 17 3,w 18 (.bin .add 17 (.c U2 1)),w 3 (.asg 18)]) (.seq (.reg [0,3,10] [w 20 (.bin .eql 10 (.c U1 35)),w 19 (.asg 20)]) (.cond (.t 19) (.block 3 (.loop [0,3] (.seq (.seq (.reg [0,3] [m 21 3,m 22 0,w 23 (.lenS 22),w 24 (.bin .lss 21 23),m 25 24,⟨some 26,.mv 0,some (25,true)⟩,⟨some 27,.mv 3,some (25,true)⟩,⟨some 28,.indexS 26 27,some (25,true)⟩,⟨some 29,.bin .neq 28 (.c U1 10),some (25,true)⟩,w 30 (.pick 25 29 (.c .bool false))]) (.cond (.t 30) .skip (.exit 3))) (.block 4 (.reg [0,3] [m 31 3,w 32 (.bin .add 31 (.c U2 1)),w 3 (.asg 32)]))))) (.seq (.reg [3] [m 11 3,w 2 (.asg 11)]) .ret))))))))))) (.seq (.reg [3] [m 33 3,w 2 (.asg 33)]) .ret))))
def d31:FD:={nargs:=1,body:=c31,res:=[.t 2]}
def c32:AC:=(.seq (.reg [0] [w 2 (.asg (.c U2 0))]) (.seq (.reg [0] [w 3 (.asg (.c U2 0))]) (.seq (.seq (.reg [0,3] [w 4 (.asg (.c U2 0))]) (.block 0 (.loop [0,3,4] (.seq (.seq (.reg [0,3,4] [m 5 4,m 6 0,w 7 (.lenS 6),w 8 (.bin .lss 5 7)]) (.cond (.t 8) .skip (.exit 0))) (.seq (.block 1 (.seq (.reg [0,3,4] [m 11 0,m 12 4,w 13 (.indexS 11 12),w 14 (.bin .eql 13 (.c U1 10))]) (.cond (.t 14) (.reg [0,3,4] [m 15 3,w 16 (.bin .add 15 (.c U2 1)),w 3 (.asg 16)]) .skip))) (.reg [0,3,4] [m 9 4,w 10 (.bin .add 9 (.c U2 1)),w 4 (.asg 10)])))))) (.seq (.reg [3] [m 17 3,w 2 (.asg 17)]) .ret))))
def d32:FD:={nargs:=1,body:=c32,res:=[.t 2]}
def c33:AC:=(.seq (.reg [0] [w 2 (.alloc U12 .no),w 3 (.asg (.c U2 0)),w 4 (.asg (.c U2 0))]) (.seq (.seq (.reg [0,2,13,17,25,33,37,44,52,53] [m 7 0,w 8 (.call 54 [7]),w 5 (.asg 8)]) (.seq (.reg [0,2,5,13,17,25,33,37,44,52,53] [m 9 5,w 10 (.bin .gtr 9 (.c U2 0))]) (.cond (.t 10) (.seq (.seq (.reg [0,2,5,13,17,25,33,37,44,52,53] [m 11 5,w 12 (.bin .gtr 11 (.c U2 20))]) (.cond (.t 12) (.seq (.reg [2,13,17,25,33,37,44,52,53] [w 13 (.build U12 []),⟨none,.store U12 2 13,none⟩,w 3 (.asg (.c U2 0)),w 4 (.asg (.c U2 3))]) .ret) .skip)) (.seq (.reg [0,2,5,13,17,25,33,37,44,52,53] [m 14 0,m 15 5,w 16 (.sliceS 14 none (some 15)),w 17 (.build U12 [([.l],(.c U2 1)),([.r,.l],16)]),m 18 5,⟨none,.store U12 2 17,none⟩,w 3 (.asg 18),w 4 (.asg (.c U2 0))]) .ret)) .skip))) (.seq (.seq (.reg [0,2,13,17,25,33,37,44,52,53] [m 19 0,w 20 (.call 56 [19]),w 6 (.asg 20)]) (.seq (.reg [0,2,6,13,17,25,33,37,44,52,53] [m 21 6,w 22 (.bin .gtr 21 (.c U2 0))]) (.cond (.t 22) (.seq (.seq (.reg [0,2,6,13,17,25,33,37,44,52,53] [m 23 6,w 24 (.bin .gtr 23 (.c U2 6))]) (.cond (.t 24) (.seq (.reg [2,13,17,25,33,37,44,52,53] [w 25 (.build U12 []),⟨none,.store U12 2 25,none⟩,w 3 (.asg (.c U2 0)),w 4 (.asg (.c U2 3))]) .ret) .skip)) (.seq (.seq (.reg [0,2,6,13,17,25,33,37,44,52,53] [m 26 0,w 27 (.indexS 26 (.c U2 0)),w 28 (.bin .eql 27 (.c U1 48)),m 29 28,⟨some 30,.mv 6,some (29,true)⟩,⟨some 31,.bin .gtr 30 (.c U2 1),some (29,true)⟩,w 32 (.pick 29 31 (.c .bool false))]) (.cond (.t 32) (.seq (.reg [2,13,17,25,33,37,44,52,53] [w 33 (.build U12 []),⟨none,.store U12 2 33,none⟩,w 3 (.asg (.c U2 0)),w 4 (.asg (.c U2 2))]) .ret) .skip)) (.seq (.reg [0,2,6,13,17,25,33,37,44,52,53] [m 34 0,m 35 6,w 36 (.sliceS 34 none (some 35)),w 37 (.build U12 [([.l],(.c U2 2)),([.r,.l],36)]),m 38 6,⟨none,.store U12 2 37,none⟩,w 3 (.asg 38),w 4 (.asg (.c U2 0))]) .ret))) .skip))) (.seq (.seq (.reg [0,2,13,17,25,33,37,44,52,53] [m 39 0,w 40 (.indexS 39 (.c U2 0)),w 41 (.bin .eql 40 (.c U1 34))]) (.cond (.t 41) (.seq (.reg [0,2,13,17,25,33,37,44,52,53] [m 42 0,w 43 (.call 57 [42]),w 44 (.extract 43 0),w 45 (.extract 43 1),w 46 (.extract 43 2),⟨none,.store U12 2 44,none⟩,w 3 (.asg 45),w 4 (.asg 46)]) .ret) .skip)) (.seq (.seq (.reg [0,2,13,17,25,33,37,44,52,53] [m 47 0,w 48 (.indexS 47 (.c U2 0)),w 49 (.call 58 [48])]) (.cond (.t 49) (.seq (.reg [0,2,13,17,25,33,37,44,52,53] [m 50 0,w 51 (.sliceS 50 none (some (.c U2 1))),w 52 (.build U12 [([.l],(.c U2 4)),([.r,.l],51)]),⟨none,.store U12 2 52,none⟩,w 3 (.asg (.c U2 1)),w 4 (.asg (.c U2 0))]) .ret) .skip)) (.seq (.reg [2,13,17,25,33,37,44,52,53] [w 53 (.build U12 []),⟨none,.store U12 2 53,none⟩,w 3 (.asg (.c U2 0)),w 4 (.asg (.c U2 2))]) .ret))))))
def d33:FD:={nargs:=1,body:=c33,res:=[.cell 2 U12,.t 3,.t 4]}
def c35:AC:=(.seq (.reg [0] [w 2 (.asg (.nil 36 U12)),w 3 (.asg (.c U2 0)),w 4 (.asg (.c U2 0))]) (.seq (.seq (.reg [0] [m 11 0,w 12 (.lenS 11),w 13 (.bin .gtr 12 (.c U2 20000))]) (.cond (.t 13) (.seq (.reg [] [w 2 (.asg (.nil 36 U12)),w 3 (.asg (.c U2 0)),w 4 (.asg (.c U2 3))]) .ret) .skip)) (.seq (.reg [0] [w 5 (.asg (.nil 36 U12))]) (.seq (.reg [0,5,38] [w 6 (.asg (.c U2 1))]) (.seq (.seq (.reg [0,5,6,38] [w 7 (.asg (.c U2 0))]) (.block 0 (.loop [0,5,6,7,38] (.seq (.seq (.reg [0,5,6,7,38] [m 14 7,m 15 0,w 16 (.lenS 15),w 17 (.bin .lss 14 16)]) (.cond (.t 17) .skip (.exit 0))) (.block 1 (.seq (.reg [0,5,6,7,38] [m 18 0,m 19 7,w 20 (.indexS 18 19)]) (.block 2 (.seq (.reg [0,5,6,7,20,38] [w 43 (.bin .eql 20 (.c U1 10)),w 42 (.asg 43)]) (.cond (.t 42) (.seq (.reg [0,5,6,7,38] [m 44 6,w 45 (.bin .add 44 (.c U2 1)),w 6 (.asg 45)]) (.reg [0,5,6,7,38] [m 46 7,w 47 (.bin .add 46 (.c U2 1)),w 7 (.asg 47)])) (.seq (.seq (.reg [0,5,6,7,20,38] [w 49 (.bin .eql 20 (.c U1 32)),w 48 (.asg 49)]) (.cond (.t 48) .skip (.seq (.reg [0,5,6,7,20,38] [w 50 (.bin .eql 20 (.c U1 9)),w 48 (.asg 50)]) (.cond (.t 48) .skip (.reg [0,5,6,7,20,38] [w 51 (.bin .eql 20 (.c U1 13)),w 48 (.asg 51)]))))) (.cond (.t 48) (.reg [0,5,6,7,38] [m 52 7,w 53 (.bin .add 52 (.c U2 1)),w 7 (.asg 53)]) (.seq (.reg [0,5,6,7,20,38] [w 55 (.bin .eql 20 (.c U1 35)),w 54 (.asg 55)]) (.cond (.t 54) (.block 3 (.loop [0,5,6,7,38] (.seq (.seq (.reg [0,5,6,7,38] [m 56 7,m 57 0,w 58 (.lenS 57),w 59 (.bin .lss 56 58),m 60 59,⟨some 61,.mv 0,some (60,true)⟩,⟨some 62,.mv 7,some (60,true)⟩,⟨some 63,.indexS 61 62,some (60,true)⟩,⟨some 64,.bin .neq 63 (.c U1 10),some (60,true)⟩,w 65 (.pick 60 64 (.c .bool false))]) (.cond (.t 65) .skip (.exit 3))) (.block 4 (.reg [0,5,6,7,38] [m 66 7,w 67 (.bin .add 66 (.c U2 1)),w 7 (.asg 67)]))))) (.seq (.reg [0,5,6,7,38] [m 22 0,m 23 7,w 24 (.sliceS 22 (some 23) none),w 25 (.call 61 [24]),m 21 25,w 26 (.extract 21 0),w 27 (.extract 21 1),w 28 (.extract 21 2),w 8 (.alloc U12 .no),⟨none,.store U12 8 26,none⟩,w 9 (.asg 27),w 10 (.asg 28)]) (.seq (.seq (.reg [0,5,6,7,8,9,10,26,38] [m 29 10,w 30 (.bin .neq 29 (.c U2 0))]) (.cond (.t 30) (.seq (.reg [6,10] [m 31 6,m 32 10,w 2 (.asg (.nil 36 U12)),w 3 (.asg 31),w 4 (.asg 32)]) .ret) .skip)) (.seq (.reg [0,5,6,7,8,9,26,38] [m 33 6,w 34 (.fieldAddr U12 [.r,.r,.l] 8),⟨none,.store U2 34 33,none⟩]) (.seq (.reg [0,5,6,7,8,9,26,38] [m 35 5,w 36 (.load U12 8),w 37 (.buildSlice 36 U12 [36]),w 38 (.append 36 U12 4398046511104 35 37),w 5 (.asg 38)]) (.reg [0,5,6,7,9,38] [m 39 7,m 40 9,w 41 (.bin .add 39 40),w 7 (.asg 41)])))))))))))))))))) (.seq (.reg [5,38] [m 68 5,w 2 (.asg 68),w 3 (.asg (.c U2 0)),w 4 (.asg (.c U2 0))]) .ret))))))
def d35:FD:={nargs:=1,body:=c35,res:=[.t 2,.t 3,.t 4]}
def c36:AC:=(.seq (.reg [0,1,2] [w 6 (.asg (.c .str []))]) (.seq (.seq (.reg [0,1,2] [m 7 0,w 8 (.nilck 7),w 9 (.fieldAddr U19 [.r,.r,.l] 8),w 10 (.load .bool 9),m 11 10,⟨some 12,.mv 0,some (11,false)⟩,⟨some 13,.mv 1,some (11,false)⟩,⟨some 14,.mv 2,some (11,false)⟩,⟨some 15,.call 37 [12,13,14],some (11,false)⟩,⟨some 16,.un .not 15,some (11,false)⟩,w 17 (.pick 11 (.c .bool true) 16)]) (.cond (.t 17) (.seq (.reg [0] [m 18 0,w 19 (.nilck 18),w 20 (.fieldAddr U19 [.r,.r,.l] 19),⟨none,.store .bool 20 (.c .bool true),none⟩]) (.seq (.reg [0] [w 6 (.asg (.c .str []))]) .ret)) .skip)) (.seq (.reg [0] [m 21 0,w 22 (.nilck 21),w 23 (.fieldAddr U19 [.r,.l] 22),w 24 (.load U2 23),w 25 (.bin .add 24 (.c U2 1)),w 26 (.nilck 21),w 27 (.fieldAddr U19 [.r,.l] 26),⟨none,.store U2 27 25,none⟩]) (.seq (.draw [0] [⟨m 28 0,[32,33,34,35,36],[28],[],false,[]⟩,⟨w 29 (.nilck 28),[32,33,34,35,36],[29],[0],false,[]⟩,⟨w 30 (.fieldAddr U19 [.l] 29),[32,33,34,35,36],[30],[0,1],false,[]⟩,⟨w 31 (.load U14 30),[32,33,34,35,36],[31],[0,1,2],false,[]⟩,⟨m 32 0,[28,29,30,31],[32],[],false,[]⟩,⟨w 33 (.nilck 32),[28,29,30,31],[33],[4],false,[]⟩,⟨w 34 (.fieldAddr U19 [.r,.l] 33),[28,29,30,31],[34],[4,5],false,[]⟩,⟨w 35 (.load U2 34),[28,29,30,31],[35],[4,5,6],false,[]⟩,⟨w 36 (.bin .sub 35 (.c U2 1)),[28,29,30,31],[36],[4,5,6,7],false,[]⟩,⟨w 37 (.indexAddr U12 31 36),[],[37],[0,1,2,3,4,5,6,7,8],false,[]⟩,⟨w 38 (.fieldAddr U12 [.r,.l] 37),[],[38],[0,1,2,3,4,5,6,7,8,9],false,[]⟩,⟨w 39 (.load .str 38),[],[39],[0,1,2,3,4,5,6,7,8,9,10],false,[]⟩,⟨w 6 (.asg 39),[],[6],[0,1,2,3,4,5,6,7,8,9,10,11],false,[]⟩]) .ret))))
def d36:FD:={nargs:=3,body:=c36,res:=[.t 6],lend:=true}
def c37:AC:=(.seq (.reg [0,1,2] [w 6 (.asg (.c .bool false))]) (.seq (.draw [0,1,2] [⟨m 7 0,[11,12,13,14,15],[7],[],false,[]⟩,⟨w 8 (.nilck 7),[11,12,13,14,15],[8],[0],false,[]⟩,⟨w 9 (.fieldAddr U19 [.r,.l] 8),[11,12,13,14,15],[9],[0,1],false,[]⟩,⟨w 10 (.load U2 9),[11,12,13,14,15],[10],[0,1,2],false,[]⟩,⟨m 11 0,[7,8,9,10],[11],[],false,[]⟩,⟨w 12 (.nilck 11),[7,8,9,10],[12],[4],false,[]⟩,⟨w 13 (.fieldAddr U19 [.l] 12),[7,8,9,10],[13],[4,5],false,[]⟩,⟨w 14 (.load U14 13),[7,8,9,10],[14],[4,5,6],false,[]⟩,⟨w 15 (.lenL 14),[7,8,9,10],[15],[4,5,6,7],false,[]⟩,⟨w 16 (.bin .lss 10 15),[],[16],[0,1,2,3,4,5,6,7,8],false,[]⟩,⟨m 17 16,[],[17],[0,1,2,3,4,5,6,7,8,9],false,[]⟩,⟨⟨some 18,.mv 0,some (17,true)⟩,[22,23,24,25,29],[18],[0,1,2,3,4,5,6,7,8,9,10],false,[]⟩,⟨⟨some 19,.nilck 18,some (17,true)⟩,[22,23,24,25,29],[19],[0,1,2,3,4,5,6,7,8,9,10,11],false,[]⟩,⟨⟨some 20,.fieldAddr U19 [.l] 19,some (17,true)⟩,[22,23,24,25,29],[20],[0,1,2,3,4,5,6,7,8,9,10,11,12],false,[]⟩,⟨⟨some 21,.load U14 20,some (17,true)⟩,[22,23,24,25,29],[21],[0,1,2,3,4,5,6,7,8,9,10,11,12,13],false,[]⟩,⟨⟨some 22,.mv 0,some (17,true)⟩,[18,19,20,21,29],[22],[0,1,2,3,4,5,6,7,8,9,10],false,[]⟩,⟨⟨some 23,.nilck 22,some (17,true)⟩,[18,19,20,21,29],[23],[0,1,2,3,4,5,6,7,8,9,10,15],false,[]⟩,⟨⟨some 24,.fieldAddr U19 [.r,.l] 23,some (17,true)⟩,[18,19,20,21,29],[24],[0,1,2,3,4,5,6,7,8,9,10,15,16],false,[]⟩,⟨⟨some 25,.load U2 24,some (17,true)⟩,[18,19,20,21,29],[25],[0,1,2,3,4,5,6,7,8,9,10,15,16,17],false,[]⟩,⟨⟨some 26,.indexAddr U12 21 25,some (17,true)⟩,[29],[26],[0,1,2,3,4,5,6,7,8,9,10,11,12,13,14,15,16,17,18],false,[]⟩,⟨⟨some 27,.fieldAddr U12 [.l] 26,some (17,true)⟩,[29],[27],[0,1,2,3,4,5,6,7,8,9,10,11,12,13,14,15,16,17,18,19],false,[]⟩,⟨⟨some 28,.load U2 27,some (17,true)⟩,[29],[28],[0,1,2,3,4,5,6,7,8,9,10,11,12,13,14,15,16,17,18,19,20],false,[]⟩,⟨⟨some 29,.mv 1,some (17,true)⟩,[18,19,20,21,22,23,24,25,26,27,28],[29],[0,1,2,3,4,5,6,7,8,9,10],false,[]⟩,⟨⟨some 30,.bin .eql 28 29,some (17,true)⟩,[],[30],[0,1,2,3,4,5,6,7,8,9,10,11,12,13,14,15,16,17,18,19,20,21,22],false,[]⟩,⟨w 31 (.pick 17 30 (.c .bool false)),[],[31],[0,1,2,3,4,5,6,7,8,9,10,11,12,13,14,15,16,17,18,19,20,21,22,23],false,[]⟩,⟨m 32 31,[],[32],[0,1,2,3,4,5,6,7,8,9,10,11,12,13,14,15,16,17,18,19,20,21,22,23,24],false,[]⟩,⟨⟨some 33,.mv 2,some (32,true)⟩,[],[33],[0,1,2,3,4,5,6,7,8,9,10,11,12,13,14,15,16,17,18,19,20,21,22,23,24,25],false,[]⟩,⟨⟨some 34,.bin .eql 33 (.c .str []),some (32,true)⟩,[],[34],[0,1,2,3,4,5,6,7,8,9,10,11,12,13,14,15,16,17,18,19,20,21,22,23,24,25,26],false,[]⟩,⟨⟨some 35,.mv 34,some (32,true)⟩,[],[35],[0,1,2,3,4,5,6,7,8,9,10,11,12,13,14,15,16,17,18,19,20,21,22,23,24,25,26,27],false,[]⟩,⟨⟨some 36,.mv 0,some (35,false)⟩,[40,41,42,43,47],[36],[0,1,2,3,4,5,6,7,8,9,10,11,12,13,14,15,16,17,18,19,20,21,22,23,24,25,26,27,28],false,[]⟩,⟨⟨some 37,.nilck 36,some (35,false)⟩,[40,41,42,43,47],[37],[0,1,2,3,4,5,6,7,8,9,10,11,12,13,14,15,16,17,18,19,20,21,22,23,24,25,26,27,28,29],false,[]⟩,⟨⟨some 38,.fieldAddr U19 [.l] 37,some (35,false)⟩,[40,41,42,43,47],[38],[0,1,2,3,4,5,6,7,8,9,10,11,12,13,14,15,16,17,18,19,20,21,22,23,24,25,26,27,28,29,30],false,[]⟩,⟨⟨some 39,.load U14 38,some (35,false)⟩,[40,41,42,43,47],[39],[0,1,2,3,4,5,6,7,8,9,10,11,12,13,14,15,16,17,18,19,20,21,22,23,24,25,26,27,28,29,30,31],false,[]⟩,⟨⟨some 40,.mv 0,some (35,false)⟩,[36,37,38,39,47],[40],[0,1,2,3,4,5,6,7,8,9,10,11,12,13,14,15,16,17,18,19,20,21,22,23,24,25,26,27,28],false,[]⟩,⟨⟨some 41,.nilck 40,some (35,false)⟩,[36,37,38,39,47],[41],[0,1,2,3,4,5,6,7,8,9,10,11,12,13,14,15,16,17,18,19,20,21,22,23,24,25,26,27,28,33],false,[]⟩,⟨⟨some 42,.fieldAddr U19 [.r,.l] 41,some (35,false)⟩,[36,37,38,39,47],[42],[0,1,2,3,4,5,6,7,8,9,10,11,12,13,14,15,16,17,18,19,20,21,22,23,24,25,26,27,28,33,34],false,[]⟩,⟨⟨some 43,.load U2 42,some (35,false)⟩,[36,37,38,39,47],[43],[0,1,2,3,4,5,6,7,8,9,10,11,12,13,14,15,16,17,18,19,20,21,22,23,24,25,26,27,28,33,34,35],false,[]⟩,⟨⟨some 44,.indexAddr U12 39 43,some (35,false)⟩,[47],[44],[0,1,2,3,4,5,6,7,8,9,10,11,12,13,14,15,16,17,18,19,20,21,22,23,24,25,26,27,28,29,30,31,32,33,34,35,36],false,[]⟩,⟨⟨some 45,.fieldAddr U12 [.r,.l] 44,some (35,false)⟩,[47],[45],[0,1,2,3,4,5,6,7,8,9,10,11,12,13,14,15,16,17,18,19,20,21,22,23,24,25,26,27,28,29,30,31,32,33,34,35,36,37],false,[]⟩,⟨⟨some 46,.load .str 45,some (35,false)⟩,[47],[46],[0,1,2,3,4,5,6,7,8,9,10,11,12,13,14,15,16,17,18,19,20,21,22,23,24,25,26,27,28,29,30,31,32,33,34,35,36,37,38],false,[]⟩,⟨⟨some 47,.mv 2,some (35,false)⟩,[36,37,38,39,40,41,42,43,44,45,46],[47],[0,1,2,3,4,5,6,7,8,9,10,11,12,13,14,15,16,17,18,19,20,21,22,23,24,25,26,27,28],false,[]⟩,⟨⟨some 48,.bin .eql 46 47,some (35,false)⟩,[],[48],[0,1,2,3,4,5,6,7,8,9,10,11,12,13,14,15,16,17,18,19,20,21,22,23,24,25,26,27,28,29,30,31,32,33,34,35,36,37,38,39,40],false,[]⟩,⟨⟨some 49,.pick 35 (.c .bool true) 48,some (32,true)⟩,[],[49],[0,1,2,3,4,5,6,7,8,9,10,11,12,13,14,15,16,17,18,19,20,21,22,23,24,25,26,27,28,29,30,31,32,33,34,35,36,37,38,39,40,41],false,[]⟩,⟨w 50 (.pick 32 49 (.c .bool false)),[],[50],[0,1,2,3,4,5,6,7,8,9,10,11,12,13,14,15,16,17,18,19,20,21,22,23,24,25,26,27,28,29,30,31,32,33,34,35,36,37,38,39,40,41,42],false,[]⟩,⟨w 6 (.asg 50),[],[6],[0,1,2,3,4,5,6,7,8,9,10,11,12,13,14,15,16,17,18,19,20,21,22,23,24,25,26,27,28,29,30,31,32,33,34,35,36,37,38,39,40,41,42,43],false,[]⟩]) .ret))
def d37:FD:={nargs:=3,body:=c37,res:=[.t 6]}
def c38:AC:=(.seq (.reg [0] [w 2 (.asg (.c U2 0))]) (.seq (.block 0 (.seq (.draw [0] [⟨m 4 0,[8,9,10,11,12],[4],[],false,[]⟩,⟨w 5 (.nilck 4),[8,9,10,11,12],[5],[0],false,[]⟩,⟨w 6 (.fieldAddr U19 [.r,.l] 5),[8,9,10,11,12],[6],[0,1],false,[]⟩,⟨w 7 (.load U2 6),[8,9,10,11,12],[7],[0,1,2],false,[]⟩,⟨m 8 0,[4,5,6,7],[8],[],false,[]⟩,⟨w 9 (.nilck 8),[4,5,6,7],[9],[4],false,[]⟩,⟨w 10 (.fieldAddr U19 [.l] 9),[4,5,6,7],[10],[4,5],false,[]⟩,⟨w 11 (.load U14 10),[4,5,6,7],[11],[4,5,6],false,[]⟩,⟨w 12 (.lenL 11),[4,5,6,7],[12],[4,5,6,7],false,[]⟩,⟨w 13 (.bin .lss 7 12),[],[13],[0,1,2,3,4,5,6,7,8],false,[]⟩,⟨w 3 (.asg 13),[],[3],[0,1,2,3,4,5,6,7,8,9],false,[]⟩]) (.cond (.t 3) (.seq (.draw [0] [⟨m 14 0,[18,19,20,21],[14],[],false,[]⟩,⟨w 15 (.nilck 14),[18,19,20,21],[15],[0],false,[]⟩,⟨w 16 (.fieldAddr U19 [.l] 15),[18,19,20,21],[16],[0,1],false,[]⟩,⟨w 17 (.load U14 16),[18,19,20,21],[17],[0,1,2],false,[]⟩,⟨m 18 0,[14,15,16,17],[18],[],false,[]⟩,⟨w 19 (.nilck 18),[14,15,16,17],[19],[4],false,[]⟩,⟨w 20 (.fieldAddr U19 [.r,.l] 19),[14,15,16,17],[20],[4,5],false,[]⟩,⟨w 21 (.load U2 20),[14,15,16,17],[21],[4,5,6],false,[]⟩,⟨w 22 (.indexAddr U12 17 21),[],[22],[0,1,2,3,4,5,6,7],false,[]⟩,⟨w 23 (.fieldAddr U12 [.r,.r,.l] 22),[],[23],[0,1,2,3,4,5,6,7,8],false,[]⟩,⟨w 24 (.load U2 23),[],[24],[0,1,2,3,4,5,6,7,8,9],false,[]⟩,⟨w 2 (.asg 24),[],[2],[0,1,2,3,4,5,6,7,8,9,10],false,[]⟩]) .ret) (.seq (.reg [0] [m 26 0,w 27 (.nilck 26),w 28 (.fieldAddr U19 [.l] 27),w 29 (.load U14 28),w 30 (.lenL 29),w 31 (.bin .gtr 30 (.c U2 0)),w 25 (.asg 31)]) (.cond (.t 25) (.seq (.draw [0] [⟨m 32 0,[36,37,38,39,40,41],[32],[],false,[]⟩,⟨w 33 (.nilck 32),[36,37,38,39,40,41],[33],[0],false,[]⟩,⟨w 34 (.fieldAddr U19 [.l] 33),[36,37,38,39,40,41],[34],[0,1],false,[]⟩,⟨w 35 (.load U14 34),[36,37,38,39,40,41],[35],[0,1,2],false,[]⟩,⟨m 36 0,[32,33,34,35],[36],[],false,[]⟩,⟨w 37 (.nilck 36),[32,33,34,35],[37],[4],false,[]⟩,⟨w 38 (.fieldAddr U19 [.l] 37),[32,33,34,35],[38],[4,5],false,[]⟩,⟨w 39 (.load U14 38),[32,33,34,35],[39],[4,5,6],false,[]⟩,⟨w 40 (.lenL 39),[32,33,34,35],[40],[4,5,6,7],false,[]⟩,⟨w 41 (.bin .sub 40 (.c U2 1)),[32,33,34,35],[41],[4,5,6,7,8],false,[]⟩,⟨w 42 (.indexAddr U12 35 41),[],[42],[0,1,2,3,4,5,6,7,8,9],false,[]⟩,⟨w 43 (.fieldAddr U12 [.r,.r,.l] 42),[],[43],[0,1,2,3,4,5,6,7,8,9,10],false,[]⟩,⟨w 44 (.load U2 43),[],[44],[0,1,2,3,4,5,6,7,8,9,10,11],false,[]⟩,⟨w 2 (.asg 44),[],[2],[0,1,2,3,4,5,6,7,8,9,10,11,12],false,[]⟩]) .ret) .skip))))) (.seq (.reg [] [w 2 (.asg (.c U2 1))]) .ret)))
def d38:FD:={nargs:=1,body:=c38,res:=[.t 2]}
def c39:AC:=(.seq (.reg [0] [w 2 (.alloc U13 (.pair .no (.pair .no (.pair (.own true 9 .no) .no)))),w 3 (.asg (.c .str []))]) (.seq (.reg [0,2,4,63] [w 4 (.alloc U13 (.pair .no (.pair .no (.pair (.own true 9 .no) .no))))]) (.seq (.reg [0,2,4,63] [m 6 0,w 7 (.lnd 36 6 [(.c U2 1),(.c .str [])]),w 5 (.asg 7)]) (.seq (.reg [0,2,4,5,63] [m 9 0,w 10 (.lnd 36 9 [(.c U2 2),(.c .str [])]),w 11 (.call 62 [10]),m 8 11,w 12 (.extract 8 0),w 13 (.extract 8 1),w 14 (.fieldAddr U13 [.r,.l] 4),⟨none,.store U2 14 12,none⟩]) (.seq (.seq (.reg [0,2,4,5,63] [m 15 0,w 16 (.call 37 [15,(.c U2 1),(.c .str [105,110])]),m 17 16,⟨some 18,.mv 0,some (17,true)⟩,⟨some 19,.nilck 18,some (17,true)⟩,⟨some 20,.fieldAddr U19 [.r,.r,.l] 19,some (17,true)⟩,⟨some 21,.load .bool 20,some (17,true)⟩,⟨some 22,.un .not 21,some (17,true)⟩,w 23 (.pick 17 22 (.c .bool false))]) (.cond (.t 23) (.seq (.reg [0,2,4,5,63] [m 24 0,w 25 (.nilck 24),w 26 (.fieldAddr U19 [.r,.l] 25),w 27 (.load U2 26),w 28 (.bin .add 27 (.c U2 1)),w 29 (.nilck 24),w 30 (.fieldAddr U19 [.r,.l] 29),⟨none,.store U2 30 28,none⟩]) (.seq (.draw [0,2,4,5,63] [⟨w 31 (.fieldAddr U13 [.r,.r,.l] 4),[0,33,34,35],[31],[],false,[]⟩,⟨w 32 (.load U0 31),[0,33,34,35],[32],[0],false,[]⟩,⟨m 33 0,[31,32],[33],[],false,[]⟩,⟨w 34 (.lnd 63 33 []),[31,32],[0,33,34],[2],false,[]⟩,⟨w 35 (.buildSlice 9 .str [34]),[31,32],[35],[2,3],false,[]⟩,⟨w 36 (.append 9 .str 8796093022208 32 35),[],[36],[0,1,2,3,4],true,[]⟩,⟨w 37 (.fieldAddr U13 [.r,.r,.l] 4),[],[37],[0,1,2,3,4,5],false,[]⟩,⟨⟨none,.store U0 37 36,none⟩,[],[4,37],[0,1,2,3,4,5,6],true,[]⟩]) (.block 0 (.loop [0,2,4,5,63] (.seq (.seq (.reg [0,2,4,5,63] [m 38 0,w 39 (.call 37 [38,(.c U2 4),(.c .str [44])]),m 40 39,⟨some 41,.mv 0,some (40,true)⟩,⟨some 42,.nilck 41,some (40,true)⟩,⟨some 43,.fieldAddr U19 [.r,.r,.l] 42,some (40,true)⟩,⟨some 44,.load .bool 43,some (40,true)⟩,⟨some 45,.un .not 44,some (40,true)⟩,w 46 (.pick 40 45 (.c .bool false))]) (.cond (.t 46) .skip (.exit 0))) (.block 1 (.seq (.reg [0,2,4,5,63] [m 47 0,w 48 (.nilck 47),w 49 (.fieldAddr U19 [.r,.l] 48),w 50 (.load U2 49),w 51 (.bin .add 50 (.c U2 1)),w 52 (.nilck 47),w 53 (.fieldAddr U19 [.r,.l] 52),⟨none,.store U2 53 51,none⟩]) (.draw [0,2,4,5,63] [⟨w 54 (.fieldAddr U13 [.r,.r,.l] 4),[0,56,57,58],[54],[],false,[]⟩,⟨w 55 (.load U0 54),[0,56,57,58],[55],[0],false,[]⟩,⟨m 56 0,[54,55],[56],[],false,[]⟩,⟨w 57 (.lnd 63 56 []),[54,55],[0,56,57],[2],false,[]⟩,⟨w 58 (.buildSlice 9 .str [57]),[54,55],[58],[2,3],false,[]⟩,⟨w 59 (.append 9 .str 8796093022208 55 58),[],[59],[0,1,2,3,4],true,[]⟩,⟨w 60 (.fieldAddr U13 [.r,.r,.l] 4),[],[60],[0,1,2,3,4,5],false,[]⟩,⟨⟨none,.store U0 60 59,none⟩,[],[4,60],[0,1,2,3,4,5,6],true,[]⟩])))))))) .skip)) (.seq (.reg [0,2,4,5,63] [m 61 0,w 62 (.lnd 36 61 [(.c U2 4),(.c .str [59])])]) (.seq (.reg [0,2,4,5,63] [w 63 (.load U13 4),m 64 5,⟨none,.store U13 2 63,none⟩,w 3 (.asg 64)]) .ret)))))))
def d39:FD:={nargs:=1,body:=c39,res:=[.cell 2 U13,.t 3],lend:=true}
def c40:AC:=(.seq (.reg [0] [w 2 (.asg (.c U2 0))]) (.seq (.seq (.reg [0] [w 3 (.asg (.c U2 1))]) (.block 0 (.loop [0,3] (.seq (.seq (.reg [0,3] [m 4 3,w 5 (.bin .leq 4 (.c U2 12))]) (.cond (.t 5) .skip (.exit 0))) (.seq (.block 1 (.seq (.reg [0,3] [m 8 3,w 9 (.call 64 [8]),m 10 0,w 11 (.bin .eql 9 10)]) (.cond (.t 11) (.seq (.reg [3] [m 12 3,w 2 (.asg 12)]) .ret) .skip))) (.reg [0,3] [m 6 3,w 7 (.bin .add 6 (.c U2 1)),w 3 (.asg 7)])))))) (.seq (.reg [] [w 2 (.asg (.c U2 0))]) .ret)))
def d40:FD:={nargs:=1,body:=c40,res:=[.t 2]}
def c53:AC:=(.seq (.reg [0] [w 2 (.alloc U18 .no),w 3 (.asg (.c U2 0)),w 4 (.asg (.c U2 0))]) (.seq (.reg [0,2,8,25,33,41,49,56,73,96,133,146,148] [m 18 0,w 19 (.call 11 [18]),m 17 19,w 20 (.extract 17 0),w 21 (.extract 17 1),w 22 (.extract 17 2),w 5 (.cp 20),w 6 (.asg 21),w 7 (.asg 22)]) (.seq (.seq (.reg [2,5,6,7,8,20,25,33,41,49,56,73,96,133,146,148] [m 23 7,w 24 (.bin .neq 23 (.c U2 0))]) (.cond (.t 24) (.seq (.reg [2,6,7,8,25,33,41,49,56,73,96,133,146,148] [w 25 (.buildN U18 (.pair .no (.pair (.own true 57 .no) .no)) []),m 26 6,m 27 7,⟨none,.store U18 2 25,none⟩,w 3 (.asg 26),w 4 (.asg 27)]) .ret) .skip)) (.seq (.seq (.reg [2,5,8,20,25,33,41,49,56,73,96,133,146,148] [m 28 5,w 29 (.call 69 [28,(.c U2 0),(.c U2 1),(.c .str [108,105,99,101,110,99,101])]),w 30 (.un .not 29)]) (.cond (.t 30) (.seq (.reg [2,5,8,20,25,33,41,49,56,73,96,133,146,148] [m 31 5,w 32 (.call 70 [31,(.c U2 0)]),w 33 (.extract 32 0),w 34 (.extract 32 1),w 35 (.extract 32 2),⟨none,.store U18 2 33,none⟩,w 3 (.asg 34),w 4 (.asg 35)]) .ret) .skip)) (.seq (.seq (.reg [2,5,8,20,25,33,41,49,56,73,96,133,146,148] [m 36 5,w 37 (.call 69 [36,(.c U2 1),(.c U2 1),(.c .str [])]),w 38 (.un .not 37)]) (.cond (.t 38) (.seq (.reg [2,5,8,20,25,33,41,49,56,73,96,133,146,148] [m 39 5,w 40 (.call 70 [39,(.c U2 1)]),w 41 (.extract 40 0),w 42 (.extract 40 1),w 43 (.extract 40 2),⟨none,.store U18 2 41,none⟩,w 3 (.asg 42),w 4 (.asg 43)]) .ret) .skip)) (.seq (.seq (.reg [2,5,8,20,25,33,41,49,56,73,96,133,146,148] [m 44 5,w 45 (.call 69 [44,(.c U2 2),(.c U2 4),(.c .str [123])]),w 46 (.un .not 45)]) (.cond (.t 46) (.seq (.reg [2,5,8,20,25,33,41,49,56,73,96,133,146,148] [m 47 5,w 48 (.call 70 [47,(.c U2 2)]),w 49 (.extract 48 0),w 50 (.extract 48 1),w 51 (.extract 48 2),⟨none,.store U18 2 49,none⟩,w 3 (.asg 50),w 4 (.asg 51)]) .ret) .skip)) (.seq (.reg [2,5,8,20,25,33,41,49,56,73,96,133,146,148] [m 52 5,w 53 (.indexAddr U12 52 (.c U2 1)),w 54 (.fieldAddr U12 [.r,.l] 53),w 55 (.load .str 54),w 56 (.buildN U18 (.pair .no (.pair (.own true 57 .no) .no)) [([.l],55)]),w 8 (.alloc U18 (.pair .no (.pair (.own true 57 .no) .no))),⟨none,.store U18 8 56,none⟩]) (.seq (.reg [2,5,8,20,25,33,41,49,56,73,96,133,146,148] [w 9 (.asg (.nil 3 U2))]) (.seq (.reg [2,5,8,9,20,25,33,41,49,56,73,85,96,133,146,148] [w 10 (.asg (.c U2 3))]) (.seq (.block 0 (.loop [2,5,8,9,10,20,25,33,41,49,56,73,85,96,133,146,148] (.seq (.seq (.reg [2,5,8,9,10,20,25,33,41,49,56,73,85,96,133,146,148] [m 57 5,m 58 10,w 59 (.call 69 [57,58,(.c U2 4),(.c .str [125])]),w 60 (.un .not 59)]) (.cond (.t 60) .skip (.exit 0))) (.block 1 (.seq (.reg [2,5,8,9,10,20,25,33,41,49,56,73,85,96,133,146,148] [m 62 5,m 63 10,w 64 (.call 71 [62,63]),m 61 64,w 65 (.extract 61 0),w 66 (.extract 61 1),w 67 (.extract 61 2),w 11 (.alloc U13 (.pair .no (.pair .no (.pair (.own true 9 .no) .no)))),⟨none,.store U13 11 65,none⟩,w 12 (.asg 66),w 13 (.asg 67)]) (.seq (.seq (.reg [2,5,8,9,10,11,12,13,20,25,33,41,49,56,65,73,85,96,133,146,148] [m 68 13,w 69 (.un .not 68)]) (.cond (.t 69) (.seq (.reg [2,5,8,12,20,25,33,41,49,56,73,96,133,146,148] [m 70 5,m 71 12,w 72 (.call 70 [70,71]),w 73 (.extract 72 0),w 74 (.extract 72 1),w 75 (.extract 72 2),⟨none,.store U18 2 73,none⟩,w 3 (.asg 74),w 4 (.asg 75)]) .ret) .skip)) (.seq (.reg [2,5,8,9,10,11,12,20,25,33,41,49,56,65,73,85,96,133,146,148] [w 76 (.fieldAddr U18 [.r,.l] 8),w 77 (.load U15 76),w 78 (.load U13 11),w 79 (.buildSlice 57 U13 [78]),w 80 (.append 57 U13 3518437208883 77 79),w 81 (.fieldAddr U18 [.r,.l] 8),⟨none,.store U15 81 80,none⟩]) (.seq (.reg [2,5,8,9,10,12,20,25,33,41,49,56,73,85,96,133,146,148] [m 82 9,m 83 10,w 84 (.buildSlice 3 U2 [83]),w 85 (.append 3 U2 17592186044416 82 84),w 9 (.asg 85)]) (.reg [2,5,8,9,12,20,25,33,41,49,56,73,85,96,133,146,148] [m 86 12,w 10 (.asg 86)]))))))))) (.seq (.seq (.reg [2,5,8,9,10,20,25,33,41,49,56,73,85,96,133,146,148] [m 87 10,w 88 (.bin .add 87 (.c U2 1)),m 89 5,w 90 (.lenL 89),w 91 (.bin .neq 88 90)]) (.cond (.t 91) (.seq (.reg [2,5,8,10,20,25,33,41,49,56,73,96,133,146,148] [m 92 5,m 93 10,w 94 (.bin .add 93 (.c U2 1)),w 95 (.call 70 [92,94]),w 96 (.extract 95 0),w 97 (.extract 95 1),w 98 (.extract 95 2),⟨none,.store U18 2 96,none⟩,w 3 (.asg 97),w 4 (.asg 98)]) .ret) .skip)) (.seq (.seq (.reg [2,5,8,9,20,25,33,41,49,56,73,85,96,133,146,148] [w 14 (.asg (.c U2 0))]) (.block 2 (.loop [2,5,8,9,14,20,25,33,41,49,56,73,85,96,133,146,148] (.seq (.seq (.reg [2,5,8,9,14,20,25,33,41,49,56,73,85,96,133,146,148] [m 99 14,m 100 9,w 101 (.lenL 100),w 102 (.bin .lss 99 101)]) (.cond (.t 102) .skip (.exit 2))) (.seq (.block 3 (.seq (.seq (.reg [2,5,8,9,14,20,25,33,41,49,56,73,85,96,133,146,148] [w 15 (.asg (.c U2 1))]) (.block 4 (.loop [2,5,8,9,14,15,20,25,33,41,49,56,73,85,96,133,146,148] (.seq (.seq (.reg [2,5,8,9,14,15,20,25,33,41,49,56,73,85,96,133,146,148] [m 105 15,w 106 (.bin .leq 105 (.c U2 12))]) (.cond (.t 106) .skip (.exit 4))) (.seq (.block 5 (.seq (.draw [2,5,8,9,14,15,20,25,33,41,49,56,73,85,96,133,146,148] [⟨m 109 15,[111,112,113,114,115,116,117,118],[109],[],false,[]⟩,⟨w 110 (.call 29 [109]),[111,112,113,114,115,116,117,118],[110],[0],false,[]⟩,⟨m 111 5,[109,110,112,113,114,115],[111],[],false,[]⟩,⟨m 112 9,[109,110,111,113],[112],[],false,[]⟩,⟨m 113 14,[109,110,111,112],[113],[],false,[]⟩,⟨w 114 (.indexAddr U2 112 113),[109,110,111],[114],[3,4],false,[]⟩,⟨w 115 (.load U2 114),[109,110,111],[115],[3,4,5],false,[]⟩,⟨w 116 (.indexAddr U12 111 115),[109,110],[116],[2,3,4,5,6],false,[]⟩,⟨w 117 (.fieldAddr U12 [.r,.l] 116),[109,110],[117],[2,3,4,5,6,7],false,[]⟩,⟨w 118 (.load .str 117),[109,110],[118],[2,3,4,5,6,7,8],false,[]⟩,⟨w 119 (.bin .eql 110 118),[],[119],[0,1,2,3,4,5,6,7,8,9],false,[]⟩]) (.cond (.t 119) (.reg [2,5,8,9,14,15,20,25,33,41,49,56,73,85,96,133,146,148] [w 120 (.fieldAddr U18 [.r,.l] 8),w 121 (.load U15 120),m 122 14,m 123 15,w 124 (.indexAddr U13 121 122),w 125 (.fieldAddr U13 [.l] 124),⟨none,.store U2 125 123,none⟩]) .skip))) (.reg [2,5,8,9,14,15,20,25,33,41,49,56,73,85,96,133,146,148] [m 107 15,w 108 (.bin .add 107 (.c U2 1)),w 15 (.asg 108)])))))) (.seq (.reg [2,5,8,9,14,20,25,33,41,49,56,73,85,96,133,146,148] [w 126 (.fieldAddr U18 [.r,.l] 8),w 127 (.load U15 126),m 128 14,w 129 (.indexAddr U13 127 128),w 130 (.fieldAddr U13 [.l] 129),w 131 (.load U2 130),w 132 (.bin .eql 131 (.c U2 0))]) (.cond (.t 132) (.seq (.draw [2,5,8,9,14,20,25,33,41,49,56,73,85,96,133,146,148] [⟨w 133 (.build U18 []),[134,135,136,137,138,139,140,141],[133],[],false,[]⟩,⟨m 134 5,[2,133,135,136,137,138],[134],[],false,[]⟩,⟨m 135 9,[2,133,134,136],[135],[],false,[]⟩,⟨m 136 14,[2,133,134,135],[136],[],false,[]⟩,⟨w 137 (.indexAddr U2 135 136),[2,133,134],[137],[2,3],false,[]⟩,⟨w 138 (.load U2 137),[2,133,134],[138],[2,3,4],false,[]⟩,⟨w 139 (.indexAddr U12 134 138),[2,133],[139],[1,2,3,4,5],false,[]⟩,⟨w 140 (.fieldAddr U12 [.r,.r,.l] 139),[2,133],[140],[1,2,3,4,5,6],false,[]⟩,⟨w 141 (.load U2 140),[2,133],[141],[1,2,3,4,5,6,7],false,[]⟩,⟨⟨none,.store U18 2 133,none⟩,[134,135,136,137,138,139,140,141],[2],[0],false,[]⟩,⟨w 3 (.asg 141),[],[3],[0,1,2,3,4,5,6,7,8,9],false,[]⟩,⟨w 4 (.asg (.c U2 9)),[],[4],[0,1,2,3,4,5,6,7,8,9,10],false,[]⟩]) .ret) .skip)))) (.reg [2,5,8,9,14,20,25,33,41,49,56,73,85,96,133,146,148] [m 103 14,w 104 (.bin .add 103 (.c U2 1)),w 14 (.asg 104)])))))) (.seq (.seq (.reg [2,8,25,33,41,49,56,73,96,133,146,148] [w 142 (.load U18 8),w 143 (.call 9 [142]),w 16 (.asg 143)]) (.seq (.reg [2,8,16,25,33,41,49,56,73,96,133,146,148] [m 144 16,w 145 (.bin .neq 144 (.c U2 0))]) (.cond (.t 145) (.seq (.reg [2,8,16,25,33,41,49,56,73,96,133,146,148] [w 146 (.buildN U18 (.pair .no (.pair (.own true 57 .no) .no)) []),m 147 16,⟨none,.store U18 2 146,none⟩,w 3 (.asg (.c U2 0)),w 4 (.asg 147)]) .ret) .skip))) (.seq (.reg [2,8,25,33,41,49,56,73,96,133,146,148] [w 148 (.load U18 8),⟨none,.store U18 2 148,none⟩,w 3 (.asg (.c U2 0)),w 4 (.asg (.c U2 0))]) .ret))))))))))))))
def d53:FD:={nargs:=1,body:=c53,res:=[.cell 2 U18,.t 3,.t 4]}
def c56:AC:=(.seq (.reg [0] [w 2 (.asg (.c U2 0))]) (.seq (.reg [0] [w 3 (.asg (.c U2 0))]) (.seq (.block 0 (.loop [0,3] (.seq (.seq (.reg [0,3] [m 4 3,m 5 0,w 6 (.lenS 5),w 7 (.bin .lss 4 6),m 8 7,⟨some 9,.mv 0,some (8,true)⟩,⟨some 10,.mv 3,some (8,true)⟩,⟨some 11,.indexS 9 10,some (8,true)⟩,⟨some 12,.call 73 [11],some (8,true)⟩,w 13 (.pick 8 12 (.c .bool false))]) (.cond (.t 13) .skip (.exit 0))) (.block 1 (.reg [0,3] [m 14 3,w 15 (.bin .add 14 (.c U2 1)),w 3 (.asg 15)]))))) (.seq (.reg [3] [m 16 3,w 2 (.asg 16)]) .ret))))
def d56:FD:={nargs:=1,body:=c56,res:=[.t 2]}
def c57:AC:=(.seq (.reg [0] [w 2 (.alloc U12 .no),w 3 (.asg (.c U2 0)),w 4 (.asg (.c U2 0))]) (.seq (.reg [0,2,28,32,36] [w 5 (.asg (.c U2 1))]) (.seq (.block 0 (.loop [0,2,5,28,32,36] (.seq (.seq (.reg [0,2,5,28,32,36] [m 6 5,m 7 0,w 8 (.lenS 7),w 9 (.bin .lss 6 8),m 10 9,⟨some 11,.mv 0,some (10,true)⟩,⟨some 12,.mv 5,some (10,true)⟩,⟨some 13,.indexS 11 12,some (10,true)⟩,⟨some 14,.call 75 [13],some (10,true)⟩,w 15 (.pick 10 14 (.c .bool false))]) (.cond (.t 15) .skip (.exit 0))) (.block 1 (.reg [0,2,5,28,32,36] [m 16 5,w 17 (.bin .add 16 (.c U2 1)),w 5 (.asg 17)]))))) (.seq (.seq (.reg [0,2,5,28,32,36] [m 18 5,m 19 0,w 20 (.lenS 19),w 21 (.bin .eql 18 20),m 22 21,⟨some 23,.mv 0,some (22,false)⟩,⟨some 24,.mv 5,some (22,false)⟩,⟨some 25,.indexS 23 24,some (22,false)⟩,⟨some 26,.bin .neq 25 (.c U1 34),some (22,false)⟩,w 27 (.pick 22 (.c .bool true) 26)]) (.cond (.t 27) (.seq (.reg [2,28,32,36] [w 28 (.build U12 []),⟨none,.store U12 2 28,none⟩,w 3 (.asg (.c U2 0)),w 4 (.asg (.c U2 2))]) .ret) .skip)) (.seq (.seq (.reg [0,2,5,28,32,36] [m 29 5,w 30 (.bin .sub 29 (.c U2 1)),w 31 (.bin .gtr 30 (.c U2 60))]) (.cond (.t 31) (.seq (.reg [2,28,32,36] [w 32 (.build U12 []),⟨none,.store U12 2 32,none⟩,w 3 (.asg (.c U2 0)),w 4 (.asg (.c U2 3))]) .ret) .skip)) (.seq (.reg [0,2,5,28,32,36] [m 33 0,m 34 5,w 35 (.sliceS 33 (some (.c U2 1)) (some 34)),w 36 (.build U12 [([.l],(.c U2 3)),([.r,.l],35)]),m 37 5,w 38 (.bin .add 37 (.c U2 1)),⟨none,.store U12 2 36,none⟩,w 3 (.asg 38),w 4 (.asg (.c U2 0))]) .ret))))))
def d57:FD:={nargs:=1,body:=c57,res:=[.cell 2 U12,.t 3,.t 4]}
def c58:AC:=(.seq (.reg [0] [w 2 (.asg (.c .bool false))]) (.seq (.seq (.reg [0] [w 3 (.asg (.c U2 0))]) (.block 0 (.loop [0,3] (.seq (.seq (.reg [0,3] [m 4 3,w 5 (.bin .lss 4 (.c U2 21))]) (.cond (.t 5) .skip (.exit 0))) (.seq (.block 1 (.seq (.reg [0,3] [m 8 3,w 9 (.indexS (.c .str [123,125,40,41,91,93,47,59,58,126,64,61,94,44,46,124,43,42,60,62,45]) 8),m 10 0,w 11 (.bin .eql 9 10)]) (.cond (.t 11) (.seq (.reg [] [w 2 (.asg (.c .bool true))]) .ret) .skip))) (.reg [0,3] [m 6 3,w 7 (.bin .add 6 (.c U2 1)),w 3 (.asg 7)])))))) (.seq (.reg [] [w 2 (.asg (.c .bool false))]) .ret)))
def d58:FD:={nargs:=1,body:=c58,res:=[.t 2]}
def c59:AC:=(.seq (.reg [0] [w 2 (.asg (.c U2 0)),w 3 (.asg (.c .bool false))]) (.seq (.seq (.reg [0] [m 6 0,w 7 (.bin .eql 6 (.c .str [])),m 8 7,⟨some 9,.mv 0,some (8,false)⟩,⟨some 10,.lenS 9,some (8,false)⟩,⟨some 11,.bin .gtr 10 (.c U2 6),some (8,false)⟩,w 12 (.pick 8 (.c .bool true) 11),m 13 12,⟨some 14,.mv 0,some (13,false)⟩,⟨some 15,.call 56 [14],some (13,false)⟩,⟨some 16,.mv 0,some (13,false)⟩,⟨some 17,.lenS 16,some (13,false)⟩,⟨some 18,.bin .neq 15 17,some (13,false)⟩,w 19 (.pick 13 (.c .bool true) 18),m 20 19,⟨some 21,.mv 0,some (20,false)⟩,⟨some 22,.indexS 21 (.c U2 0),some (20,false)⟩,⟨some 23,.bin .eql 22 (.c U1 48),some (20,false)⟩,⟨some 24,.mv 23,some (20,false)⟩,⟨some 25,.mv 0,some (24,true)⟩,⟨some 26,.lenS 25,some (24,true)⟩,⟨some 27,.bin .gtr 26 (.c U2 1),some (24,true)⟩,⟨some 28,.pick 24 27 (.c .bool false),some (20,false)⟩,w 29 (.pick 20 (.c .bool true) 28)]) (.cond (.t 29) (.seq (.reg [] [w 2 (.asg (.c U2 0)),w 3 (.asg (.c .bool false))]) .ret) .skip)) (.seq (.reg [0] [w 4 (.asg (.c U2 0))]) (.seq (.seq (.reg [0,4] [w 5 (.asg (.c U2 0))]) (.block 0 (.loop [0,4,5] (.seq (.seq (.reg [0,4,5] [m 30 5,m 31 0,w 32 (.lenS 31),w 33 (.bin .lss 30 32)]) (.cond (.t 33) .skip (.exit 0))) (.seq (.block 1 (.reg [0,4,5] [m 36 4,w 37 (.bin .mul (.c U2 10) 36),m 38 0,m 39 5,w 40 (.indexS 38 39),w 41 (.bin .sub 40 (.c U1 48)),w 42 (.convI .i64 41),w 43 (.bin .add 37 42),w 4 (.asg 43)])) (.reg [0,4,5] [m 34 5,w 35 (.bin .add 34 (.c U2 1)),w 5 (.asg 35)])))))) (.seq (.reg [4] [m 44 4,w 2 (.asg 44),w 3 (.asg (.c .bool true))]) .ret)))))
def d59:FD:={nargs:=1,body:=c59,res:=[.t 2,.t 3]}
def c61:AC:=(.seq (.reg [0] [w 2 (.alloc U12 .no),w 3 (.asg (.c U2 0)),w 4 (.asg (.c U2 0))]) (.seq (.seq (.reg [0,2,21,25,34,44,48,59,70,71] [m 12 0,w 13 (.indexS 12 (.c U2 0)),w 5 (.asg 13)]) (.block 0 (.seq (.reg [0,2,5,21,25,34,44,48,59,70,71] [m 15 5,w 16 (.call 76 [15]),w 14 (.asg 16)]) (.cond (.t 14) (.seq (.reg [0,2,21,25,34,44,48,59,70,71] [m 17 0,w 18 (.call 65 [17]),w 6 (.asg 18)]) (.seq (.seq (.reg [0,2,6,21,25,34,44,48,59,70,71] [m 19 6,w 20 (.bin .gtr 19 (.c U2 20))]) (.cond (.t 20) (.seq (.reg [2,21,25,34,44,48,59,70,71] [w 21 (.build U12 []),⟨none,.store U12 2 21,none⟩,w 3 (.asg (.c U2 0)),w 4 (.asg (.c U2 3))]) .ret) .skip)) (.seq (.reg [0,2,6,21,25,34,44,48,59,70,71] [m 22 0,m 23 6,w 24 (.sliceS 22 none (some 23)),w 25 (.build U12 [([.l],(.c U2 1)),([.r,.l],24)]),m 26 6,⟨none,.store U12 2 25,none⟩,w 3 (.asg 26),w 4 (.asg (.c U2 0))]) .ret))) (.seq (.reg [0,2,5,21,25,34,44,48,59,70,71] [m 28 5,w 29 (.call 77 [28]),w 27 (.asg 29)]) (.cond (.t 27) (.seq (.reg [0,2,21,25,34,44,48,59,70,71] [m 30 0,w 31 (.call 78 [30]),w 7 (.asg 31)]) (.seq (.seq (.reg [0,2,7,21,25,34,44,48,59,70,71] [m 32 7,w 33 (.bin .gtr 32 (.c U2 6))]) (.cond (.t 33) (.seq (.reg [2,21,25,34,44,48,59,70,71] [w 34 (.build U12 []),⟨none,.store U12 2 34,none⟩,w 3 (.asg (.c U2 0)),w 4 (.asg (.c U2 3))]) .ret) .skip)) (.seq (.seq (.reg [0,2,7,21,25,34,44,48,59,70,71] [m 36 0,m 37 7,w 38 (.sliceS 36 none (some 37)),w 39 (.call 62 [38]),m 35 39,w 40 (.extract 35 0),w 41 (.extract 35 1),w 8 (.asg 40),w 9 (.asg 41)]) (.seq (.reg [0,2,7,9,21,25,34,44,48,59,70,71] [m 42 9,w 43 (.un .not 42)]) (.cond (.t 43) (.seq (.reg [2,21,25,34,44,48,59,70,71] [w 44 (.build U12 []),⟨none,.store U12 2 44,none⟩,w 3 (.asg (.c U2 0)),w 4 (.asg (.c U2 2))]) .ret) .skip))) (.seq (.reg [0,2,7,21,25,34,44,48,59,70,71] [m 45 0,m 46 7,w 47 (.sliceS 45 none (some 46)),w 48 (.build U12 [([.l],(.c U2 2)),([.r,.l],47)]),m 49 7,⟨none,.store U12 2 48,none⟩,w 3 (.asg 49),w 4 (.asg (.c U2 0))]) .ret)))) (.seq (.reg [0,2,5,21,25,34,44,48,59,70,71] [m 51 5,w 52 (.bin .eql 51 (.c U1 34)),w 50 (.asg 52)]) (.cond (.t 50) (.seq (.reg [0,2,21,25,34,44,48,59,70,71] [m 54 0,w 55 (.call 79 [54]),m 53 55,w 56 (.extract 53 0),w 57 (.extract 53 1),w 10 (.asg 56),w 11 (.asg 57)]) (.seq (.reg [2,10,11,21,25,34,44,48,59,70,71] [m 58 10,w 59 (.build U12 [([.l],(.c U2 3)),([.r,.l],58)]),m 60 10,w 61 (.lenS 60),w 62 (.bin .add 61 (.c U2 2)),m 63 11,⟨none,.store U12 2 59,none⟩,w 3 (.asg 62),w 4 (.asg 63)]) .ret)) (.seq (.reg [0,2,5,21,25,34,44,48,59,70,71] [m 65 5,w 66 (.call 80 [(.c .str [123,125,40,41,91,93,47,59,58,126,64,61,94,44,46,124,43,42,60,62,45]),65]),w 67 (.bin .geq 66 (.c U2 0)),w 64 (.asg 67)]) (.cond (.t 64) (.seq (.reg [0,2,21,25,34,44,48,59,70,71] [m 68 0,w 69 (.sliceS 68 none (some (.c U2 1))),w 70 (.build U12 [([.l],(.c U2 4)),([.r,.l],69)]),⟨none,.store U12 2 70,none⟩,w 3 (.asg (.c U2 1)),w 4 (.asg (.c U2 0))]) .ret) .skip)))))))))) (.seq (.reg [2,21,25,34,44,48,59,70,71] [w 71 (.build U12 []),⟨none,.store U12 2 71,none⟩,w 3 (.asg (.c U2 0)),w 4 (.asg (.c U2 2))]) .ret)))
def d61:FD:={nargs:=1,body:=c61,res:=[.cell 2 U12,.t 3,.t 4]}
def c62:AC:=(.seq (.reg [0] [w 2 (.asg (.c U2 0)),w 3 (.asg (.c .bool false))]) (.seq (.seq (.reg [0] [m 7 0,w 8 (.bin .eql 7 (.c .str [])),m 9 8,⟨some 10,.mv 0,some (9,false)⟩,⟨some 11,.lenS 10,some (9,false)⟩,⟨some 12,.bin .gtr 11 (.c U2 6),some (9,false)⟩,w 13 (.pick 9 (.c .bool true) 12),m 14 13,⟨some 15,.mv 0,some (14,false)⟩,⟨some 16,.call 78 [15],some (14,false)⟩,⟨some 17,.mv 0,some (14,false)⟩,⟨some 18,.lenS 17,some (14,false)⟩,⟨some 19,.bin .neq 16 18,some (14,false)⟩,w 20 (.pick 14 (.c .bool true) 19),m 21 20,⟨some 22,.mv 0,some (21,false)⟩,⟨some 23,.lenS 22,some (21,false)⟩,⟨some 24,.bin .gtr 23 (.c U2 1),some (21,false)⟩,⟨some 25,.mv 24,some (21,false)⟩,⟨some 26,.mv 0,some (25,true)⟩,⟨some 27,.indexS 26 (.c U2 0),some (25,true)⟩,⟨some 28,.bin .eql 27 (.c U1 48),some (25,true)⟩,⟨some 29,.pick 25 28 (.c .bool false),some (21,false)⟩,w 30 (.pick 21 (.c .bool true) 29)]) (.cond (.t 30) (.seq (.reg [] [w 2 (.asg (.c U2 0)),w 3 (.asg (.c .bool false))]) .ret) .skip)) (.seq (.reg [0] [w 4 (.asg (.c U2 0))]) (.seq (.seq (.reg [0,4] [m 31 0,w 32 (.toSl 31),w 33 (.lenL 32),w 34 (.mv (.c U2 0))]) (.block 0 (.loop [4,32,33,34] (.seq (.reg [4,32,33,34] [w 35 (.bin .lss 34 33)]) (.seq (.cond (.t 35) .skip (.exit 0)) (.seq (.block 1 (.seq (.reg [4,32,33,34] [w 36 (.indexAddr U1 32 34),w 37 (.load U1 36),w 6 (.asg 37)]) (.reg [4,6,32,33,34] [m 38 4,w 39 (.bin .mul (.c U2 10) 38),m 40 6,w 41 (.bin .sub 40 (.c U1 48)),w 42 (.convI .i64 41),w 43 (.bin .add 39 42),w 4 (.asg 43)]))) (.reg [4,32,33,34] [w 44 (.bin .add 34 (.c U2 1)),m 34 44]))))))) (.seq (.reg [4] [m 45 4,w 2 (.asg 45),w 3 (.asg (.c .bool true))]) .ret)))))
def d62:FD:={nargs:=1,body:=c62,res:=[.t 2,.t 3]}
def c63:AC:=(.seq (.reg [0] [w 2 (.asg (.c .str []))]) (.seq (.reg [0] [m 3 0,w 4 (.lnd 36 3 [(.c U2 3),(.c .str [])]),w 2 (.asg 4)]) .ret))
def d63:FD:={nargs:=1,body:=c63,res:=[.t 2],lend:=true}
def c64:AC:=(.seq (.reg [0] [w 2 (.asg (.c .str []))]) (.seq (.reg [0] [w 3 (.call 82 []),m 4 0,w 5 (.call 81 [3,4]),w 2 (.asg 5)]) .ret))
def d64:FD:={nargs:=1,body:=c64,res:=[.t 2]}
def c69:AC:=(.seq (.reg [0,1,2,3] [w 8 (.asg (.c .bool false))]) (.seq (.reg [0,1,2,3] [m 9 1,m 10 0,w 11 (.lenL 10),w 12 (.bin .lss 9 11),m 13 12,⟨some 14,.mv 0,some (13,true)⟩,⟨some 15,.mv 1,some (13,true)⟩,⟨some 16,.indexAddr U12 14 15,some (13,true)⟩,⟨some 17,.fieldAddr U12 [.l] 16,some (13,true)⟩,⟨some 18,.load U2 17,some (13,true)⟩,⟨some 19,.mv 2,some (13,true)⟩,⟨some 20,.bin .eql 18 19,some (13,true)⟩,w 21 (.pick 13 20 (.c .bool false)),m 22 21,⟨some 23,.mv 3,some (22,true)⟩,⟨some 24,.bin .eql 23 (.c .str []),some (22,true)⟩,⟨some 25,.mv 24,some (22,true)⟩,⟨some 26,.mv 0,some (25,false)⟩,⟨some 27,.mv 1,some (25,false)⟩,⟨some 28,.indexAddr U12 26 27,some (25,false)⟩,⟨some 29,.fieldAddr U12 [.r,.l] 28,some (25,false)⟩,⟨some 30,.load .str 29,some (25,false)⟩,⟨some 31,.mv 3,some (25,false)⟩,⟨some 32,.bin .eql 30 31,some (25,false)⟩,⟨some 33,.pick 25 (.c .bool true) 32,some (22,true)⟩,w 34 (.pick 22 33 (.c .bool false)),w 8 (.asg 34)]) .ret))
def d69:FD:={nargs:=4,body:=c69,res:=[.t 8]}
def c70:AC:=(.seq (.reg [0,1] [w 4 (.alloc U18 .no),w 5 (.asg (.c U2 0)),w 6 (.asg (.c U2 0))]) (.seq (.seq (.reg [0,1,4,11,20,28] [m 7 1,m 8 0,w 9 (.lenL 8),w 10 (.bin .lss 7 9)]) (.cond (.t 10) (.seq (.draw [0,1,4,11,20,28] [⟨w 11 (.build U18 []),[12,13,14,15,16],[11],[],false,[]⟩,⟨m 12 0,[4,11,13],[12],[],false,[]⟩,⟨m 13 1,[4,11,12],[13],[],false,[]⟩,⟨w 14 (.indexAddr U12 12 13),[4,11],[14],[1,2],false,[]⟩,⟨w 15 (.fieldAddr U12 [.r,.r,.l] 14),[4,11],[15],[1,2,3],false,[]⟩,⟨w 16 (.load U2 15),[4,11],[16],[1,2,3,4],false,[]⟩,⟨⟨none,.store U18 4 11,none⟩,[12,13,14,15,16],[4],[0],false,[]⟩,⟨w 5 (.asg 16),[],[5],[0,1,2,3,4,5,6],false,[]⟩,⟨w 6 (.asg (.c U2 2)),[],[6],[0,1,2,3,4,5,6,7],false,[]⟩]) .ret) .skip)) (.seq (.seq (.reg [0,4,11,20,28] [m 17 0,w 18 (.lenL 17),w 19 (.bin .gtr 18 (.c U2 0))]) (.cond (.t 19) (.seq (.draw [0,4,11,20,28] [⟨w 20 (.build U18 []),[21,22,23,24,25,26,27],[20],[],false,[]⟩,⟨m 21 0,[4,20,22,23,24],[21],[],false,[]⟩,⟨m 22 0,[4,20,21],[22],[],false,[]⟩,⟨w 23 (.lenL 22),[4,20,21],[23],[2],false,[]⟩,⟨w 24 (.bin .sub 23 (.c U2 1)),[4,20,21],[24],[2,3],false,[]⟩,⟨w 25 (.indexAddr U12 21 24),[4,20],[25],[1,2,3,4],false,[]⟩,⟨w 26 (.fieldAddr U12 [.r,.r,.l] 25),[4,20],[26],[1,2,3,4,5],false,[]⟩,⟨w 27 (.load U2 26),[4,20],[27],[1,2,3,4,5,6],false,[]⟩,⟨⟨none,.store U18 4 20,none⟩,[21,22,23,24,25,26,27],[4],[0],false,[]⟩,⟨w 5 (.asg 27),[],[5],[0,1,2,3,4,5,6,7,8],false,[]⟩,⟨w 6 (.asg (.c U2 2)),[],[6],[0,1,2,3,4,5,6,7,8,9],false,[]⟩]) .ret) .skip)) (.seq (.reg [4,11,20,28] [w 28 (.buildN U18 (.pair .no (.pair (.own true 57 .no) .no)) []),⟨none,.store U18 4 28,none⟩,w 5 (.asg (.c U2 1)),w 6 (.asg (.c U2 2))]) .ret))))
def d70:FD:={nargs:=2,body:=c70,res:=[.cell 4 U18,.t 5,.t 6]}
def c71:AC:=(.seq (.reg [0,1] [w 4 (.alloc U13 (.pair .no (.pair .no (.pair (.own true 9 .no) .no)))),w 5 (.asg (.c U2 0)),w 6 (.asg (.c .bool false))]) (.seq (.reg [0,1,4,7,12,19,43,67,69] [w 7 (.alloc U13 (.pair .no (.pair .no (.pair (.own true 9 .no) .no))))]) (.seq (.seq (.reg [0,1,4,7,12,19,43,67,69] [m 8 0,m 9 1,w 10 (.call 69 [8,9,(.c U2 1),(.c .str [])]),w 11 (.un .not 10)]) (.cond (.t 11) (.seq (.reg [1,4,7,12,19,43,67,69] [w 12 (.load U13 7),m 13 1,⟨none,.store U13 4 12,none⟩,w 5 (.asg 13),w 6 (.asg (.c .bool false))]) .ret) .skip)) (.seq (.seq (.reg [0,1,4,7,12,19,43,67,69] [m 14 0,m 15 1,w 16 (.bin .add 15 (.c U2 1)),w 17 (.call 69 [14,16,(.c U2 2),(.c .str [])]),w 18 (.un .not 17)]) (.cond (.t 18) (.seq (.reg [1,4,7,12,19,43,67,69] [w 19 (.load U13 7),m 20 1,w 21 (.bin .add 20 (.c U2 1)),⟨none,.store U13 4 19,none⟩,w 5 (.asg 21),w 6 (.asg (.c .bool false))]) .ret) .skip)) (.seq (.reg [0,1,4,7,12,19,43,67,69] [m 23 0,m 24 1,w 25 (.bin .add 24 (.c U2 1)),w 26 (.indexAddr U12 23 25),w 27 (.fieldAddr U12 [.r,.l] 26),w 28 (.load .str 27),w 29 (.call 59 [28]),m 22 29,w 30 (.extract 22 0),w 31 (.extract 22 1),w 32 (.fieldAddr U13 [.r,.l] 7),⟨none,.store U2 32 30,none⟩]) (.seq (.reg [0,1,4,7,12,19,43,67,69] [m 33 1,w 34 (.bin .add 33 (.c U2 2)),w 1 (.asg 34)]) (.seq (.seq (.reg [0,1,4,7,12,19,43,67,69] [m 35 0,m 36 1,w 37 (.call 69 [35,36,(.c U2 1),(.c .str [105,110])])]) (.cond (.t 37) (.block 0 (.loop [0,1,4,7,12,19,43,67,69] (.block 1 (.seq (.seq (.reg [0,1,4,7,12,19,43,67,69] [m 38 0,m 39 1,w 40 (.bin .add 39 (.c U2 1)),w 41 (.call 69 [38,40,(.c U2 3),(.c .str [])]),w 42 (.un .not 41)]) (.cond (.t 42) (.seq (.reg [1,4,7,12,19,43,67,69] [w 43 (.load U13 7),m 44 1,w 45 (.bin .add 44 (.c U2 1)),⟨none,.store U13 4 43,none⟩,w 5 (.asg 45),w 6 (.asg (.c .bool false))]) .ret) .skip)) (.seq (.draw [0,1,4,7,12,19,43,67,69] [⟨w 46 (.fieldAddr U13 [.r,.r,.l] 7),[48,49,50,51,52,53,54],[46],[],false,[]⟩,⟨w 47 (.load U0 46),[48,49,50,51,52,53,54],[47],[0],false,[]⟩,⟨m 48 0,[46,47,49,50],[48],[],false,[]⟩,⟨m 49 1,[46,47,48],[49],[],false,[]⟩,⟨w 50 (.bin .add 49 (.c U2 1)),[46,47,48],[50],[3],false,[]⟩,⟨w 51 (.indexAddr U12 48 50),[46,47],[51],[2,3,4],false,[]⟩,⟨w 52 (.fieldAddr U12 [.r,.l] 51),[46,47],[52],[2,3,4,5],false,[]⟩,⟨w 53 (.load .str 52),[46,47],[53],[2,3,4,5,6],false,[]⟩,⟨w 54 (.buildSlice 9 .str [53]),[46,47],[54],[2,3,4,5,6,7],false,[]⟩,⟨w 55 (.append 9 .str 8796093022208 47 54),[],[55],[0,1,2,3,4,5,6,7,8],true,[]⟩,⟨w 56 (.fieldAddr U13 [.r,.r,.l] 7),[],[56],[0,1,2,3,4,5,6,7,8,9],false,[]⟩,⟨⟨none,.store U0 56 55,none⟩,[],[7,56],[0,1,2,3,4,5,6,7,8,9,10],true,[]⟩]) (.seq (.reg [0,1,4,7,12,19,43,67,69] [m 57 1,w 58 (.bin .add 57 (.c U2 2)),w 1 (.asg 58)]) (.seq (.reg [0,1,4,7,12,19,43,67,69] [m 59 0,m 60 1,w 61 (.call 69 [59,60,(.c U2 4),(.c .str [44])]),w 62 (.un .not 61)]) (.cond (.t 62) (.exit 0) .skip)))))))) .skip)) (.seq (.seq (.reg [0,1,4,7,12,19,43,67,69] [m 63 0,m 64 1,w 65 (.call 69 [63,64,(.c U2 4),(.c .str [59])]),w 66 (.un .not 65)]) (.cond (.t 66) (.seq (.reg [1,4,7,12,19,43,67,69] [w 67 (.load U13 7),m 68 1,⟨none,.store U13 4 67,none⟩,w 5 (.asg 68),w 6 (.asg (.c .bool false))]) .ret) .skip)) (.seq (.reg [1,4,7,12,19,43,67,69] [w 69 (.load U13 7),m 70 1,w 71 (.bin .add 70 (.c U2 1)),⟨none,.store U13 4 69,none⟩,w 5 (.asg 71),w 6 (.asg (.c .bool true))]) .ret)))))))))
def d71:FD:={nargs:=2,body:=c71,res:=[.cell 4 U13,.t 5,.t 6]}
def c75:AC:=(.seq (.reg [0] [w 2 (.asg (.c .bool false))]) (.seq (.reg [0] [m 3 0,w 4 (.bin .geq 3 (.c U1 32)),m 5 4,⟨some 6,.mv 0,some (5,true)⟩,⟨some 7,.bin .leq 6 (.c U1 126),some (5,true)⟩,w 8 (.pick 5 7 (.c .bool false)),m 9 8,⟨some 10,.mv 0,some (9,true)⟩,⟨some 11,.bin .neq 10 (.c U1 34),some (9,true)⟩,w 12 (.pick 9 11 (.c .bool false)),w 2 (.asg 12)]) .ret))
def d75:FD:={nargs:=1,body:=c75,res:=[.t 2]}
def c78:AC:=(.seq (.reg [0] [w 2 (.asg (.c U2 0))]) (.seq (.reg [0] [w 3 (.asg (.c U2 0))]) (.seq (.block 0 (.loop [0,3] (.seq (.seq (.reg [0,3] [m 4 3,m 5 0,w 6 (.lenS 5),w 7 (.bin .lss 4 6),m 8 7,⟨some 9,.mv 0,some (8,true)⟩,⟨some 10,.mv 3,some (8,true)⟩,⟨some 11,.indexS 9 10,some (8,true)⟩,⟨some 12,.call 77 [11],some (8,true)⟩,w 13 (.pick 8 12 (.c .bool false))]) (.cond (.t 13) .skip (.exit 0))) (.block 1 (.reg [0,3] [m 14 3,w 15 (.bin .add 14 (.c U2 1)),w 3 (.asg 15)]))))) (.seq (.reg [3] [m 16 3,w 2 (.asg 16)]) .ret))))
def d78:FD:={nargs:=1,body:=c78,res:=[.t 2]}
def c79:AC:=(.seq (.reg [0] [w 2 (.asg (.c .str [])),w 3 (.asg (.c U2 0))]) (.seq (.reg [0] [w 4 (.asg (.c U2 1))]) (.seq (.block 0 (.loop [0,4] (.seq (.seq (.reg [0,4] [m 5 4,m 6 0,w 7 (.lenS 6),w 8 (.bin .lss 5 7),m 9 8,⟨some 10,.mv 0,some (9,true)⟩,⟨some 11,.mv 4,some (9,true)⟩,⟨some 12,.indexS 10 11,some (9,true)⟩,⟨some 13,.call 85 [12],some (9,true)⟩,w 14 (.pick 9 13 (.c .bool false))]) (.cond (.t 14) .skip (.exit 0))) (.block 1 (.reg [0,4] [m 15 4,w 16 (.bin .add 15 (.c U2 1)),w 4 (.asg 16)]))))) (.seq (.block 2 (.seq (.reg [0,4] [m 18 4,m 19 0,w 20 (.lenS 19),w 21 (.bin .eql 18 20),m 22 21,⟨some 23,.mv 0,some (22,false)⟩,⟨some 24,.mv 4,some (22,false)⟩,⟨some 25,.indexS 23 24,some (22,false)⟩,⟨some 26,.bin .neq 25 (.c U1 34),some (22,false)⟩,w 27 (.pick 22 (.c .bool true) 26),w 17 (.asg 27)]) (.cond (.t 17) (.seq (.reg [] [w 2 (.asg (.c .str [])),w 3 (.asg (.c U2 2))]) .ret) (.seq (.reg [0,4] [m 29 4,w 30 (.bin .sub 29 (.c U2 1)),w 31 (.bin .gtr 30 (.c U2 60)),w 28 (.asg 31)]) (.cond (.t 28) (.seq (.reg [] [w 2 (.asg (.c .str [])),w 3 (.asg (.c U2 3))]) .ret) .skip))))) (.seq (.reg [0,4] [m 32 0,m 33 4,w 34 (.sliceS 32 (some (.c U2 1)) (some 33)),w 2 (.asg 34),w 3 (.asg (.c U2 0))]) .ret)))))
def d79:FD:={nargs:=1,body:=c79,res:=[.t 2,.t 3]}
def c81:AC:=(.seq (.reg [0,1] [w 4 (.asg (.c .str []))]) (.seq (.seq (.reg [0,1] [m 5 1,w 6 (.bin .lss 5 (.c U2 0)),m 7 6,⟨some 8,.mv 1,some (7,false)⟩,⟨some 9,.mv 0,some (7,false)⟩,⟨some 10,.lenL 9,some (7,false)⟩,⟨some 11,.bin .geq 8 10,some (7,false)⟩,w 12 (.pick 7 (.c .bool true) 11)]) (.cond (.t 12) (.seq (.reg [] [w 4 (.asg (.c .str []))]) .ret) .skip)) (.seq (.reg [0,1] [m 13 0,m 14 1,w 15 (.indexAddr .str 13 14),w 16 (.load .str 15),w 4 (.asg 16)]) .ret)))
def d81:FD:={nargs:=2,body:=c81,res:=[.t 4]}
def c82:AC:=(.seq (.reg [] [w 0 (.asg (.nil 9 .str))]) (.seq (.reg [] [w 1 (.buildSlice 9 .str [(.c .str []),(.c .str [109,117,116,101]),(.c .str [110,101,120,116]),(.c .str [98,114,101,118,105,115]),(.c .str [105,110,100,105,102,102,101,114,101,110,116]),(.c .str [108,101,110,103,116,104,101,110]),(.c .str [115,104,111,114,116,101,110]),(.c .str [115,121,110,105,122,101,115,105,115]),(.c .str [101,108,105,115,105,111,110]),(.c .str [101,99,116,104,108,105,112,115,105,115]),(.c .str [112,114,111,100,101,108,105,115,105,111,110]),(.c .str [104,105,97,116,117,115]),(.c .str [99,111,114,114,101,112,116,105,111,110])]),w 0 (.asg 1)]) .ret))
def d82:FD:={nargs:=0,body:=c82,res:=[.t 0]}
def c85:AC:=(.seq (.reg [0] [w 2 (.asg (.c .bool false))]) (.seq (.reg [0] [m 3 0,w 4 (.bin .geq 3 (.c U1 32)),m 5 4,⟨some 6,.mv 0,some (5,true)⟩,⟨some 7,.bin .leq 6 (.c U1 126),some (5,true)⟩,w 8 (.pick 5 7 (.c .bool false)),m 9 8,⟨some 10,.mv 0,some (9,true)⟩,⟨some 11,.bin .neq 10 (.c U1 34),some (9,true)⟩,w 12 (.pick 9 11 (.c .bool false)),w 2 (.asg 12)]) .ret))
def d85:FD:={nargs:=1,body:=c85,res:=[.t 2]}
def table:Table:=fun f=>match f with
 | 6=>some d6
 | 7=>some d7
 | 8=>some d8
 | 9=>some d9
 | 11=>some d11
 | 13=>some d13
 | 14=>some d14
 | 16=>some d16
 | 17=>some d17
 | 19=>some d19
 | 21=>some d21
 | 22=>some d22
 | 23=>some d23
 | 24=>some d24
 | 25=>some d25
 | 26=>some d26
 | 27=>some d27
 | 28=>some d28
 | 29=>some d29
 | 31=>some d31
 | 32=>some d32
 | 33=>some d33
 | 35=>some d35
 | 36=>some d36
 | 37=>some d37
 | 38=>some d38
 | 39=>some d39
 | 40=>some d40
 | 41=>some d41
 | 42=>some d42
 | 43=>some d43
 | 44=>some d44
 | 45=>some d45
 | 46=>some d46
 | 49=>some d49
 | 50=>some d50
 | 52=>some d52
 | 53=>some d53
 | 54=>some d54
 | 55=>some d55
 | 56=>some d56
 | 57=>some d57
 | 58=>some d58
 | 59=>some d59
 | 61=>some d61
 | 62=>some d62
 | 63=>some d63
 | 64=>some d64
 | 65=>some d65
 | 66=>some d66
 | 67=>some d67
 | 69=>some d69
 | 70=>some d70
 | 71=>some d71
 | 72=>some d72
 | 73=>some d73
 | 74=>some d74
 | 75=>some d75
 | 76=>some d76
 | 77=>some d77
 | 78=>some d78
 | 79=>some d79
 | 80=>some d80
 | 81=>some d81
 | 82=>some d82
 | 83=>some d83
 | 84=>some d84
 | 85=>some d85
 | 87=>some d87
 | 88=>some d88
 | 89=>some d89
 | 90=>some d90
 | 92=>some d92
 | _=>none
end Go.Fw.L19
